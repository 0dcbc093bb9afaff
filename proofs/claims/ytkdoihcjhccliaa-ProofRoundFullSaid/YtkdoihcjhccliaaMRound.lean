/- The pure law of ProofRoundFull, second half. -/
import Derived.Deep.Slices
import Derived.Lib.SmallJoins
import Derived.OpenShut
import Derived.ChangeArms
import Derived.Test.YtkdoihcjhccliaaQ0
import Derived.Test.YtkdoihcjhccliaaQ10
import Derived.Test.YtkdoihcjhccliaaQ14
import Derived.Test.YtkdoihcjhccliaaQ15
import Derived.Test.YtkdoihcjhccliaaQ16
import Derived.Test.YtkdoihcjhccliaaQ19
import Derived.Test.YtkdoihcjhccliaaQ23
import Derived.Test.YtkdoihcjhccliaaQ45
import Derived.Test.YtkdoihcjhccliaaQ3
import Derived.Test.YtkdoihcjhccliaaQ4
import Derived.Test.YtkdoihcjhccliaaQ46
import Derived.Test.YtkdoihcjhccliaaQ47
import Derived.Test.YtkdoihcjhccliaaQ5
import Derived.Test.YtkdoihcjhccliaaQ60
import Derived.Test.YtkdoihcjhccliaaQ61
import Derived.Test.YtkdoihcjhccliaaQ62
import Derived.Test.YtkdoihcjhccliaaQ63
import Derived.Test.YtkdoihcjhccliaaQ64
import Derived.Test.YtkdoihcjhccliaaQ66
import Derived.Test.YtkdoihcjhccliaaQ67
import Derived.Test.YtkdoihcjhccliaaQ73
import Derived.Test.YtkdoihcjhccliaaQ74
import Derived.Test.YtkdoihcjhccliaaQ75
import Derived.Test.YtkdoihcjhccliaaQ76
import Derived.Test.YtkdoihcjhccliaaQ77
import Derived.Test.YtkdoihcjhccliaaQ79
import Derived.Test.YtkdoihcjhccliaaQ80
import Derived.Test.YtkdoihcjhccliaaQ81
import Derived.Test.YtkdoihcjhccliaaQ82
import Derived.Test.YtkdoihcjhccliaaQ83
import Derived.Test.YtkdoihcjhccliaaQ84
import Derived.Test.YtkdoihcjhccliaaMRound0
namespace Go.Proofs.Ytkdoihcjhccliaa.G
open Go.RowKit Go.Proofs.Ytkdoihcjhccliaa.Q Go.Proofs.YtkdoihcjhccliaaW.PrintWords Go.Proofs.YtkdoihcjhccliaaW.PrintLast
set_option linter.unusedVariables false

/-- The way back from a node to s. -/
inductive Way (E : List S98) (V : List Int) (s : Int) : Int → List Int → Prop
  | nil : Way E V s s []
  | cons {v : Int} {L : List Int} : v ≠ s → Way E V s (rf E (rd V v)) L → Way E V s v (rd V v :: L)

theorem Tree.way {n : Int} {E : List S98} (R : Right n E) {A V : List Int} {s : Int} {h : Int → Nat} (T : Tree n E A s V h) : ∀ (N : Nat) (v : Int), h v ≤ N → 0 ≤ v → v < n → -1 ≤ rd V v → ∃ L, Way E V s v L := by
  intro N
  induction N with
  | zero =>
    intro v hv v0 v1 r
    rcases T.el v v0 v1 with a | a | a
    · omega
    · rw [a.1]; exact ⟨[], Way.nil⟩
    · have := a.2.2.2.2.2.2; omega
  | succ N ih =>
    intro v hv v0 v1 r
    rcases T.el v v0 v1 with a | a | ⟨a1, a2, a3, a4, a5, a6, a7⟩
    · omega
    · rw [a.1]; exact ⟨[], Way.nil⟩
    · obtain ⟨f0, f1⟩ := JJ R a2 a3
      obtain ⟨L, hL⟩ := ih (rf E (rd V v)) (by omega) f0 f1 a6
      exact ⟨_, Way.cons a1 hL⟩

/-- What a way is good for. -/
structure Good (E : List S98) (A : List Int) (V : List Int) (s : Int) (h : Int → Nat) (v : Int) (L : List Int) : Prop where
  el : ∀ i ∈ L, 0 ≤ i ∧ i < 2 * (E.length : Int) ∧ 0 < rc E A i ∧ h (rf E i) < h (rt E i) ∧ h (rt E i) ≤ h v
  one : L.Pairwise fun a b => a / 2 ≠ b / 2
  len : L.length ≤ h v
  fl : ∀ w : Int, Sq E w L = (if s = w then 1 else 0) - (if v = w then 1 else 0)
theorem Tree.good {n : Int} {E : List S98} (R : Right n E) {A V : List Int} {s : Int} {h : Int → Nat} (T : Tree n E A s V h) {v : Int} {L : List Int} (W : Way E V s v L) : 0 ≤ v → v < n → -1 ≤ rd V v → Good E A V s h v L := by
  induction W with
  | nil => exact fun v0 v1 r => ⟨fun i hi => (by cases hi), List.Pairwise.nil, Nat.zero_le _, fun w => (by rw [Sq]; omega)⟩
  | @cons v L vs W ih =>
    intro v0 v1 r
    rcases T.el v v0 v1 with a | a | ⟨a1, a2, a3, a4, a5, a6, a7⟩
    · omega
    · exact absurd a.1 vs
    · obtain ⟨f0, f1⟩ := JJ R a2 a3
      have G := ih f0 f1 a6
      refine ⟨fun i hi => ?_, List.pairwise_cons.mpr ⟨fun j hj e => ?_, G.one⟩, ?_, fun w => ?_⟩
      · rcases List.mem_cons.mp hi with rfl | hi
        · exact ⟨a2, a3, a5, by rw [a4]; exact a7, by rw [a4]; exact Nat.le_refl _⟩
        · obtain ⟨b1, b2, b3, b4, b5⟩ := G.el i hi
          exact ⟨b1, b2, b3, b4, by omega⟩
      · obtain ⟨b1, b2, b3, b4, b5⟩ := G.el j hj
        by_cases q : rd V v = j
        · rw [← q, a4] at b5; omega
        · have c : rf E j = rt E (rd V v) ∧ rt E j = rf E (rd V v) := by
            unfold rf rt
            rw [← e]
            by_cases z : rd V v % 2 = 0
            · rw [if_neg (show ¬ j % 2 = 0 by omega), if_neg (show ¬ j % 2 = 0 by omega), if_pos z, if_pos z]; exact ⟨rfl, rfl⟩
            · rw [if_pos (show j % 2 = 0 by omega), if_pos (show j % 2 = 0 by omega), if_neg z, if_neg z]; exact ⟨rfl, rfl⟩
          rw [c.1, a4] at b4
          omega
      · have := G.len; rw [List.length_cons]; omega
      · rw [Sq, G.fl w, a4]
        by_cases u1 : s = w <;> by_cases u2 : rf E (rd V v) = w <;> by_cases u3 : v = w <;> simp only [u1, u2, u3, if_true, if_false] <;> omega

/-- A flow that is on its way. -/
structure Mid (n : Int) (E : List S98) (s t : Int) (A : List Int) : Prop where
  len : A.length = E.length
  fit : Il E A
  kept : ∀ v : Int, 0 ≤ v → v < n → v ≠ s → v ≠ t → net E A v E.length = 0
/-- A side that a flow fills. -/
structure Side (n : Int) (E : List S98) (s t : Int) (A : List Int) (B : List Bool) : Prop where
  len : (B.length : Int) = n
  src : fF false B s = true
  snk : fF false B t = false
  full : ∀ i : Int, 0 ≤ i → i < (E.length : Int) → fF false B (aa E i).f0 = true → fF false B (aa E i).f1 = false → rd A i = (aa E i).f2
  bare : ∀ i : Int, 0 ≤ i → i < (E.length : Int) → fF false B (aa E i).f0 = false → fF false B (aa E i).f1 = true → rd A i = 0

theorem K9 {n : Int} {E : List S98} (n1 : n ≤ 1024) {A V : List Int} (hV : (V.length : Int) = n) (d : Nat) : ∀ (i : Nat) (B : List Bool), ((i + d : Nat) : Int) = n → (B.length : Int) = n → (∀ j : Int, 0 ≤ j → j < (i : Int) → fF false B j = decide (-1 ≤ rd V j)) →
    ∃ B', Evl (fun k => aD.l1 k A V B i n E) (A, B') ∧ (B'.length : Int) = n ∧ ∀ j : Int, 0 ≤ j → j < n → fF false B' j = decide (-1 ≤ rd V j) := by
  induction d with
  | zero =>
    intro i B hi hB h
    exact ⟨B, Evl.here fun k => by rw [aD.l1, if_neg (by omega)], hB, fun j j0 j1 => h j j0 (by omega)⟩
  | succ d ih =>
    intro i B hi hB h
    have w : wrap64 ((i : Int) + 1) = ((i + 1 : Nat) : Int) := by rw [w1 (by omega) (by omega)]; rfl
    obtain ⟨B', b1, b2, b3⟩ := ih (i + 1) (B.set (i : Int).toNat (decide (rd V i ≥ -1))) (by omega) (by rw [List.length_set]; exact hB) (fun j j0 j1 => by
      rw [yF _ _ _ _ _ (by omega) (by omega) j0]
      by_cases q : j = i
      · rw [if_pos q, q]
      · rw [if_neg q]; exact h j j0 (by omega))
    exact ⟨B', b1.step fun k => by rw [aD.l1, if_pos (by omega), if_pos (by omega), if_pos (by omega), if_pos (by omega), w], b2, b3⟩

/-- The walk back along the ways. -/
theorem La {n : Int} {E : List S98} (R : Right n E) {A V : List Int} {s t : Int} {h : Int → Nat} {X : List S98} (hX : zJ E A X) (T : Tree n E A s V h) {v : Int} {L : List Int} (W : Way E V s v L) : 0 ≤ v → v < n → -1 ≤ rd V v → ∀ (M : List Int), (M.length : Int) + h v ≤ 1000000 →
    ∀ r, Evl (fun k => (bS.f k n X (M ++ L)).bind fun Ls => ((bu.f k A (M ++ L) Ls).bind fun Lt => (aD.l0 k s t Lt n E))) r → Evl (fun k => aD.l2 k s t A V M v n E n X) r := by
  induction W with
  | nil =>
    intro v0 v1 r M hM r hr
    rw [List.append_nil] at hr
    exact hr.step fun k => by rw [aD.l2, if_pos rfl]
  | @cons v L vs W ih =>
    intro v0 v1 r M hM r hr
    rcases T.el v v0 v1 with a | a | ⟨a1, a2, a3, a4, a5, a6, a7⟩
    · omega
    · exact absurd a.1 vs
    · obtain ⟨f0, f1⟩ := JJ R a2 a3
      have hx := hX.len
      have hl := T.len
      have x0 : (aa X (rd V v)).f0 = rf E (rd V v) := by rw [hX.el _ a2 a3]
      have ml : ((M ++ [rd V v]).length : Int) = (M.length : Int) + 1 := by rw [List.length_append]; rfl
      refine (ih f0 f1 a6 (M ++ [rd V v]) (by omega) r (by rw [List.append_assoc]; exact hr)).step fun k => ?_
      rw [aD.l2, if_neg vs, if_pos v0, if_pos (by omega), if_pos (by omega), if_pos a2, if_pos (by omega), x0]

theorem RD {n : Int} {E : List S98} (R : Right n E) {A : List Int} (fit : Il E A) (v : Int) : net E A v E.length ≤ 4294967296 := by
  have := (Dn (E := E) (v := v) (fit.aao R) E.length (Nat.le_refl _)).2
  have := R.m1
  omega

theorem zy {n : Int} {E : List S98} (R : Right n E) {s t : Int} (s0 : 0 ≤ s) (s1 : s < n) (t0 : 0 ≤ t) (t1 : t < n) (st : s ≠ t) {A : List Int} (M : Mid n E s t A) :
    (∃ B, Evl (fun k => aD.l0 k s t A n E) (A, B) ∧ Side n E s t A B) ∨
      ∃ A', Mid n E s t A' ∧ net E A s E.length < net E A' s E.length ∧ ∀ r, Evl (fun k => aD.l0 k s t A' n E) r → Evl (fun k => aD.l0 k s t A n E) r := by
  have n0 := R.n0
  have n1 := R.n1
  have m1 := R.m1
  obtain ⟨X, x1, hX⟩ := Rx R M.len M.fit
  obtain ⟨V, h, v1, T, C⟩ := ZX R hX s0 s1
  have hl := T.len
  have start : ∀ {r}, Evl (fun k => if rd V t = -2 then (if 0 ≤ n then (if (n : Int).toNat ≤ 281474976710656 then (aD.l1 k A V (List.replicate (n : Int).toNat false) 0 n E) else (none)) else (none)) else (aD.l2 k s t A V ([] : List Int) t n E n X)) r → Evl (fun k => aD.l0 k s t A n E) r := fun hr =>
    (Evl.bind (h := fun k FD => (aI.f k FD.1 FD.2 s).bind fun oq => (if 0 ≤ t then (if t < (oq.length : Int) then (if rd oq t = (-2) then (if 0 ≤ n then (if (n : Int).toNat ≤ 281474976710656 then (aD.l1 k A oq (List.replicate (n : Int).toNat false) 0 n E) else (none)) else (none)) else (aD.l2 k s t A oq ([] : List Int) t n E FD.1 FD.2)) else (none)) else (none))) x1
      (Evl.bind (h := fun k oq => if 0 ≤ t then (if t < (oq.length : Int) then (if rd oq t = (-2) then (if 0 ≤ n then (if (n : Int).toNat ≤ 281474976710656 then (aD.l1 k A oq (List.replicate (n : Int).toNat false) 0 n E) else (none)) else (none)) else (aD.l2 k s t A oq ([] : List Int) t n E n X)) else (none)) else (none)) v1 (hr.congr fun k => by rw [if_pos t0, if_pos (by omega)]))).step fun k => by rw [aD.l0]
  by_cases q : rd V t = -2
  · left
    obtain ⟨B, b1, b2, b3⟩ := K9 n1 (A := A) (E := E) hl n.toNat 0 (List.replicate n.toNat false) (by omega) (by rw [List.length_replicate]; omega) (fun j j0 j1 => by omega)
    refine ⟨B, start (b1.congr fun k => by rw [if_pos q, if_pos n0, if_pos (by omega)]; rfl), b2, by rw [b3 s s0 s1, T.src]; rfl, by rw [b3 t t0 t1, q]; rfl, fun i i0 i1 z0 z1 => ?_, fun i i0 i1 z0 z1 => ?_⟩
    · have e := R.e i i0 i1
      have c := C (2 * i) (by omega) (by omega)
      have a := M.fit i i0 i1
      rw [b3 _ e.a0 e.a1] at z0
      rw [b3 _ e.b0 e.b1] at z1
      have z0 := of_decide_eq_true z0
      have z1 := of_decide_eq_false z1
      unfold rc rf rt at c
      rw [if_pos (by omega), if_pos (by omega), if_pos (by omega), show 2 * i / 2 = i by omega] at c
      rcases T.el _ e.b0 e.b1 with y | y | y
      · by_cases g : 0 < (aa E i).f2 - rd A i
        · exact absurd y (c g z0)
        · omega
      · omega
      · omega
    · have e := R.e i i0 i1
      have c := C (2 * i + 1) (by omega) (by omega)
      have a := M.fit i i0 i1
      rw [b3 _ e.a0 e.a1] at z0
      rw [b3 _ e.b0 e.b1] at z1
      have z0 := of_decide_eq_false z0
      have z1 := of_decide_eq_true z1
      unfold rc rf rt at c
      rw [if_neg (by omega), if_neg (by omega), if_neg (by omega), show (2 * i + 1) / 2 = i by omega] at c
      rcases T.el _ e.a0 e.a1 with y | y | y
      · by_cases g : 0 < rd A i
        · exact absurd y (c g z1)
        · omega
      · omega
      · omega
  · right
    have rt1 : -1 ≤ rd V t := by
      rcases T.el t t0 t1 with y | y | y
      · exact absurd y q
      · omega
      · omega
    obtain ⟨L, W⟩ := T.way R (h t) t (Nat.le_refl _) t0 t1 rt1
    have G := T.good R W t0 t1 rt1
    have ht := T.top t
    have Ln : L ≠ [] := by
      cases W with
      | nil => exact absurd rfl st
      | cons _ _ => simp
    have Ll : (L.length : Int) ≤ 1000000 := by have := G.len; omega
    obtain ⟨x, r1, r2, j, r3, r4⟩ := Vd n hX Ll Ln (fun i hi => ⟨(G.el i hi).1, (G.el i hi).2.1⟩)
    have xp : 0 < x := by rw [r4]; exact (G.el j r3).2.2.1
    have F : Fit E A L x := ⟨by omega, fun i hi => ⟨(G.el i hi).1, (G.el i hi).2.1, r2 i hi⟩, G.one⟩
    have net' : ∀ w, net E (chg x A L) w E.length = net E A w E.length + x * Sq E w L := fun w => JI L A M.len F
    refine ⟨chg x A L, ⟨by rw [JG]; exact M.len, JH L A M.len M.fit F, fun v v0 v1 a b => ?_⟩, ?_, fun r hr => ?_⟩
    · rw [net', G.fl, M.kept v v0 v1 a b, if_neg (fun e => a e.symm), if_neg (fun e => b e.symm)]; omega
    · rw [net', G.fl, if_pos rfl, if_neg (fun e => st e.symm)]; omega
    · refine start ((La R hX T W t0 t1 rt1 [] (by rw [List.length_nil]; omega) r ?_).congr fun k => by rw [if_neg q])
      rw [List.nil_append]
      exact Evl.bind (h := fun k Ls => (bu.f k A L Ls).bind fun Lt => aD.l0 k s t Lt n E) r1 (Evl.bind (h := fun k Lt => aD.l0 k s t Lt n E) (Kt R Ll M.len M.fit F) hr)

theorem Lb {n : Int} {E : List S98} (R : Right n E) {s t : Int} (s0 : 0 ≤ s) (s1 : s < n) (t0 : 0 ≤ t) (t1 : t < n) (st : s ≠ t) (N : Nat) : ∀ A : List Int, (4294967296 - net E A s E.length).toNat ≤ N → Mid n E s t A →
    ∃ A' B, Evl (fun k => aD.l0 k s t A n E) (A', B) ∧ Mid n E s t A' ∧ Side n E s t A' B := by
  induction N with
  | zero =>
    intro A hN M
    rcases zy R s0 s1 t0 t1 st M with ⟨B, b1, b2⟩ | ⟨A', a1, a2, a3⟩
    · exact ⟨A, B, b1, M, b2⟩
    · have := RD R a1.fit s; omega
  | succ N ih =>
    intro A hN M
    rcases zy R s0 s1 t0 t1 st M with ⟨B, b1, b2⟩ | ⟨A', a1, a2, a3⟩
    · exact ⟨A, B, b1, M, b2⟩
    · obtain ⟨A2, B, c1, c2, c3⟩ := ih A' (by have := RD R a1.fit s; omega) a1
      exact ⟨A2, B, a3 _ c1, c2, c3⟩
theorem Ug (E : List S98) (k : Nat) (v : Int) : ∀ i : Nat, net E (List.replicate k 0) v i = 0 := by
  have z : ∀ j : Int, rd (List.replicate k (0 : Int)) j = 0 := fun j => by
    unfold rd; rw [List.getD_eq_getElem?_getD, List.getElem?_replicate]; split <;> rfl
  intro i
  induction i with
  | zero => rfl
  | succ i ih => simp only [net]; rw [ih, z]; split <;> split <;> rfl
/-- There is a greatest flow, and the document finds it, with its side. -/
theorem RF {n : Int} {E : List S98} (R : Right n E) {s t : Int} (s0 : 0 ≤ s) (s1 : s < n) (t0 : 0 ≤ t) (t1 : t < n) (st : s ≠ t) :
    ∃ A B, Evl (fun k => aD.f k n E s t) (A, B) ∧ Mid n E s t A ∧ Side n E s t A B := by
  have m1 := R.m1
  have M : Mid n E s t (List.replicate E.length 0) := ⟨by rw [List.length_replicate], fun i i0 i1 => by
    have c0 := (R.e i i0 i1).c0
    rw [gT _ _ _ i0 i1]; exact ⟨Int.le_refl _, c0⟩, fun v _ _ _ _ => Ug E _ v _⟩
  obtain ⟨A, B, a1, a2, a3⟩ := Lb R s0 s1 t0 t1 st _ _ (Nat.le_refl _) M
  refine ⟨A, B, a1.congr fun k => ?_, a2, a3⟩
  rw [aD.f, if_pos (by omega), if_pos (by omega)]; rfl
theorem RG {n : Int} {E : List S98} (R : Right n E) {s t : Int} {B : List Bool} {A : List Int} (S : Side n E s t A B) : ∀ i : Nat, i ≤ E.length → HZ (ind B) E A i = cut E B i := by
  intro i
  induction i with
  | zero => intro _; rfl
  | succ i ih =>
    intro hi
    have a := ih (by omega)
    simp only [HZ, cut, ind]
    rw [a]
    by_cases q0 : fF false B (aa E i).f0 = true
    · by_cases q1 : fF false B (aa E i).f1 = true
      · rw [if_pos q0, if_pos q1, if_neg (by rw [q1]; simp)]; omega
      · have f := S.full i (by omega) (by omega) q0 (by simpa using q1)
        rw [if_pos q0, if_neg q1, if_pos ⟨q0, by simpa using q1⟩, f]; omega
    · rw [if_neg q0, if_neg (show ¬ (fF false B (aa E i).f0 = true ∧ fF false B (aa E i).f1 = false) from fun h => q0 h.1)]
      by_cases q1 : fF false B (aa E i).f1 = true
      · have f := S.bare i (by omega) (by omega) (by simpa using q0) q1
        rw [if_pos q1, f]; omega
      · rw [if_neg q1]; omega
theorem Uh {n : Int} {E : List S98} (R : Right n E) {s t : Int} (s0 : 0 ≤ s) (s1 : s < n) {B : List Bool} {A : List Int} (M : Mid n E s t A) (S : Side n E s t A B) : net E A s E.length = cut E B E.length := by
  have n0 := R.n0
  have a := Rp (E := E) (A := A) (i := E.length) S.src S.snk s0 n.toNat (fun u a b c d => M.kept u a (by omega) c d)
  rw [if_pos (by omega), yG R (ind B) A E.length (Nat.le_refl _)] at a
  rw [← a]
  exact RG R S E.length (Nat.le_refl _)
end Go.Proofs.Ytkdoihcjhccliaa.G
namespace Go.Proofs.Ytkdoihcjhccliaa.G
open Go.RowKit Go.Proofs.Ytkdoihcjhccliaa.Q Go.Proofs.YtkdoihcjhccliaaW.PrintWords Go.Proofs.YtkdoihcjhccliaaW.PrintLast
set_option linter.unusedVariables false

theorem Ve (n : Int) (E : List S98) (hm : (E.length : Int) ≤ 100000) : Evl (fun k => bK.f k n E) (n, E) := by
  have loop : ∀ (d i : Nat), i + d = E.length → Evl (fun k => bK.l0 k i n E n (E.take i)) (n, E) := by
    intro d
    induction d with
    | zero =>
      intro i hi
      rw [List.take_of_length_le (by omega)]
      exact Evl.here fun k => by rw [bK.l0, if_neg (by omega)]
    | succ d ih =>
      intro i hi
      have tk : E.take (i + 1) = E.take i ++ [(⟨(aa E i).f0, (aa E i).f1, (aa E i).f2, (aa E i).f3⟩ : S98)] := by
        rw [List.take_succ_eq_append_getElem (by omega)]
        unfold aa; rw [List.getD_eq_getElem?_getD, show ((i : Int).toNat) = i by omega, List.getElem?_eq_getElem (by omega)]; rfl
      have hl : (E.take i).length ≤ E.length := List.length_take_le' i E
      refine (ih (i + 1) (by omega)).step fun k => ?_
      rw [bK.l0, if_pos (by omega), if_pos (by omega), if_pos (by omega), w1 (by omega) (by omega), tk]; rfl
  exact (loop E.length 0 (by omega)).congr fun k => rfl

theorem Q9.mem {E : List S98} {L : List Int} (h : Q9 E L) : ∀ i ∈ L, 0 ≤ i ∧ i < (E.length : Int) := fun i hi => by
  obtain ⟨j, j0, j1, rfl⟩ := aep hi
  have := h.el j.toNat (by omega)
  rw [show ((j.toNat : Nat) : Int) = j by omega] at this; exact this
theorem Lc (m : Nat) : ∀ l : List Int, l.Nodup → (∀ x ∈ l, 0 ≤ x ∧ x < (m : Int)) → l.length ≤ m := by
  induction m with
  | zero =>
    intro l _ h
    cases l with
    | nil => exact Nat.le_refl _
    | cons a t => have := h a (by simp); omega
  | succ m ih =>
    intro l hl h
    have := ih (l.erase (m : Int)) (hl.erase _) (fun x hx => by
      rw [hl.mem_erase_iff] at hx
      have := h x hx.2
      have := hx.1
      omega)
    rw [List.length_erase] at this
    split at this <;> omega
theorem RH {l : List Int} {f : Int → Int} (h : ∀ i j : Int, 0 ≤ i → i < j → j < (l.length : Int) → f (rd l i) ≠ f (rd l j)) : (l.map f).Nodup := by
  rw [List.Nodup, List.pairwise_iff_getElem]
  intro i j hi hj hij
  rw [List.length_map] at hi hj
  rw [List.getElem_map, List.getElem_map]
  have := h (i : Int) (j : Int) (by omega) (by omega) (by omega)
  unfold rd at this
  rw [List.getD_eq_getElem?_getD, List.getD_eq_getElem?_getD, show ((i : Int)).toNat = i by omega, show ((j : Int)).toNat = j by omega, List.getElem?_eq_getElem hi, List.getElem?_eq_getElem hj] at this
  exact this
end Go.Proofs.Ytkdoihcjhccliaa.G
namespace Go.Proofs.Ytkdoihcjhccliaa.G
open Go.RowKit Go.Proofs.Ytkdoihcjhccliaa.Q Go.Proofs.YtkdoihcjhccliaaW.PrintWords Go.Proofs.YtkdoihcjhccliaaW.PrintLast
set_option linter.unusedVariables false

/-- Potentials prove the amounts cheapest. -/
def Ui (E : List S98) (A P : List Int) : Prop := ∀ i : Int, 0 ≤ i → i < (E.length : Int) → (red P 1 (aa E i) > 0 → rd A i = 0) ∧ (red P 1 (aa E i) < 0 → rd A i = (aa E i).f2)
/-- Amounts that fit and meet the supplies. -/
structure JK (n : Int) (E : List S98) (S A : List Int) : Prop where
  len : A.length = E.length
  fit : Il E A
  out : ∀ v : Int, 0 ≤ v → v < n → net E A v E.length = rd S v

/-- What is supplied on a side. -/
def RI (B : List Bool) (S : List Int) : Nat → Int
  | 0 => 0
  | i + 1 => RI B S i + (if fF false B i = true then rd S i else 0)
end Go.Proofs.Ytkdoihcjhccliaa.G
namespace Go.Proofs.Ytkdoihcjhccliaa.G
open Go.RowKit Go.Proofs.Ytkdoihcjhccliaa.Q Go.Proofs.YtkdoihcjhccliaaW.PrintWords Go.Proofs.YtkdoihcjhccliaaW.PrintLast
set_option linter.unusedVariables false

/-- U: the edges of X with room, W: which they are. -/
structure Use (X : List S98) (i : Nat) (U : List S98) (W : List Int) : Prop where
  len : U.length = W.length
  le : W.length ≤ i
  el : ∀ k : Int, 0 ≤ k → k < (W.length : Int) → 0 ≤ rd W k ∧ rd W k < (i : Int) ∧ 0 < (aa X (rd W k)).f2 ∧ aa U k = aa X (rd W k)
  all : ∀ j : Int, 0 ≤ j → j < (i : Int) → 0 < (aa X j).f2 → ∃ k : Int, 0 ≤ k ∧ k < (W.length : Int) ∧ rd W k = j
theorem Uj (n : Int) (X : List S98) (hm : (X.length : Int) ≤ 100000) : ∃ U W, Evl (fun k => bA.f k n X) (n, U, W) ∧ Use X X.length U W := by
  have loop : ∀ (d i : Nat) (U : List S98) (W : List Int), i + d = X.length → Use X i U W → ∃ U' W', Evl (fun k => bA.l0 k W i n X n U) (n, U', W') ∧ Use X X.length U' W' := by
    intro d
    induction d with
    | zero =>
      intro i U W hi h
      have e : i = X.length := by omega
      subst e
      exact ⟨U, W, Evl.here fun k => by rw [bA.l0, if_neg (by omega)], h⟩
    | succ d ih =>
      intro i U W hi h
      have w : wrap64 ((i : Int) + 1) = ((i + 1 : Nat) : Int) := by rw [w1 (by omega) (by omega)]; rfl
      have h1 := h.len
      have h2 := h.le
      by_cases q : (aa X i).f2 > 0
      · obtain ⟨U', W', a, b⟩ := ih (i + 1) (U ++ [(⟨(aa X i).f0, (aa X i).f1, (aa X i).f2, (aa X i).f3⟩ : S98)]) (W ++ [(i : Int)]) (by omega) ⟨by simp; omega, by simp; omega, fun k k0 k1 => by
          have k1' : k < (W.length : Int) + 1 := by simpa using k1
          by_cases z : k < (W.length : Int)
          · obtain ⟨x1, x2, x3, x4⟩ := h.el k k0 z
            rw [wD _ _ _ k0, if_pos z, zf _ _ _ k0 (by omega)]
            exact ⟨x1, by omega, x3, x4⟩
          · have e : k = (W.length : Int) := by omega
            rw [wD _ _ _ k0, if_neg z, F9 _ _ _ (by omega), show k - (W.length : Int) = 0 by omega]
            exact ⟨by show (0 : Int) ≤ i; omega, by show (i : Int) < _; omega, q, rfl⟩, fun j j0 j1 hj => by
          by_cases z : j < (i : Int)
          · obtain ⟨k, k0, k1, e⟩ := h.all j j0 z hj
            exact ⟨k, k0, by simp; omega, by rw [wD _ _ _ k0, if_pos k1]; exact e⟩
          · exact ⟨(W.length : Int), by omega, by simp; omega, by rw [wD _ _ _ (by omega), if_neg (by omega), Int.sub_self]; show (i : Int) = j; omega⟩⟩
        exact ⟨U', W', a.step fun k => by rw [bA.l0, if_pos (by omega), if_pos (by omega), if_pos q, if_pos (by omega), if_pos (by omega), w], b⟩
      · obtain ⟨U', W', a, b⟩ := ih (i + 1) U W (by omega) ⟨h1, by omega, fun k k0 k1 => by
          obtain ⟨x1, x2, x3, x4⟩ := h.el k k0 k1
          exact ⟨x1, by omega, x3, x4⟩, fun j j0 j1 hj => by
          by_cases z : j = i
          · rw [z] at hj; exact absurd hj q
          · exact h.all j j0 (by omega) hj⟩
        exact ⟨U', W', a.step fun k => by rw [bA.l0, if_pos (by omega), if_pos (by omega), if_neg q, w], b⟩
  obtain ⟨U, W, a, b⟩ := loop X.length 0 [] [] (by omega) ⟨rfl, Nat.le_refl _, fun k k0 k1 => by simp at k1; omega, fun j j0 j1 => by omega⟩
  exact ⟨U, W, a.congr fun k => rfl, b⟩

theorem aeA (W L : List Int) (k : Int) (k0 : 0 ≤ k) (k1 : k < (L.length : Int)) : rd (L.map (rd W)) k = rd W (rd L k) := by
  unfold rd
  rw [List.getD_eq_getElem?_getD, List.getElem?_map, List.getD_eq_getElem?_getD, List.getD_eq_getElem?_getD, List.getElem?_eq_getElem (show k.toNat < L.length by omega)]; rfl
/-- A circle of edges with room is one of the residual. -/
theorem Q9.use {X U : List S98} {W L : List Int} (h : Use X X.length U W) (c : Q9 U L) : Q9 X (L.map (rd W)) := by
  have hl := h.len
  have el : ∀ j : Nat, j < L.length → 0 ≤ rd L j ∧ rd L j < (W.length : Int) := fun j hj => by have := c.el j hj; omega
  have rm : ∀ j : Nat, j < L.length → rd (L.map (rd W)) j = rd W (rd L j) := fun j hj => aeA W L j (by omega) (by omega)
  have eq : ∀ j : Nat, j < L.length → aa X (rd (L.map (rd W)) j) = aa U (rd L j) := fun j hj => by
    obtain ⟨a, b⟩ := el j hj
    rw [rm j hj]; exact (h.el _ a b).2.2.2.symm
  have pos := c.pos
  have lm : (L.map (rd W)).length = L.length := List.length_map ..
  refine ⟨by rw [lm]; exact pos, fun j hj => ?_, fun j hj => ?_, ?_, fun i j ij hj => ?_⟩
  · rw [lm] at hj
    obtain ⟨a, b⟩ := el j hj
    have := h.el _ a b
    rw [rm j hj]; exact ⟨this.1, by omega⟩
  · rw [lm] at hj
    rw [eq j (by omega), eq (j + 1) hj]; exact c.on j hj
  · rw [lm, eq _ (by omega)]
    have e0 := eq 0 pos
    rw [show ((0 : Nat) : Int) = 0 from rfl] at e0
    rw [e0]; exact c.cl
  · rw [lm] at hj
    rw [eq i (by omega), eq j hj]; exact c.once i j ij hj
theorem RJ {X U : List S98} {W : List Int} (h : Use X X.length U W) : ∀ L : List Int, (∀ i ∈ L, 0 ≤ i ∧ i < (W.length : Int)) → cst X (L.map (rd W)) = cst U L
  | [], _ => rfl
  | i :: L, hi => by
    obtain ⟨a, b⟩ := hi i (List.mem_cons_self ..)
    rw [List.map_cons, cst, cst, RJ h L (fun j hj => hi j (List.mem_cons_of_mem _ hj)), (h.el i a b).2.2.2]

/-- What the first of these edges bring to a node, less what they take. -/
def fs (X : List S98) (v : Int) (L : List Int) : Nat → Int
  | 0 => 0
  | k + 1 => fs X v L k + (if (aa X (rd L k)).f0 = v then 1 else 0) - (if (aa X (rd L k)).f1 = v then 1 else 0)
theorem RL (X : List S98) (v x : Int) (L : List Int) : ∀ k : Nat, fs X v (x :: L) (k + 1) = (if (aa X x).f0 = v then 1 else 0) - (if (aa X x).f1 = v then 1 else 0) + fs X v L k
  | 0 => by show 0 + (if (aa X x).f0 = v then 1 else 0) - (if (aa X x).f1 = v then 1 else 0) = _ - _ + 0; omega
  | k + 1 => by
    have e : fs X v (x :: L) (k + 1 + 1) = fs X v (x :: L) (k + 1) + (if (aa X (rd (x :: L) ((k + 1 : Nat) : Int))).f0 = v then 1 else 0) - (if (aa X (rd (x :: L) ((k + 1 : Nat) : Int))).f1 = v then 1 else 0) := rfl
    rw [e, RL X v x L k, Km _ _ _ (by omega), show ((k + 1 : Nat) : Int) - 1 = (k : Int) by omega, fs]; omega
theorem RN {E X : List S98} {A : List Int} (hX : zJ E A X) (v : Int) : ∀ L : List Int, (∀ i ∈ L, 0 ≤ i ∧ i < 2 * (E.length : Int)) → Sq E v L = fs X v L L.length
  | [], _ => rfl
  | i :: L, hi => by
    obtain ⟨a, b⟩ := hi i (List.mem_cons_self ..)
    have e0 : (aa X i).f0 = rf E i := by rw [hX.el i a b]
    have e1 : (aa X i).f1 = rt E i := by rw [hX.el i a b]
    rw [List.length_cons, RL, Sq, RN hX v L (fun j hj => hi j (List.mem_cons_of_mem _ hj)), e0, e1]; omega
theorem Q9.fs0 {X : List S98} {L : List Int} (c : Q9 X L) (v : Int) : fs X v L L.length = 0 := by
  have key : ∀ k : Nat, k + 1 ≤ L.length → fs X v L (k + 1) = (if (aa X (rd L 0)).f0 = v then 1 else 0) - (if (aa X (rd L k)).f1 = v then 1 else 0) := by
    intro k
    induction k with
    | zero => intro _; rw [fs, fs]; show 0 + _ - _ = _; rw [Int.zero_add]; rfl
    | succ k ih =>
      intro hk
      rw [fs, ih (by omega), c.on k (by omega)]
      omega
  have pos := c.pos
  have := key (L.length - 1) (by omega)
  rw [show L.length - 1 + 1 = L.length by omega, c.cl] at this
  rw [this]; omega

theorem aeB (E : List S98) {i j : Int} (h : i / 2 = j / 2) (ne : i ≠ j) : rf E i = rt E j ∧ rt E i = rf E j ∧ rk E i = -rk E j := by
  unfold rf rt rk
  rw [← h]
  by_cases z : i % 2 = 0
  · rw [if_pos z, if_pos z, if_pos z, if_neg (show ¬ j % 2 = 0 by omega), if_neg (show ¬ j % 2 = 0 by omega), if_neg (show ¬ j % 2 = 0 by omega)]
    exact ⟨rfl, rfl, by omega⟩
  · rw [if_neg z, if_neg z, if_neg z, if_pos (show j % 2 = 0 by omega), if_pos (show j % 2 = 0 by omega), if_pos (show j % 2 = 0 by omega)]
    exact ⟨rfl, rfl, rfl⟩
/-- A circle below nothing never takes back what it has just put. -/
theorem Q9.one {E X : List S98} {A L : List Int} (hX : zJ E A X) (c : Q9 X L) (neg : cst X L < 0) : L.Pairwise fun a b => a / 2 ≠ b / 2 := by
  have hl := hX.len
  have r0 : ∀ j : Nat, j < L.length → 0 ≤ rd L j ∧ rd L j < 2 * (E.length : Int) := fun j hj => by have := c.el j hj; omega
  have f0 : ∀ j : Nat, j < L.length → (aa X (rd L j)).f0 = rf E (rd L j) := fun j hj => by rw [hX.el _ (r0 j hj).1 (r0 j hj).2]
  have f1 : ∀ j : Nat, j < L.length → (aa X (rd L j)).f1 = rt E (rd L j) := fun j hj => by rw [hX.el _ (r0 j hj).1 (r0 j hj).2]
  rw [List.pairwise_iff_getElem]
  intro i j hi hj ij e
  have gi : L[i] = rd L i := by unfold rd; rw [List.getD_eq_getElem?_getD, show ((i : Int).toNat) = i by omega, List.getElem?_eq_getElem hi]; rfl
  have gj : L[j] = rd L j := by unfold rd; rw [List.getD_eq_getElem?_getD, show ((j : Int).toNat) = j by omega, List.getElem?_eq_getElem hj]; rfl
  rw [gi, gj] at e
  have on := c.once i j ij hj
  rw [f1 i hi, f1 j hj] at on
  by_cases q : rd L i = rd L j
  · exact on (by rw [q])
  · obtain ⟨o1, o2, o3⟩ := aeB E e q
    have uniq : ∀ a b : Nat, a < L.length → b < L.length → rt E (rd L a) = rt E (rd L b) → a = b := fun a b ha hb h => by
      rcases Nat.lt_trichotomy a b with z | z | z
      · exact absurd (by rw [f1 a ha, f1 b hb]; exact h) (c.once a b z hb)
      · exact z
      · exact absurd (by rw [f1 a ha, f1 b hb]; exact h.symm) (c.once b a z ha)
    -- what is ahead of j ends where j begins
    have pj : rt E (rd L ((j - 1 : Nat) : Int)) = rf E (rd L j) := by
      have := c.on (j - 1) (by omega)
      rw [show j - 1 + 1 = j by omega, f1 _ (by omega), f0 j hj] at this; exact this
    have e1 : i = j - 1 := uniq i (j - 1) hi (by omega) (by rw [pj]; exact o2)
    have e2 : j = (if i = 0 then L.length - 1 else i - 1) := by
      by_cases z : i = 0
      · rw [if_pos z]
        refine uniq j (L.length - 1) hj (by omega) ?_
        have := c.cl
        rw [f1 _ (by omega)] at this
        have f00 := f0 0 (by omega)
        rw [show ((0 : Nat) : Int) = 0 from rfl] at f00
        rw [f00] at this
        rw [this, ← o1, z]; rfl
      · rw [if_neg z]
        refine uniq j (i - 1) hj (by omega) ?_
        have := c.on (i - 1) (by omega)
        rw [show i - 1 + 1 = i by omega, f1 _ (by omega), f0 i hi] at this
        rw [this]; exact o1.symm
    have i0 : i = 0 := by
      by_cases z : i = 0
      · exact z
      · rw [if_neg z] at e2; omega
    rw [if_pos i0] at e2
    have l2 : L.length = 2 := by omega
    have j1 : j = 1 := by omega
    subst i0 j1
    have : cst X L = 0 := by
      match L, l2 with
      | [a, b], _ =>
        have ea : rd [a, b] ((0 : Nat) : Int) = a := rfl
        have eb : rd [a, b] ((1 : Nat) : Int) = b := rfl
        have ra := r0 0 (by simp)
        have rb := r0 1 (by simp)
        rw [ea] at ra o3
        rw [eb] at rb o3
        show (aa X a).f3 + ((aa X b).f3 + 0) = 0
        rw [hX.el a ra.1 ra.2, hX.el b rb.1 rb.2]
        show rk E a + (rk E b + 0) = 0
        omega
    omega

theorem Uk {E : List S98} {A : List Int} {i x : Int} (hA : A.length = E.length) (h0 : 0 ≤ i) (h1 : i < 2 * (E.length : Int)) : ∀ m : Nat, m ≤ E.length → cost E (put A i x) m = cost E A m + (if i / 2 < (m : Int) then rk E i * x else 0) := by
  intro m
  induction m with
  | zero => intro _; rw [if_neg (by omega)]; rfl
  | succ m ih =>
    intro hm
    simp only [cost]
    rw [ih (by omega), Kr hA h0 h1 m (by omega)]
    by_cases q : (m : Int) = i / 2
    · rw [if_pos q, if_neg (show ¬ i / 2 < (m : Int) by omega), if_pos (show i / 2 < ((m + 1 : Nat) : Int) by omega), ← q]
      unfold rk
      rw [← q]
      by_cases e : i % 2 = 0
      · rw [if_pos e, if_pos e, Int.mul_add]; omega
      · rw [if_neg e, if_neg e, Int.mul_sub, Int.neg_mul]; omega
    · rw [if_neg q]
      by_cases q1 : i / 2 < (m : Int)
      · rw [if_pos q1, if_pos (show i / 2 < ((m + 1 : Nat) : Int) by omega)]; omega
      · rw [if_neg q1, if_neg (show ¬ i / 2 < ((m + 1 : Nat) : Int) by omega)]; omega
theorem Ku {E X : List S98} {A0 : List Int} (hX : zJ E A0 X) {x : Int} : ∀ (L A : List Int), A.length = E.length → Fit E A L x → cost E (chg x A L) E.length = cost E A E.length + cst X L * x
  | [], A, _, _ => by rw [chg, cst]; omega
  | i :: L, A, hA, h => by
    obtain ⟨a0, a1, a2⟩ := h.el i (List.mem_cons_self ..)
    rw [chg, Ku hX L _ (by rw [Dq]; exact hA) (h.tail hA), Uk hA a0 a1 _ (Nat.le_refl _), if_pos (by omega), cst, hX.el i a0 a1, Int.add_mul]
    show _ + rk E i * x + _ = _ + (rk E i * x + _)
    omega
theorem Ul {n : Int} {E : List S98} (R : Right n E) {A : List Int} (fit : Il E A) : ∀ m : Nat, m ≤ E.length → -(m * 1099511627776 : Int) ≤ cost E A m := by
  intro m
  induction m with
  | zero => intro _; simp [cost]
  | succ m ih =>
    intro hm
    have a := ih (by omega)
    have e := R.e m (by omega) (by omega)
    have f := fit m (by omega) (by omega)
    have c1 := e.c1
    have o := Kq e (a := rd A m) f.1 (by omega)
    simp only [cost]
    push_cast
    omega

theorem Ld {n : Int} {E X U : List S98} {A W L : List Int} (h : Use X X.length U W) (hx : (X.length : Int) ≤ 100000) (hi : ∀ i ∈ L, 0 ≤ i ∧ i < (W.length : Int)) (hL : (L.length : Int) ≤ 100000) (d : Nat) : ∀ i : Nat, i + d = L.length →
    ∀ z, Evl (fun k => (aJ.f k n E A).bind fun G9 => ((bS.f k G9.1 G9.2 (L.map (rd W))).bind fun PQ => ((bu.f k A (L.map (rd W)) PQ).bind fun Lr => (ai.l1 k Lr n E)))) z → Evl (fun k => ai.l2 k A W L ((L.map (rd W)).take i) i n E) z := by
  have lm : (L.map (rd W)).length = L.length := List.length_map ..
  induction d with
  | zero =>
    intro i hi' z hz
    rw [List.take_of_length_le (by omega)]
    exact hz.step fun k => by rw [ai.l2, if_neg (by omega)]
  | succ d ih =>
    intro i hi' z hz
    have w : wrap64 ((i : Int) + 1) = ((i + 1 : Nat) : Int) := by rw [w1 (by omega) (by omega)]; rfl
    obtain ⟨a, b⟩ := hi _ (Q3 L i (by omega) (by omega))
    have tk : (L.map (rd W)).take (i + 1) = (L.map (rd W)).take i ++ [rd W (rd L i)] := by
      rw [List.take_succ_eq_append_getElem (by omega), List.getElem_map]
      congr 2
      unfold rd; rw [List.getD_eq_getElem?_getD (l := L), show ((i : Int).toNat) = i by omega, List.getElem?_eq_getElem (by omega)]; rfl
    have tl : ((L.map (rd W)).take i).length ≤ L.length := by rw [List.length_take]; omega
    have nxt := ih (i + 1) (by omega) z hz
    rw [tk] at nxt
    refine nxt.step fun k => ?_
    rw [ai.l2, if_pos (by omega), if_pos (by omega), if_pos a, if_pos b, if_pos (by omega), w]
end Go.Proofs.Ytkdoihcjhccliaa.G
namespace Go.Proofs.Ytkdoihcjhccliaa.G
open Go.RowKit Go.Proofs.Ytkdoihcjhccliaa.Q Go.Proofs.YtkdoihcjhccliaaW.PrintWords Go.Proofs.YtkdoihcjhccliaaW.PrintLast
set_option linter.unusedVariables false

theorem rc_le {n : Int} {E : List S98} (R : Right n E) {A : List Int} (fit : Il E A) {i : Int} (h0 : 0 ≤ i) (h1 : i < 2 * (E.length : Int)) : rc E A i ≤ 1048576 := by
  have e := R.e (i / 2) (by omega) (by omega)
  have f := fit (i / 2) (by omega) (by omega)
  have c1 := e.c1
  unfold rc; split <;> omega
theorem rk_in {n : Int} {E : List S98} (R : Right n E) {i : Int} (h0 : 0 ≤ i) (h1 : i < 2 * (E.length : Int)) : -1048576 ≤ rk E i ∧ rk E i ≤ 1048576 := by
  have e := R.e (i / 2) (by omega) (by omega)
  have d0 := e.d0
  have d1 := e.d1
  unfold rk; split <;> omega
theorem RO {n : Int} {E X U : List S98} {A W : List Int} (R : Right n E) (m6 : (E.length : Int) ≤ 2000) (fit : Il E A) (hX : zJ E A X) (h : Use X X.length U W) : Right n U ∧ Gr n U 1048576 := by
  have n0 := R.n0
  have n1 := R.n1
  have hx := hX.len
  have hl := h.len
  have hw := h.le
  have ee : ∀ i : Int, 0 ≤ i → i < (U.length : Int) → zw n (aa U i) := fun i i0 i1 => by
    obtain ⟨a, b, c, d⟩ := h.el i i0 (by omega)
    have xe := hX.el _ a (by omega)
    obtain ⟨f0, f1⟩ := JJ R a (show rd W i < 2 * (E.length : Int) by omega)
    obtain ⟨t0, t1⟩ := Uc R a (show rd W i < 2 * (E.length : Int) by omega)
    obtain ⟨k0, k1⟩ := rk_in R a (show rd W i < 2 * (E.length : Int) by omega)
    have c1 := rc_le R fit a (show rd W i < 2 * (E.length : Int) by omega)
    rw [xe] at c
    rw [d, xe]
    exact ⟨f0, f1, t0, t1, Int.le_of_lt c, c1, k0, k1⟩
  refine ⟨⟨n0, n1, by omega, ee⟩, ⟨n0, by omega, by omega, by decide, by decide, fun i i0 i1 => ?_⟩⟩
  have e := ee i i0 i1
  exact ⟨⟨e.a0, e.a1⟩, ⟨e.b0, e.b1⟩, e.d0, e.d1⟩

theorem H8 {n : Int} {E : List S98} (R : Right n E) (m6 : (E.length : Int) ≤ 2000) {S A : List Int} (M : JK n E S A) :
    (∃ P, Evl (fun k => ai.l1 k A n E) (A, P, [], true) ∧ yH n P ∧ Ui E A P) ∨
      ∃ A', JK n E S A' ∧ cost E A' E.length < cost E A E.length ∧ ∀ z, Evl (fun k => ai.l1 k A' n E) z → Evl (fun k => ai.l1 k A n E) z := by
  have n0 := R.n0
  have n1 := R.n1
  obtain ⟨X, x1, hX⟩ := Rx R M.len M.fit
  have hx := hX.len
  obtain ⟨U, W, u1, h⟩ := Uj n X (by omega)
  obtain ⟨RU, g⟩ := RO R m6 M.fit hX h
  obtain ⟨L, l1, l2⟩ := ZQ g
  have hl := h.len
  have hw := h.le
  have go : ∀ {z}, Evl (fun k => if (L.length : Int) = 0 then ((bL.f k n U).bind fun Cj => (some (A, Cj.1, ([] : List Bool), true))) else (ai.l2 k A W L ([] : List Int) 0 n E)) z → Evl (fun k => ai.l1 k A n E) z := fun hz =>
    (Evl.bind (h := fun k (PO : Int × List S98) => (bA.f k PO.1 PO.2).bind fun vD => ((ah.f k vD.1 vD.2.1).bind fun xM => (if (xM.length : Int) = 0 then ((bL.f k vD.1 vD.2.1).bind fun Cj => (some (A, Cj.1, ([] : List Bool), true))) else (ai.l2 k A vD.2.2 xM ([] : List Int) 0 n E)))) x1
      (Evl.bind (h := fun k (vD : Int × List S98 × List Int) => (ah.f k vD.1 vD.2.1).bind fun xM => (if (xM.length : Int) = 0 then ((bL.f k vD.1 vD.2.1).bind fun Cj => (some (A, Cj.1, ([] : List Bool), true))) else (ai.l2 k A vD.2.2 xM ([] : List Int) 0 n E))) u1
        (Evl.bind (h := fun k xM => if (xM.length : Int) = 0 then ((bL.f k n U).bind fun Cj => (some (A, Cj.1, ([] : List Bool), true))) else (ai.l2 k A W xM ([] : List Int) 0 n E)) l1 hz))).step fun k => by rw [ai.l1]
  rcases l2 with ⟨rfl, feas⟩ | ⟨c, neg⟩
  · left
    obtain ⟨P, p1, p2, p3⟩ := H6 RU g (by decide) (F := fun v => rd (rnd n U n.toNat) v) (fun i i0 i1 => by
      have := feas i.toNat (by omega)
      rw [show ((i.toNat : Nat) : Int) = i by omega] at this; exact this)
    have res : ∀ j : Int, 0 ≤ j → j < 2 * (E.length : Int) → 0 < rc E A j → rd P (rt E j) ≤ rd P (rf E j) + rk E j := fun j j0 j1 hj => by
      obtain ⟨k, k0, k1, e⟩ := h.all j j0 (by omega) (by rw [hX.el j j0 j1]; exact hj)
      obtain ⟨-, -, -, d⟩ := h.el k k0 k1
      have := p3 k k0 (by omega)
      rw [d, e, hX.el j j0 j1] at this; exact this
    refine ⟨P, go ((Evl.bind (h := fun k Cj => some (A, Cj.1, ([] : List Bool), true)) p1 Evl.pure).congr fun k => by rw [if_pos (show (([] : List Int).length : Int) = 0 from rfl)]), p2, fun i i0 i1 => ?_⟩
    have f := M.fit i i0 i1
    have a := res (2 * i) (by omega) (by omega)
    have b := res (2 * i + 1) (by omega) (by omega)
    unfold rc rt rf rk at a b
    rw [if_pos (show 2 * i % 2 = 0 by omega), if_pos (show 2 * i % 2 = 0 by omega), if_pos (show 2 * i % 2 = 0 by omega), if_pos (show 2 * i % 2 = 0 by omega), show 2 * i / 2 = i by omega] at a
    rw [if_neg (show ¬ (2 * i + 1) % 2 = 0 by omega), if_neg (show ¬ (2 * i + 1) % 2 = 0 by omega), if_neg (show ¬ (2 * i + 1) % 2 = 0 by omega), if_neg (show ¬ (2 * i + 1) % 2 = 0 by omega), show (2 * i + 1) / 2 = i by omega] at b
    unfold red
    refine ⟨fun hr => ?_, fun hr => ?_⟩
    · refine Classical.byContradiction fun no => ?_
      have := b (by omega)
      omega
    · refine Classical.byContradiction fun no => ?_
      have := a (by omega)
      omega
  · right
    have cX := c.use h
    have Lm : ∀ i ∈ L, 0 ≤ i ∧ i < (W.length : Int) := fun i hi => by have := c.mem i hi; omega
    have ce := RJ h L Lm
    have neg' : cst X (L.map (rd W)) < 0 := by rw [ce]; exact neg
    have one := cX.one hX neg'
    have mX : ∀ i ∈ L.map (rd W), 0 ≤ i ∧ i < 2 * (E.length : Int) := fun i hi => by have := cX.mem i hi; omega
    have pos : ∀ i ∈ L.map (rd W), 0 < rc E A i := fun i hi => by
      obtain ⟨k, hk, rfl⟩ := List.mem_map.mp hi
      obtain ⟨a, b⟩ := Lm k hk
      have r := (h.el k a b).2.2.1
      have m := mX _ hi
      rw [hX.el _ m.1 m.2] at r; exact r
    have lm : (L.map (rd W)).length = L.length := List.length_map ..
    have cp := c.pos
    have Ln : L.map (rd W) ≠ [] := fun e => by rw [e] at lm; simp at lm; omega
    have Ll : (L.length : Int) ≤ 100000 := by
      have nd : (L.map fun i => (aa U i).f1).Nodup := RH (f := fun i => (aa U i).f1) fun i j i0 ij j1 => by
        have := c.once i.toNat j.toNat (by omega) (by omega)
        rw [show ((i.toNat : Nat) : Int) = i by omega, show ((j.toNat : Nat) : Int) = j by omega] at this; exact this
      have := Lc n.toNat _ nd (fun x hx => by
        obtain ⟨y, hy, rfl⟩ := List.mem_map.mp hx
        have m := c.mem y hy
        have e := RU.e y m.1 m.2
        have b1 := e.b1
        exact ⟨e.b0, by omega⟩)
      rw [List.length_map] at this
      omega
    obtain ⟨x, r1, r2, j, r3, r4⟩ := Vd n hX (by omega) Ln mX
    have xp : 0 < x := by rw [r4]; exact pos j r3
    have F : Fit E A (L.map (rd W)) x := ⟨by omega, fun i hi => ⟨(mX i hi).1, (mX i hi).2, r2 i hi⟩, one⟩
    refine ⟨chg x A (L.map (rd W)), ⟨by rw [JG]; exact M.len, JH _ A M.len M.fit F, fun v v0 v1 => ?_⟩, ?_, fun z hz => ?_⟩
    · rw [JI _ A M.len F, RN hX v _ mX, cX.fs0 v, Int.mul_zero, Int.add_zero]; exact M.out v v0 v1
    · rw [Ku hX _ A M.len F]
      have := Int.mul_neg_of_neg_of_pos neg' xp
      omega
    · refine go ((Ld h (by omega) Lm Ll L.length 0 (by omega) z ?_).congr fun k => by rw [if_neg (by omega)]; rfl)
      exact Evl.bind (h := fun k (G9 : Int × List S98) => (bS.f k G9.1 G9.2 (L.map (rd W))).bind fun PQ => ((bu.f k A (L.map (rd W)) PQ).bind fun Lr => (ai.l1 k Lr n E))) x1
        (Evl.bind (h := fun k PQ => (bu.f k A (L.map (rd W)) PQ).bind fun Lr => ai.l1 k Lr n E) r1 (Evl.bind (h := fun k Lr => ai.l1 k Lr n E) (Kt R (by omega) M.len M.fit F) hz))
theorem Le {n : Int} {E : List S98} (R : Right n E) (m6 : (E.length : Int) ≤ 2000) {S : List Int} (N : Nat) : ∀ A : List Int, JK n E S A → (cost E A E.length + 4503599627370496).toNat ≤ N →
    ∃ A' P, Evl (fun k => ai.l1 k A n E) (A', P, [], true) ∧ JK n E S A' ∧ yH n P ∧ Ui E A' P := by
  induction N using Nat.strongRecOn with
  | _ N ih =>
    intro A M hN
    rcases H8 R m6 M with ⟨P, a, b, c⟩ | ⟨A', a, b, c⟩
    · exact ⟨A, P, a, M, b, c⟩
    · have lo := Ul R a.fit E.length (Nat.le_refl _)
      obtain ⟨A2, P, x1, x2, x3, x4⟩ := ih (cost E A' E.length + 4503599627370496).toNat (by omega) A' a (Nat.le_refl _)
      exact ⟨A2, P, c _ x1, x2, x3, x4⟩
end Go.Proofs.Ytkdoihcjhccliaa.G
namespace Go.Proofs.Ytkdoihcjhccliaa.G
open Go.RowKit Go.Proofs.Ytkdoihcjhccliaa.Q Go.Proofs.YtkdoihcjhccliaaW.PrintWords Go.Proofs.YtkdoihcjhccliaaW.PrintLast
set_option linter.unusedVariables false

/-- The edge of a node to the giver or the taker. -/
def sup (n : Int) (S : List Int) (v : Int) : S98 := if rd S v > 0 then ⟨n, v, rd S v, 0⟩ else ⟨v, n + 1, -rd S v, 0⟩
/-- The graph with these edges of the first nodes. -/
def wd (n : Int) (E : List S98) (S : List Int) : Nat → List S98
  | 0 => E
  | v + 1 => wd n E S v ++ [sup n S v]
/-- What the first nodes have. -/
def tp (S : List Int) : Nat → Int
  | 0 => 0
  | v + 1 => tp S v + (if rd S v > 0 then rd S v else 0)
theorem zz (n : Int) (E : List S98) (S : List Int) : ∀ v, (wd n E S v).length = E.length + v
  | 0 => rfl
  | v + 1 => by rw [wd, List.length_append, zz n E S v]; rfl
theorem H9 (n : Int) (E : List S98) (S : List Int) (i : Int) (i0 : 0 ≤ i) (i1 : i < (E.length : Int)) : ∀ v, aa (wd n E S v) i = aa E i
  | 0 => rfl
  | v + 1 => by rw [wd, zf _ _ _ i0 (by rw [zz]; omega)]; exact H9 n E S i i0 i1 v
theorem Dt (n : Int) (E : List S98) (S : List Int) (u : Nat) : ∀ v, u < v → aa (wd n E S v) ((E.length : Int) + u) = sup n S u
  | 0, h => by omega
  | v + 1, h => by
    by_cases q : u = v
    · subst q; rw [wd, F9 _ _ _ (by rw [zz]; omega)]
    · rw [wd, zf _ _ _ (by omega) (by rw [zz]; omega)]; exact Dt n E S u v (by omega)
theorem aeC {n : Int} {S : List Int} (H : Sup n S) : ∀ v : Nat, (v : Int) ≤ n → 0 ≤ tp S v ∧ tp S v ≤ (v : Int) * 1048576
  | 0, _ => ⟨Int.le_refl _, by simp [tp]⟩
  | v + 1, h => by
    have a := aeC H v (by omega)
    have b := H.lab v (by omega) (by omega)
    rw [tp]; push_cast; split <;> omega
theorem Um {n : Int} {E : List S98} (R : Right n E) (n6 : n ≤ 1000) (m6 : (E.length : Int) ≤ 2000) {S : List Int} (H : Sup n S) : Right (n + 2) (wd n E S n.toNat) := by
  have n0 := R.n0
  refine ⟨by omega, by omega, by rw [zz]; omega, fun i i0 i1 => ?_⟩
  rw [zz] at i1
  by_cases q : i < (E.length : Int)
  · have e := R.e i i0 q
    have a1 := e.a1
    have b1 := e.b1
    rw [H9 n E S i i0 q]
    exact ⟨e.a0, by omega, e.b0, by omega, e.c0, e.c1, e.d0, e.d1⟩
  · have w := Dt n E S (i - E.length).toNat n.toNat (by omega)
    rw [show (E.length : Int) + ((i - E.length).toNat : Nat) = i by omega] at w
    have lab := H.lab ((i - E.length).toNat : Nat) (by omega) (by omega)
    rw [w]; unfold sup
    split
    · exact ⟨by show 0 ≤ n; omega, by show n < _; omega, by show (0 : Int) ≤ ((i - E.length).toNat : Nat); omega, by show (((i - E.length).toNat : Nat) : Int) < _; omega, by show 0 ≤ rd S _; omega, by show rd S _ ≤ _; omega, by show -1048576 ≤ (0 : Int); decide, by show (0 : Int) ≤ 1048576; decide⟩
    · exact ⟨by show (0 : Int) ≤ ((i - E.length).toNat : Nat); omega, by show (((i - E.length).toNat : Nat) : Int) < _; omega, by show 0 ≤ n + 1; omega, by show n + 1 < _; omega, by show 0 ≤ -rd S _; omega, by show -rd S _ ≤ _; omega, by show -1048576 ≤ (0 : Int); decide, by show (0 : Int) ≤ 1048576; decide⟩

/-- What the first edges of the giver carry; of the taker. -/
def so (S A : List Int) (m : Int) : Nat → Int
  | 0 => 0
  | v + 1 => so S A m v + (if rd S v > 0 then rd A (m + v) else 0)
def ta (S A : List Int) (m : Int) : Nat → Int
  | 0 => 0
  | v + 1 => ta S A m v + (if rd S v > 0 then 0 else rd A (m + v))
theorem Ga {n : Int} {E : List S98} (S A : List Int) (v : Int) : ∀ i : Nat, i ≤ E.length → net (wd n E S n.toNat) A v i = net E A v i
  | 0, _ => rfl
  | i + 1, h => by simp only [net]; rw [Ga S A v i (by omega), H9 n E S i (by omega) (by omega)]
theorem JL {n : Int} {E : List S98} (R : Right n E) (A : List Int) {v : Int} (h : n ≤ v) : ∀ i : Nat, i ≤ E.length → net E A v i = 0
  | 0, _ => rfl
  | i + 1, hi => by
    have e := R.e i (by omega) (by omega)
    have a1 := e.a1
    have b1 := e.b1
    simp only [net]
    rw [JL R A h i (by omega), if_neg (by omega), if_neg (by omega)]; rfl
theorem Vf {n : Int} {E : List S98} (R : Right n E) (S A : List Int) {v : Int} (v0 : 0 ≤ v) (v1 : v < n) : ∀ k : Nat, (k : Int) ≤ n →
    net (wd n E S n.toNat) A v (E.length + k) = net E A v E.length + (if v < (k : Int) then (if rd S v > 0 then -rd A (E.length + v) else rd A (E.length + v)) else 0)
  | 0, _ => by rw [if_neg (by omega), Nat.add_zero, Ga S A v _ (Nat.le_refl _)]; omega
  | k + 1, h => by
    have w := Dt n E S k n.toNat (by omega)
    have ek : ((E.length + k : Nat) : Int) = (E.length : Int) + k := by omega
    rw [← Nat.add_assoc]
    simp only [net]
    rw [Vf R S A v0 v1 k (by omega), ek, w]
    unfold sup
    by_cases q : v = (k : Int)
    · rw [if_neg (show ¬ v < (k : Int) by omega), if_pos (show v < ((k + 1 : Nat) : Int) by omega), ← q]
      by_cases z : rd S v > 0
      · rw [if_pos z, if_pos z]
        show _ + 0 + (if n = v then _ else _) - (if v = v then _ else _) = _
        rw [if_neg (by omega), if_pos rfl]; omega
      · rw [if_neg z, if_neg z]
        show _ + 0 + (if v = v then _ else _) - (if n + 1 = v then _ else _) = _
        rw [if_pos rfl, if_neg (by omega)]; omega
    · have c : ∀ x : Int, (if v < ((k + 1 : Nat) : Int) then x else 0) = (if v < (k : Int) then x else 0) := fun x => by
        by_cases y : v < (k : Int)
        · rw [if_pos y, if_pos (by omega)]
        · rw [if_neg y, if_neg (by omega)]
      rw [c]
      by_cases z : rd S k > 0
      · rw [if_pos z]
        show _ + (if n = v then _ else _) - (if (k : Int) = v then _ else _) = _
        rw [if_neg (show ¬ n = v by omega), if_neg (show ¬ (k : Int) = v by omega)]; omega
      · rw [if_neg z]
        show _ + (if (k : Int) = v then _ else _) - (if n + 1 = v then _ else _) = _
        rw [if_neg (show ¬ (k : Int) = v by omega), if_neg (show ¬ n + 1 = v by omega)]; omega
theorem Gb {n : Int} {E : List S98} (R : Right n E) (S A : List Int) : ∀ k : Nat, (k : Int) ≤ n → net (wd n E S n.toNat) A n (E.length + k) = so S A E.length k
  | 0, _ => by rw [Nat.add_zero, Ga S A n _ (Nat.le_refl _), JL R A (Int.le_refl _) _ (Nat.le_refl _)]; rfl
  | k + 1, h => by
    have w := Dt n E S k n.toNat (by omega)
    have ek : ((E.length + k : Nat) : Int) = (E.length : Int) + k := by omega
    rw [← Nat.add_assoc]
    simp only [net]
    rw [Gb R S A k (by omega), ek, w, so]
    unfold sup
    by_cases z : rd S k > 0
    · rw [if_pos z, if_pos z]
      show _ + (if n = n then _ else _) - (if (k : Int) = n then _ else _) = _
      rw [if_pos rfl, if_neg (by omega)]; omega
    · rw [if_neg z, if_neg z]
      show _ + (if (k : Int) = n then _ else _) - (if n + 1 = n then _ else _) = _
      rw [if_neg (by omega), if_neg (by omega)]; omega
theorem RP {n : Int} {E : List S98} (R : Right n E) (S A : List Int) : ∀ k : Nat, (k : Int) ≤ n → net (wd n E S n.toNat) A (n + 1) (E.length + k) = -ta S A E.length k
  | 0, _ => by rw [Nat.add_zero, Ga S A (n + 1) _ (Nat.le_refl _), JL R A (by omega) _ (Nat.le_refl _)]; rfl
  | k + 1, h => by
    have w := Dt n E S k n.toNat (by omega)
    have ek : ((E.length + k : Nat) : Int) = (E.length : Int) + k := by omega
    rw [← Nat.add_assoc]
    simp only [net]
    rw [RP R S A k (by omega), ek, w, ta]
    unfold sup
    by_cases z : rd S k > 0
    · rw [if_pos z, if_pos z]
      show _ + (if n = n + 1 then _ else _) - (if (k : Int) = n + 1 then _ else _) = _
      rw [if_neg (by omega), if_neg (by omega)]; omega
    · rw [if_neg z, if_neg z]
      show _ + (if (k : Int) = n + 1 then _ else _) - (if n + 1 = n + 1 then _ else _) = _
      rw [if_neg (by omega), if_pos rfl]; omega

theorem Du (B : List Bool) (k : Nat) (v : Int) (v0 : 0 ≤ v) (v1 : v < (k : Int)) : fF false (B.take k) v = fF false B v := by
  unfold fF; rw [List.getD_eq_getElem?_getD, List.getD_eq_getElem?_getD, List.getElem?_take, if_pos (by omega)]
theorem RQ (A : List Int) (k : Nat) (v : Int) (v0 : 0 ≤ v) (v1 : v < (k : Int)) : rd (A.take k) v = rd A v := by
  unfold rd; rw [List.getD_eq_getElem?_getD, List.getD_eq_getElem?_getD, List.getElem?_take, if_pos (by omega)]
theorem RS {n : Int} {E : List S98} (R : Right n E) (S : List Int) (B : List Bool) : ∀ i : Nat, i ≤ E.length → cut (wd n E S n.toNat) B i = cut E (B.take n.toNat) i
  | 0, _ => rfl
  | i + 1, h => by
    have e := R.e i (by omega) (by omega)
    have a1 := e.a1
    have b1 := e.b1
    simp only [cut]
    rw [RS R S B i (by omega), H9 n E S i (by omega) (by omega), Du B _ _ e.a0 (by omega), Du B _ _ e.b0 (by omega)]
theorem RV {n : Int} {E : List S98} (R : Right n E) (S : List Int) {B : List Bool} (hs : fF false B n = true) (ht : fF false B (n + 1) = false) : ∀ k : Nat, (k : Int) ≤ n →
    cut (wd n E S n.toNat) B (E.length + k) = cut E (B.take n.toNat) E.length + tp S k - RI (B.take n.toNat) S k
  | 0, _ => by rw [Nat.add_zero, RS R S B _ (Nat.le_refl _), tp, RI]; omega
  | k + 1, h => by
    have w := Dt n E S k n.toNat (by omega)
    have ek : ((E.length + k : Nat) : Int) = (E.length : Int) + k := by omega
    rw [← Nat.add_assoc]
    simp only [cut]
    rw [RV R S hs ht k (by omega), ek, w, tp, RI, Du B _ _ (by omega) (by omega)]
    unfold sup
    by_cases z : rd S k > 0
    · rw [if_pos z, if_pos z]
      show _ + (if fF false B n = true ∧ fF false B (k : Int) = false then rd S k else 0) = _
      by_cases y : fF false B (k : Int) = true
      · rw [if_neg (by rw [y]; simp), if_pos y]; omega
      · rw [if_pos ⟨hs, by simpa using y⟩, if_neg y]; omega
    · rw [if_neg z, if_neg z]
      show _ + (if fF false B (k : Int) = true ∧ fF false B (n + 1) = false then -rd S k else 0) = _
      by_cases y : fF false B (k : Int) = true
      · rw [if_pos ⟨y, ht⟩, if_pos y]; omega
      · rw [if_neg fun h => y h.1, if_neg y]; omega

/-- Where what is carried is all that there is, each carries all. -/
theorem RX {S A : List Int} {m : Int} {N : Nat} (h : ∀ v : Nat, v < N → rd S v > 0 → rd A (m + v) ≤ rd S v) : ∀ k : Nat, k ≤ N → so S A m k ≤ tp S k ∧ (tp S k ≤ so S A m k → ∀ v : Nat, v < k → rd S v > 0 → rd A (m + v) = rd S v)
  | 0, _ => ⟨Int.le_refl _, fun _ v hv => by omega⟩
  | k + 1, hk => by
    obtain ⟨a, b⟩ := RX h k (by omega)
    rw [so, tp]
    by_cases z : rd S k > 0
    · have c := h k (by omega) z
      rw [if_pos z, if_pos z]
      refine ⟨by omega, fun q v hv hz => ?_⟩
      by_cases y : v = k
      · subst y; omega
      · exact b (by omega) v (by omega) hz
    · rw [if_neg z, if_neg z]
      refine ⟨by omega, fun q v hv hz => ?_⟩
      by_cases y : v = k
      · subst y; exact absurd hz z
      · exact b (by omega) v (by omega) hz
theorem RZ {S A : List Int} {m : Int} {N : Nat} (h : ∀ v : Nat, v < N → ¬ rd S v > 0 → rd A (m + v) ≤ -rd S v) : ∀ k : Nat, k ≤ N → ta S A m k ≤ tp S k - U8 S k ∧ (tp S k - U8 S k ≤ ta S A m k → ∀ v : Nat, v < k → ¬ rd S v > 0 → rd A (m + v) = -rd S v)
  | 0, _ => ⟨by simp [ta, tp, U8], fun _ v hv => by omega⟩
  | k + 1, hk => by
    obtain ⟨a, b⟩ := RZ h k (by omega)
    rw [ta, tp, U8]
    by_cases z : rd S k > 0
    · rw [if_pos z, if_pos z]
      refine ⟨by omega, fun q v hv hz => ?_⟩
      by_cases y : v = k
      · subst y; exact absurd z hz
      · exact b (by omega) v (by omega) hz
    · have c := h k (by omega) z
      rw [if_neg z, if_neg z]
      refine ⟨by omega, fun q v hv hz => ?_⟩
      by_cases y : v = k
      · subst y; omega
      · exact b (by omega) v (by omega) hz

theorem Lf {n : Int} {E : List S98} {S : List Int} {H : Sup n S} (n0 : 0 ≤ n) (n1 : n ≤ 1000) (m6 : (E.length : Int) ≤ 2000) (d : Nat) : ∀ v : Nat, ((v + d : Nat) : Int) = n →
    ∀ z, Evl (fun k => ai.l0 k S n (tp S n.toNat) n n E (n + 2) (wd n E S n.toNat)) z → Evl (fun k => ai.l0 k S n (tp S v) v n E (n + 2) (wd n E S v)) z := by
  induction d with
  | zero =>
    intro v hv z hz
    have e : v = n.toNat := by omega
    subst e
    rw [show ((n.toNat : Nat) : Int) = n by omega]; exact hz
  | succ d ih =>
    intro v hv z hz
    have w : wrap64 ((v : Int) + 1) = ((v + 1 : Nat) : Int) := by rw [w1 (by omega) (by omega)]; rfl
    have hl := zz n E S v
    have sl := H.len
    have lab := H.lab v (by omega) (by omega)
    have t := aeC H v (by omega)
    have nxt := ih (v + 1) (by omega) z hz
    rw [tp, wd] at nxt
    unfold sup at nxt
    refine nxt.step fun k => ?_
    by_cases q : rd S v > 0
    · rw [ai.l0, if_pos (by omega), if_pos (by omega), if_pos (by omega), if_pos q, if_pos (by omega), w, wr (by omega) (by omega), if_pos q, if_pos q]
    · rw [ai.l0, if_pos (by omega), if_pos (by omega), if_pos (by omega), if_neg q, if_pos (by omega), w, w1 (by omega) (by omega), wr (x := -rd S v) (by omega) (by omega), if_neg q, if_neg q, Int.add_zero]

/-- Either a cheapest plan with potentials, or the side that shows that there is none. -/
theorem R3 {n : Int} {E : List S98} (R : Right n E) (n6 : n ≤ 1000) (m6 : (E.length : Int) ≤ 2000) {S : List Int} (H : Sup n S) :
    (∃ A P, Evl (fun k => ai.f k n E S) (A, P, [], true) ∧ JK n E S A ∧ yH n P ∧ Ui E A P) ∨
      ∃ B, Evl (fun k => ai.f k n E S) ([], [], B, false) ∧ (B.length : Int) = n ∧ cut E B E.length < RI B S n.toNat := by
  have n0 := R.n0
  have RW := Um R n6 m6 H
  obtain ⟨A, B, f1, M, Sd⟩ := RF RW (s := n) (t := n + 1) (by omega) (by omega) (by omega) (by omega) (by omega)
  have wl := zz n E S n.toNat
  obtain ⟨o, o1, o2⟩ := aeu (n + 2) (wd n E S n.toNat) A n RW.m1 M.len
  have oe := o2 (M.fit.aao RW)
  rw [wl, Gb R S A n.toNat (by omega)] at oe
  have ml := M.len
  have bl := Sd.len
  have start : ∀ {z}, Evl (fun k => if o < tp S n.toNat then (if 0 ≤ n then (if n ≤ (B.length : Int) then (some (([] : List Int), ([] : List Int), (B.take (n : Int).toNat), false)) else (none)) else (none)) else (if 0 ≤ (E.length : Int) then (if (E.length : Int) ≤ (A.length : Int) then (ai.l1 k (A.take ((E.length : Int) : Int).toNat) n E) else (none)) else (none))) z → Evl (fun k => ai.f k n E S) z := fun {z} hz => by
    refine (Evl.bind (h := fun k (Ha : Int × List S98) => ai.l0 k S n 0 0 n E (wrap64 (Ha.1 + 2)) Ha.2) (Ve n E (by omega)) ?_).congr fun k => rfl
    have w2 : wrap64 (n + 2) = n + 2 := wr (by omega) (by omega)
    refine Evl.congr (h := fun k => ai.l0 k S n 0 0 n E (n + 2) E) ?_ fun k => by rw [w2]
    refine Lf (H := H) n0 n6 m6 n.toNat 0 (by omega) z ?_
    refine Evl.step (h := fun k => (aD.f k (n + 2) (wd n E S n.toNat) n (n + 1)).bind fun vC => ((bP.f k (n + 2) (wd n E S n.toNat) vC.1 n).bind fun PN => (if PN < tp S n.toNat then (if 0 ≤ n then (if n ≤ (vC.2.length : Int) then (some (([] : List Int), ([] : List Int), (vC.2.take (n : Int).toNat), false)) else (none)) else (none)) else (if 0 ≤ (E.length : Int) then (if (E.length : Int) ≤ (vC.1.length : Int) then (ai.l1 k (vC.1.take ((E.length : Int) : Int).toNat) n E) else (none)) else (none))))) ?_ fun k => by rw [ai.l0, if_neg (by omega), w1 (by omega) (by omega)]
    refine Evl.bind (h := fun k (vC : List Int × List Bool) => (bP.f k (n + 2) (wd n E S n.toNat) vC.1 n).bind fun PN => (if PN < tp S n.toNat then (if 0 ≤ n then (if n ≤ (vC.2.length : Int) then (some (([] : List Int), ([] : List Int), (vC.2.take (n : Int).toNat), false)) else (none)) else (none)) else (if 0 ≤ (E.length : Int) then (if (E.length : Int) ≤ (vC.1.length : Int) then (ai.l1 k (vC.1.take ((E.length : Int) : Int).toNat) n E) else (none)) else (none)))) f1 ?_
    exact Evl.bind (h := fun k PN => if PN < tp S n.toNat then (if 0 ≤ n then (if n ≤ (B.length : Int) then (some (([] : List Int), ([] : List Int), (B.take (n : Int).toNat), false)) else (none)) else (none)) else (if 0 ≤ (E.length : Int) then (if (E.length : Int) ≤ (A.length : Int) then (ai.l1 k (A.take ((E.length : Int) : Int).toNat) n E) else (none)) else (none))) o1 hz
  have sc := Uh RW (by omega) (by omega) M Sd
  rw [wl, Gb R S A n.toNat (by omega), RV R S Sd.src Sd.snk n.toNat (by omega)] at sc
  by_cases q : o < tp S n.toNat
  · right
    refine ⟨B.take n.toNat, start (Evl.pure.congr fun k => by rw [if_pos q, if_pos n0, if_pos (by omega)]), by rw [List.length_take]; omega, by omega⟩
  · left
    -- all is carried
    have nk := ZO RW (A := A) (s := n) (t := n + 1) (by omega) (by omega) (by omega) (by omega) (by omega) M.kept
    rw [wl, Gb R S A n.toNat (by omega), RP R S A n.toNat (by omega)] at nk
    have fitn : ∀ v : Nat, (v : Int) < n → 0 ≤ rd A ((E.length : Int) + v) ∧ rd A ((E.length : Int) + v) ≤ (sup n S v).f2 := fun v hv => by
      have := M.fit ((E.length : Int) + v) (by omega) (by rw [wl]; omega)
      rw [Dt n E S v n.toNat (by omega)] at this; exact this
    have s1 := (RX (S := S) (A := A) (m := E.length) (N := n.toNat) (fun v hv hz => by
      have := (fitn v (by omega)).2
      unfold sup at this; rw [if_pos hz] at this; exact this) n.toNat (Nat.le_refl _)).2 (by omega)
    have al := H.all
    have t1 := (RZ (S := S) (A := A) (m := E.length) (N := n.toNat) (fun v hv hz => by
      have := (fitn v (by omega)).2
      unfold sup at this; rw [if_neg hz] at this; exact this) n.toNat (Nat.le_refl _)).2 (by omega)
    have nt : ∀ v : Int, ∀ i : Nat, i ≤ E.length → net E (A.take E.length) v i = net E A v i := by
      intro v i
      induction i with
      | zero => intro _; rfl
      | succ i ih => intro hi; simp only [net]; rw [ih (by omega), RQ A _ _ (by omega) (by omega)]
    have Mt : JK n E S (A.take E.length) := by
      refine ⟨by rw [List.length_take]; omega, fun i i0 i1 => ?_, fun v v0 v1 => ?_⟩
      · have := M.fit i i0 (by rw [wl]; omega)
        rw [H9 n E S i i0 i1] at this
        rw [RQ A _ _ i0 i1]; exact this
      · rw [nt v _ (Nat.le_refl _)]
        have k := M.kept v v0 (by omega) (by omega) (by omega)
        rw [wl, Vf R S A v0 v1 n.toNat (by omega), if_pos (by omega)] at k
        have ev : ((v.toNat : Nat) : Int) = v := by omega
        by_cases z : rd S v > 0
        · have := s1 v.toNat (by omega) (by rw [ev]; exact z)
          rw [ev] at this
          rw [if_pos z] at k; omega
        · have := t1 v.toNat (by omega) (by rw [ev]; exact z)
          rw [ev] at this
          rw [if_neg z] at k; omega
    obtain ⟨A', P, a, b, c, d⟩ := Le R m6 _ _ Mt (Nat.le_refl _)
    exact ⟨A', P, start (a.congr fun k => by rw [if_neg q, if_pos (by omega), if_pos (by omega)]; rfl), b, c, d⟩
end Go.Proofs.Ytkdoihcjhccliaa.G
namespace Go.Proofs.Ytkdoihcjhccliaa.G
open Go.RowKit Go.Proofs.Ytkdoihcjhccliaa.Q Go.Proofs.YtkdoihcjhccliaaW.PrintWords Go.Proofs.YtkdoihcjhccliaaW.PrintLast
set_option linter.unusedVariables false

/-- All edges hang together. -/
def Gm (E : List S98) : Prop := ∀ i : Int, 0 ≤ i → i < (E.length : Int) → ui E (aa E i).f0 (aa E 0).f0

theorem ZY {n : Int} {E : List S98} (R : Right n E) : ∃ b : Bool, Evl (fun k => dD.f k n E) b ∧ (b = true ↔ Gm E) := by
  have m1 := R.m1
  obtain ⟨P, hP, hl, hc⟩ := Rk n E R
  have loop : ∀ (d i : Nat), 1 ≤ i → (i + d = E.length ∨ d = 0 ∧ E.length ≤ i) → (∀ j : Int, 0 ≤ j → j < (i : Int) → j < (E.length : Int) → ui E (aa E j).f0 (aa E 0).f0) →
      ∃ b : Bool, Evl (fun k => dD.l0 k P i n E) b ∧ (b = true ↔ Gm E) := by
    intro d
    induction d with
    | zero =>
      intro i i1 hi hC
      exact ⟨true, Evl.here fun k => by rw [dD.l0, if_neg (by omega)], fun _ j a b => hC j a (by omega) b, fun _ => rfl⟩
    | succ d ih =>
      intro i i1 hi hC
      have g : (i : Int) < (E.length : Int) := by omega
      have w : wrap64 ((i : Int) + 1) = ((i + 1 : Nat) : Int) := by rw [w1 (by omega) (by omega)]; rfl
      have e := R.e i (by omega) g
      have z := R.e 0 (by omega) (by omega)
      have a0 := e.a0
      have a1 := e.a1
      have z0 := z.a0
      have z1 := z.a1
      have h := hc (aa E i).f0 (aa E 0).f0 a0 a1 z0 z1
      by_cases c : rd P (aa E i).f0 = rd P (aa E 0).f0
      · obtain ⟨b, e1, e2⟩ := ih (i + 1) (by omega) (by omega) (fun j j0 j1 j2 => by
          by_cases q : j = i
          · rw [q]; exact h.1 c
          · exact hC j j0 (by omega) j2)
        exact ⟨b, e1.step fun k => by rw [dD.l0, if_pos g, if_pos (by omega), if_pos a0, if_pos (by omega), if_pos (by omega), if_pos z0, if_pos (by omega), if_pos c, w], e2⟩
      · exact ⟨false, Evl.here fun k => by rw [dD.l0, if_pos g, if_pos (by omega), if_pos a0, if_pos (by omega), if_pos (by omega), if_pos z0, if_pos (by omega), if_neg c], fun h => (by cases h), fun q => absurd (h.2 (q i (by omega) g)) c⟩
  obtain ⟨b, e1, e2⟩ := loop (E.length - 1) 1 (Nat.le_refl _) (by omega) (fun j a b c => by rw [show j = 0 by omega]; exact ui.refl E _)
  exact ⟨b, (Evl.bind (h := fun k ZZ => dD.l0 k ZZ.1 1 n E) hP e1).congr fun k => rfl, e2⟩

/-- How many nodes are in. -/
def ins (n : Int) (B : List Bool) : Nat := (rng n.toNat).countP fun v => fF false B v
/-- All that is in hangs together with the first edge. -/
structure In (n : Int) (E : List S98) (B : List Bool) : Prop where
  len : (B.length : Int) = n
  cn : ∀ v : Int, 0 ≤ v → v < n → fF false B v = true → ui E v (aa E 0).f0

theorem aeD {n : Int} {E : List S98} (R : Right n E) (x : Int) (d : Nat) : ∀ (i : Nat) (B : List Bool), i + d = E.length → In n E B →
    ∃ B' : List Bool, In n E B' ∧ (∀ v : Int, 0 ≤ v → v < n → fF false B v = true → fF false B' v = true) ∧
      ((∀ j : Int, (i : Int) ≤ j → j < (E.length : Int) → (fF false B (aa E j).f0 = true ↔ fF false B (aa E j).f1 = true)) ∧ B' = B ∨ ins n B < ins n B' ∨ ∀ v : Int, 0 ≤ v → v < n → fF false B' v = fF false B v) ∧
      (∀ j : Int, (i : Int) ≤ j → j < (E.length : Int) → (fF false B (aa E j).f0 = true ∨ fF false B (aa E j).f1 = true) → fF false B' (aa E j).f0 = true ∧ fF false B' (aa E j).f1 = true) ∧
      ∀ r, Evl (fun k => aM.l0 k B' n (wrap64 (x + 1)) n E) r → Evl (fun k => aM.l1 k B n x E E.length i n E) r := by
  have m1 := R.m1
  induction d with
  | zero =>
    intro i B hi hB
    exact ⟨B, hB, fun v _ _ h => h, Or.inr (Or.inr fun v _ _ => rfl), fun j a b => by omega, fun r H => H.step fun k => by rw [aM.l1, if_neg (by omega)]⟩
  | succ d ih =>
    intro i B hi hB
    have g : (i : Int) < (E.length : Int) := by omega
    have w : wrap64 ((i : Int) + 1) = ((i + 1 : Nat) : Int) := by rw [w1 (by omega) (by omega)]; rfl
    have e := R.e i (by omega) g
    have a0 := e.a0
    have a1 : (aa E i).f0 < (B.length : Int) := by rw [hB.len]; exact e.a1
    have b0 := e.b0
    have b1 : (aa E i).f1 < (B.length : Int) := by rw [hB.len]; exact e.b1
    have ce := ui.edge E i (by omega) g
    by_cases c : fF false B (aa E i).f0 = true ∨ fF false B (aa E i).f1 = true
    · have b1' : (aa E i).f1 < ((B.set (aa E i).f0.toNat true).length : Int) := by rw [List.length_set]; exact b1
      have rv : ∀ v : Int, 0 ≤ v → fF false ((B.set (aa E i).f0.toNat true).set (aa E i).f1.toNat true) v = if v = (aa E i).f1 then true else if v = (aa E i).f0 then true else fF false B v := fun v v0 => by
        rw [yF _ _ _ _ _ b0 b1' v0, yF _ _ _ _ _ a0 a1 v0]
      have up : ∀ v : Int, 0 ≤ v → v < n → fF false B v = true → fF false ((B.set (aa E i).f0.toNat true).set (aa E i).f1.toNat true) v = true := fun v v0 _ h => by
        rw [rv v v0]
        split
        · rfl
        · split
          · rfl
          · exact h
      have hcn : ui E (aa E i).f0 (aa E 0).f0 := by
        rcases c with c | c
        · exact hB.cn _ a0 e.a1 c
        · exact ce.trans (hB.cn _ b0 e.b1 c)
      have hB2 : In n E ((B.set (aa E i).f0.toNat true).set (aa E i).f1.toNat true) := ⟨by rw [List.length_set, List.length_set]; exact hB.len, fun v v0 v1 h => by
        rw [rv v v0] at h
        by_cases q1 : v = (aa E i).f1
        · rw [q1]; exact ce.symm.trans hcn
        · by_cases q0 : v = (aa E i).f0
          · rw [q0]; exact hcn
          · rw [if_neg q1, if_neg q0] at h; exact hB.cn v v0 v1 h⟩
      obtain ⟨B', h1, h2, h3, h4, h5⟩ := ih (i + 1) _ (by omega) hB2
      have mono2 : ins n ((B.set (aa E i).f0.toNat true).set (aa E i).f1.toNat true) ≤ ins n B' := xK _ _ _ fun v hv h => by
        have := (tJ n.toNat v).1 hv
        exact h2 v this.1 (by omega) h
      have mono1 : ins n B ≤ ins n ((B.set (aa E i).f0.toNat true).set (aa E i).f1.toNat true) := xK _ _ _ fun v hv h => by
        have := (tJ n.toNat v).1 hv
        exact up v this.1 (by omega) h
      refine ⟨B', h1, fun v v0 v1 h => h2 v v0 v1 (up v v0 v1 h), ?_, fun j j0 j1 h => ?_, fun r H => (h5 r H).step fun k => ?_⟩
      · by_cases same : ∀ v : Int, 0 ≤ v → v < n → fF false B' v = fF false B v
        · exact Or.inr (Or.inr same)
        · right; left
          have : ∃ v : Int, 0 ≤ v ∧ v < n ∧ fF false B v = false ∧ fF false B' v = true := by
            apply Classical.byContradiction
            intro no
            apply same
            intro v v0 v1
            by_cases q : fF false B v = true
            · rw [q]; exact h2 v v0 v1 (up v v0 v1 q)
            · have q' : fF false B v = false := by simpa using q
              rw [q']
              by_cases p : fF false B' v = true
              · exact absurd ⟨v, v0, v1, q', p⟩ no
              · simpa using p
          obtain ⟨v, v0, v1, q, p⟩ := this
          exact Eg (rng n.toNat) (fun v => fF false B v) (fun v => fF false B' v) (fun u hu h => by
            have := (tJ n.toNat u).1 hu
            exact h2 u this.1 (by omega) (up u this.1 (by omega) h)) v ((tJ n.toNat v).2 ⟨v0, by omega⟩) p q
      · by_cases q : j = i
        · rw [q]
          exact ⟨h2 _ a0 e.a1 (by rw [rv _ a0]; split <;> simp), h2 _ b0 e.b1 (by rw [rv _ b0, if_pos rfl])⟩
        · have ej := R.e j (by omega) j1
          refine h4 j (by omega) j1 ?_
          rcases h with h | h
          · exact Or.inl (up _ ej.a0 ej.a1 h)
          · exact Or.inr (up _ ej.b0 ej.b1 h)
      · by_cases c0 : fF false B (aa E i).f0 = true
        · rw [aM.l1, if_pos g, if_pos (by omega), if_pos g, if_pos a0, if_pos a1, if_pos c0, if_pos b0, if_pos b1, w]
        · have c1 : fF false B (aa E i).f1 = true := by rcases c with c | c; exact absurd c c0; exact c
          rw [aM.l1, if_pos g, if_pos (by omega), if_pos g, if_pos a0, if_pos a1, if_neg c0, if_pos b0, if_pos b1, if_pos c1, w]
    · obtain ⟨B', h1, h2, h3, h4, h5⟩ := ih (i + 1) B (by omega) hB
      refine ⟨B', h1, h2, ?_, fun j j0 j1 h => ?_, fun r H => (h5 r H).step fun k => ?_⟩
      · rcases h3 with ⟨p, q⟩ | p | p
        · exact Or.inr (Or.inr fun v _ _ => by rw [q])
        · exact Or.inr (Or.inl p)
        · exact Or.inr (Or.inr p)
      · by_cases q : j = i
        · rw [q] at h; exact absurd h c
        · exact h4 j (by omega) j1 h
      · rw [aM.l1, if_pos g, if_pos (by omega), if_pos g, if_pos a0, if_pos a1, if_neg (fun h => c (Or.inl h)), if_pos b0, if_pos b1, if_neg (fun h => c (Or.inr h)), w]

theorem aeE {n : Int} {E : List S98} (R : Right n E) {B : List Bool} (hB : (B.length : Int) = n) (d : Nat) : ∀ i : Nat, i + d = E.length → (∀ j : Int, 0 ≤ j → j < (i : Int) → fF false B (aa E j).f0 = true) →
    ∃ b : Bool, Evl (fun k => aM.l2 k B E E.length i) b ∧ (b = true ↔ ∀ j : Int, 0 ≤ j → j < (E.length : Int) → fF false B (aa E j).f0 = true) := by
  have m1 := R.m1
  induction d with
  | zero => intro i hi hP; exact ⟨true, Evl.here fun k => by rw [aM.l2, if_neg (by omega)], fun _ j a b => hP j a (by omega), fun _ => rfl⟩
  | succ d ih =>
    intro i hi hP
    have g : (i : Int) < (E.length : Int) := by omega
    have w : wrap64 ((i : Int) + 1) = ((i + 1 : Nat) : Int) := by rw [w1 (by omega) (by omega)]; rfl
    have e := R.e i (by omega) g
    have a0 := e.a0
    have a1 : (aa E i).f0 < (B.length : Int) := by rw [hB]; exact e.a1
    by_cases c : fF false B (aa E i).f0 = true
    · obtain ⟨b, e1, e2⟩ := ih (i + 1) (by omega) (fun j j0 j1 => by
        by_cases q : j = i
        · rw [q]; exact c
        · exact hP j j0 (by omega))
      exact ⟨b, e1.step fun k => by rw [aM.l2, if_pos g, if_pos (by omega), if_pos g, if_pos a0, if_pos a1, if_pos c, w], e2⟩
    · exact ⟨false, Evl.here fun k => by rw [aM.l2, if_pos g, if_pos (by omega), if_pos g, if_pos a0, if_pos a1, if_neg c], fun h => (by cases h), fun h => absurd (h i (by omega) g) c⟩

/-- Rounds: behind them no edge leaves what is in, or they went on getting more. -/
theorem aeF {n : Int} {E : List S98} (R : Right n E) (h0 : 0 < E.length) (d : Nat) : ∀ (x : Nat) (B : List Bool), ((x + d : Nat) : Int) = n → In n E B → fF false B (aa E 0).f0 = true →
    ((∀ j : Int, 0 ≤ j → j < (E.length : Int) → (fF false B (aa E j).f0 = true ↔ fF false B (aa E j).f1 = true)) ∨ x + 1 ≤ ins n B) →
    ∃ b : Bool, Evl (fun k => aM.l0 k B n x n E) b ∧ (b = true ↔ Gm E) := by
  have n1 := R.n1
  induction d with
  | zero =>
    intro x B hx hB hin hm
    have cl : ∀ j : Int, 0 ≤ j → j < (E.length : Int) → (fF false B (aa E j).f0 = true ↔ fF false B (aa E j).f1 = true) := by
      rcases hm with h | h
      · exact h
      · have := List.countP_le_length (p := fun v => fF false B v) (l := rng n.toNat)
        rw [JB] at this
        unfold ins at h
        omega
    obtain ⟨b, e1, e2⟩ := aeE R hB.len E.length 0 (by omega) (fun j a b => by omega)
    refine ⟨b, e1.step fun k => by rw [aM.l0, if_neg (by omega)]; rfl, e2.trans ⟨fun h i i0 i1 => ?_, fun h i i0 i1 => ?_⟩⟩
    · have e := R.e i i0 i1
      exact hB.cn _ e.a0 e.a1 (h i i0 i1)
    · have := h i i0 i1 (fun v => fF false B v = true) cl
      exact this.2 hin
  | succ d ih =>
    intro x B hx hB hin hm
    have w : wrap64 ((x : Int) + 1) = ((x + 1 : Nat) : Int) := by rw [w1 (by omega) (by omega)]; rfl
    obtain ⟨B', h1, h2, h3, h4, h5⟩ := aeD R x E.length 0 B (by omega) hB
    have z := R.e 0 (by omega) (by omega)
    have cl : (∀ v : Int, 0 ≤ v → v < n → fF false B' v = fF false B v) → ∀ j : Int, 0 ≤ j → j < (E.length : Int) → (fF false B' (aa E j).f0 = true ↔ fF false B' (aa E j).f1 = true) := by
      intro same j j0 j1
      have e := R.e j j0 j1
      have := h4 j (by omega) j1
      rw [same _ e.a0 e.a1, same _ e.b0 e.b1] at this ⊢
      exact ⟨fun h => (this (Or.inl h)).2, fun h => (this (Or.inr h)).1⟩
    have next : (∀ j : Int, 0 ≤ j → j < (E.length : Int) → (fF false B' (aa E j).f0 = true ↔ fF false B' (aa E j).f1 = true)) ∨ x + 1 + 1 ≤ ins n B' := by
      rcases h3 with ⟨p, q⟩ | p | p
      · left; rw [q]; exact fun j a b => p j (by omega) b
      · rcases hm with hm | hm
        · -- closed already: nothing is got
          left
          have key : ∀ v : Int, 0 ≤ v → v < n → fF false B' v = true → fF false B v = true := by
            intro v v0 v1 hv
            have c1 := h1.cn v v0 v1 hv (fun u => fF false B u = true) hm
            exact c1.2 hin
          exact cl fun v v0 v1 => by
            by_cases q : fF false B v = true
            · rw [q]; exact h2 v v0 v1 q
            · by_cases t : fF false B' v = true
              · exact absurd (key v v0 v1 t) q
              · rw [show fF false B v = false by simpa using q]; simpa using t
        · right; omega
      · left; exact cl p
    obtain ⟨b, e1, e2⟩ := ih (x + 1) B' (by omega) h1 (h2 _ z.a0 z.a1 hin) next
    exact ⟨b, (h5 b (e1.congr fun k => by rw [w])).step fun k => by rw [aM.l0, if_pos (by omega)]; rfl, e2⟩
theorem aeG {n : Int} {E : List S98} (R : Right n E) : ∃ b : Bool, Evl (fun k => aM.f k n E) b ∧ Evl (fun k => dD.f k n E) b ∧ (b = true ↔ Gm E) := by
  have n0 := R.n0
  have n1 := R.n1
  obtain ⟨c, d1, d2⟩ := ZY R
  have pr : ∃ b : Bool, Evl (fun k => aM.f k n E) b ∧ (b = true ↔ Gm E) := by
    by_cases h : (E.length : Int) = 0
    · exact ⟨true, Evl.pure.congr fun k => by rw [aM.f, if_pos h], fun _ i a b => by omega, fun _ => rfl⟩
    · have z := R.e 0 (by omega) (by omega)
      have z0 := z.a0
      have z1 := z.a1
      have hl : ((List.replicate n.toNat false).length : Int) = n := by rw [List.length_replicate]; omega
      have rv : ∀ v : Int, 0 ≤ v → v < n → fF false ((List.replicate n.toNat false).set (aa E 0).f0.toNat true) v = if v = (aa E 0).f0 then true else false := fun v v0 v1 => by
        rw [yF _ _ _ _ _ z0 (by omega) v0, DW _ _ _ _ v0 (by omega)]
      have hin : fF false ((List.replicate n.toNat false).set (aa E 0).f0.toNat true) (aa E 0).f0 = true := by rw [rv _ z0 z1, if_pos rfl]
      have one : 0 < ins n ((List.replicate n.toNat false).set (aa E 0).f0.toNat true) := by
        unfold ins
        rw [List.countP_pos_iff]
        exact ⟨_, (tJ n.toNat _).2 ⟨z0, by omega⟩, hin⟩
      obtain ⟨b, e1, e2⟩ := aeF R (by omega) n.toNat 0 ((List.replicate n.toNat false).set (aa E 0).f0.toNat true) (by omega) ⟨by rw [List.length_set]; exact hl, fun v v0 v1 q => by
        rw [rv v v0 v1] at q
        by_cases t : v = (aa E 0).f0
        · rw [t]; exact ui.refl E _
        · rw [if_neg t] at q; cases q⟩ hin (Or.inr one)
      exact ⟨b, e1.congr fun k => by rw [aM.f, if_neg h, if_pos n0, if_pos (by omega), Option.bind_some, if_pos (by omega), if_pos z0, if_pos (by omega)]; rfl, e2⟩
  obtain ⟨b, p1, p2⟩ := pr
  have : b = c := by
    by_cases q : Gm E
    · rw [p2.2 q, d2.2 q]
    · have x1 : ¬ b = true := fun h => q (p2.1 h)
      have x2 : ¬ c = true := fun h => q (d2.1 h)
      simp only [Bool.not_eq_true] at x1 x2
      rw [x1, x2]
  subst this
  exact ⟨b, p1, d1, p2⟩
end Go.Proofs.Ytkdoihcjhccliaa.G
namespace Go.Proofs.Ytkdoihcjhccliaa.G
open Go.RowKit Go.Proofs.Ytkdoihcjhccliaa.Q Go.Proofs.YtkdoihcjhccliaaW.PrintWords Go.Proofs.YtkdoihcjhccliaaW.PrintLast
set_option linter.unusedVariables false

/-- No cost is below nothing. -/
def R4 (E : List S98) : Prop := ∀ i : Int, 0 ≤ i → i < (E.length : Int) → 0 ≤ (aa E i).f3
/-- Each edge is walked once or more. -/
def aap (m : Nat) (A : List Int) : Prop := ∀ i : Int, 0 ≤ i → i < (m : Int) → 1 ≤ rd A i ∧ rd A i ≤ 1048576
theorem aap.aao {m : Nat} {A : List Int} (h : aap m A) : Sn m A := fun i a b => ⟨by have := (h i a b).1; omega, (h i a b).2⟩
structure Rnd (n : Int) (E : List S98) (A : List Int) : Prop where
  len : A.length = E.length
  ones : aap E.length A
  out : ∀ v : Int, 0 ≤ v → v < n → net E A v E.length = 0
/-- Potentials prove the round cheapest. -/
def uj (E : List S98) (A P : List Int) : Prop := ∀ i : Int, 0 ≤ i → i < (E.length : Int) → 0 ≤ red P 1 (aa E i) ∧ (red P 1 (aa E i) > 0 → rd A i = 1)

theorem Ia {n : Int} {E : List S98} {c : Int} (hc : c ≠ 0) {a : Int} (g : Evl (fun k => av.f k n E) (c, a)) : Evl (fun k => aT.f k n E) c := by
  refine (Evl.bind (h := fun k bt => aT.l0 k bt.1 0 n E) g ?_).congr fun k => rfl
  refine Evl.step (h := fun k => aT.j1 k c 0 false n E) (Evl.here fun k => by rw [aT.j1, if_neg (by simp)]) fun k => by rw [aT.l0, if_neg hc]
theorem R5 {n : Int} {E : List S98} (R : Right n E) {a : Int} (g : Evl (fun k => av.f k n E) (0, a)) : ∃ x : Int, Evl (fun k => aT.f k n E) x ∧ (x = 0 ∨ x = 80) ∧ (x = 0 ↔ R4 E) := by
  have m1 := R.m1
  have loop : ∀ (d i : Nat), i + d = E.length → (∀ j : Int, 0 ≤ j → j < (i : Int) → 0 ≤ (aa E j).f3) → ∃ x : Int, Evl (fun k => aT.l0 k 0 i n E) x ∧ (x = 0 ∨ x = 80) ∧ (x = 0 ↔ R4 E) := by
    intro d
    induction d with
    | zero =>
      intro i hi hP
      refine ⟨0, Evl.step (h := fun k => aT.j1 k 0 i false n E) (Evl.here fun k => by rw [aT.j1, if_neg (by simp)]) fun k => ?_, Or.inl rfl, fun _ j a b => hP j a (by omega), fun _ => rfl⟩
      rw [aT.l0, if_pos rfl, decide_eq_false (by omega)]
    | succ d ih =>
      intro i hi hP
      have g : (i : Int) < (E.length : Int) := by omega
      have w : wrap64 ((i : Int) + 1) = ((i + 1 : Nat) : Int) := by rw [w1 (by omega) (by omega)]; rfl
      by_cases c : (aa E i).f3 < 0
      · refine ⟨80, Evl.step (h := fun k => aT.j1 k 0 i true n E) (Evl.step (h := fun k => aT.l0 k 80 (wrap64 ((i : Int) + 1)) n E) (Evl.step (h := fun k => aT.j1 k 80 (wrap64 ((i : Int) + 1)) false n E) (Evl.here fun k => by rw [aT.j1, if_neg (by simp)]) fun k => by rw [aT.l0, if_neg (by decide)]) fun k => by rw [aT.j1, if_pos rfl, if_pos (by omega), if_pos g, if_pos c]) fun k => by rw [aT.l0, if_pos rfl, decide_eq_true g], Or.inr rfl, fun h => (by cases h), fun h => absurd (h i (by omega) g) (by omega)⟩
      · obtain ⟨x, e1, e2, e3⟩ := ih (i + 1) (by omega) (fun j j0 j1 => by
          by_cases q : j = i
          · rw [q]; omega
          · exact hP j j0 (by omega))
        exact ⟨x, Evl.step (h := fun k => aT.j1 k 0 i true n E) (e1.step fun k => by rw [aT.j1, if_pos rfl, if_pos (by omega), if_pos g, if_neg c, w]) fun k => by rw [aT.l0, if_pos rfl, decide_eq_true g], e2, e3⟩
  obtain ⟨x, e1, e2⟩ := loop E.length 0 (by omega) (fun j a b => by omega)
  exact ⟨x, (Evl.bind (h := fun k bt => aT.l0 k bt.1 0 n E) g e1).congr fun k => rfl, e2⟩

/-- Rounds, in the document. -/
theorem Lg {n : Int} {E : List S98} (R : Right n E) {A : List Int} (hA : A.length = E.length) (hL : Sn E.length A) (d : Nat) : ∀ i : Nat, ((i + d : Nat) : Int) = n →
    ∃ b : Bool, Evl (fun k => bQ.l1 k A i n E) b ∧ (b = true ↔ ∀ v : Int, (i : Int) ≤ v → v < n → net E A v E.length = 0) := by
  have n1 := R.n1
  induction d with
  | zero => intro i hi; exact ⟨true, Evl.here fun k => by rw [bQ.l1, if_neg (by omega)], fun _ v a b => by omega, fun _ => rfl⟩
  | succ d ih =>
    intro i hi
    have w : wrap64 ((i : Int) + 1) = ((i + 1 : Nat) : Int) := by rw [w1 (by omega) (by omega)]; rfl
    obtain ⟨r, h1, h2⟩ := aeu n E A i R.m1 hA
    have hr := h2 hL
    subst hr
    by_cases c : net E A i E.length = 0
    · obtain ⟨b, e1, e2⟩ := ih (i + 1) (by omega)
      refine ⟨b, (Evl.bind (h := fun k aeH => if aeH = 0 then (bQ.l1 k A (wrap64 ((i : Int) + 1)) n E) else some false) h1 (e1.congr fun k => by rw [if_pos c, w])).step fun k => by rw [bQ.l1, if_pos (by omega)], e2.trans ⟨fun h v a b => ?_, fun h v a b => h v (by omega) b⟩⟩
      by_cases q : v = i
      · rw [q]; exact c
      · exact h v (by omega) b
    · exact ⟨false, (Evl.bind (h := fun k aeH => if aeH = 0 then (bQ.l1 k A (wrap64 ((i : Int) + 1)) n E) else some false) h1 (Evl.pure.congr fun k => by rw [if_neg c])).step fun k => by rw [bQ.l1, if_pos (by omega)], fun h => (by cases h), fun h => absurd (h i (by omega) (by omega)) c⟩
theorem Un {n : Int} {E : List S98} (R : Right n E) (A : List Int) : ∃ b : Bool, Evl (fun k => bQ.f k n E A) b ∧ (b = true ↔ Rnd n E A) := by
  have n0 := R.n0
  have m1 := R.m1
  by_cases h : A.length = E.length
  · have loop : ∀ (d i : Nat), i + d = E.length → (∀ j : Int, 0 ≤ j → j < (i : Int) → 1 ≤ rd A j ∧ rd A j ≤ 1048576) → ∃ b : Bool, Evl (fun k => bQ.l0 k A i n E) b ∧ (b = true ↔ Rnd n E A) := by
      intro d
      induction d with
      | zero =>
        intro i hi hP
        have o : aap E.length A := fun j a b => hP j a (by omega)
        obtain ⟨b, e1, e2⟩ := Lg R h o.aao n.toNat 0 (by omega)
        exact ⟨b, e1.step fun k => by rw [bQ.l0, if_neg (by omega)]; rfl, e2.trans ⟨fun q => ⟨h, o, fun v a b => q v (by omega) b⟩, fun q v a b => q.out v (by omega) b⟩⟩
      | succ d ih =>
        intro i hi hP
        have w : wrap64 ((i : Int) + 1) = ((i + 1 : Nat) : Int) := by rw [w1 (by omega) (by omega)]; rfl
        by_cases c1 : rd A i < 1
        · exact ⟨false, Evl.here fun k => by rw [bQ.l0, if_pos (by omega), if_pos (by omega), if_pos c1], fun h => (by cases h), fun h => absurd (h.ones i (by omega) (by omega)).1 (by omega)⟩
        · by_cases c2 : rd A i > 1048576
          · exact ⟨false, Evl.here fun k => by rw [bQ.l0, if_pos (by omega), if_pos (by omega), if_neg c1, if_pos c2], fun h => (by cases h), fun h => absurd (h.ones i (by omega) (by omega)).2 (by omega)⟩
          · obtain ⟨b, e1, e2⟩ := ih (i + 1) (by omega) (fun j j0 j1 => by
              by_cases q : j = i
              · rw [q]; exact ⟨by omega, by omega⟩
              · exact hP j j0 (by omega))
            exact ⟨b, e1.step fun k => by rw [bQ.l0, if_pos (by omega), if_pos (by omega), if_neg c1, if_neg c2, w], e2⟩
    obtain ⟨b, e1, e2⟩ := loop E.length 0 (by omega) (fun j a b => by omega)
    exact ⟨b, e1.congr fun k => by rw [bQ.f, if_pos (by omega)]; rfl, e2⟩
  · exact ⟨false, Evl.pure.congr fun k => by rw [bQ.f, if_neg (by omega)], fun z => (by cases z), fun z => absurd z.len h⟩

/-- The document's last rounds. -/
theorem Z0 {n : Int} {E : List S98} (R : Right n E) {A P : List Int} (hA : A.length = E.length) (o : aap E.length A) (hp : yH n P) (d : Nat) : ∀ i : Nat, i + d = E.length →
    (∀ j : Int, 0 ≤ j → j < (i : Int) → 0 ≤ red P 1 (aa E j) ∧ (red P 1 (aa E j) > 0 → rd A j = 1)) →
    ∃ r : Int × Int, Evl (fun k => aU.l0 k A P i n E) r ∧ (uj E A P → r = (JD E A E.length, 0)) ∧ (¬ uj E A P → r = (0, 221)) := by
  have hm := R.m1
  induction d with
  | zero =>
    intro i hi hP
    have t : uj E A P := fun j a b => hP j a (by omega)
    exact ⟨_, (Evl.bind (h := fun k t525 => some (t525, (0 : Int))) (Rs (n := n) hm hA) Evl.pure).step fun k => by rw [aU.l0, if_neg (by omega)], fun _ => rfl, fun h => absurd t h⟩
  | succ d ih =>
    intro i hi hP
    have w : wrap64 ((i : Int) + 1) = ((i + 1 : Nat) : Int) := by rw [w1 (by omega) (by omega)]; rfl
    have g : (i : Int) < (E.length : Int) := by omega
    have hr := red_f hp (R.e i (by omega) g)
    have a := o i (by omega) g
    by_cases ok : 0 ≤ red P 1 (aa E i) ∧ (red P 1 (aa E i) > 0 → rd A i = 1)
    · obtain ⟨r, e1, e2, e3⟩ := ih (i + 1) (by omega) (fun j j0 j1 => by
        by_cases q : j = i
        · rw [q]; exact ok
        · exact hP j j0 (by omega))
      refine ⟨r, e1.step fun k => ?_, e2, e3⟩
      rw [aU.l0, if_pos (by omega), if_pos (by omega), if_pos g, hr, Option.bind_some, w, if_neg (by omega)]
      by_cases c1 : red P 1 (aa E i) > 0
      · have := ok.2 c1
        rw [if_pos c1, if_neg (by omega)]
      · rw [if_neg c1]
    · refine ⟨(0, 221), Evl.here fun k => ?_, fun h => absurd (h i (by omega) g) ok, fun _ => rfl⟩
      rw [aU.l0, if_pos (by omega), if_pos (by omega), if_pos g, hr, Option.bind_some, w]
      by_cases c1 : red P 1 (aa E i) < 0
      · rw [if_pos c1]
      · by_cases c2 : red P 1 (aa E i) > 0
        · have : rd A i ≠ 1 := fun h => ok ⟨by omega, fun _ => h⟩
          rw [if_neg c1, if_pos c2, if_pos (by omega)]
        · exact absurd ⟨by omega, fun h => by omega⟩ ok

theorem Z4 {E : List S98} {A P : List Int} (hm : (E.length : Int) ≤ 4096) (hA : A.length = E.length) (d : Nat) : ∀ i : Nat, i + d = E.length → Evl (fun k => aj.l4 k E E.length i A P (JD E A i)) (0, JD E A E.length) := by
  induction d with
  | zero => intro i hi; exact Evl.here fun k => by rw [aj.l4, if_neg (by omega), show i = E.length by omega]
  | succ d ih =>
    intro i hi
    have w : wrap64 ((i : Int) + 1) = ((i + 1 : Nat) : Int) := by rw [w1 (by omega) (by omega)]; rfl
    exact (ih (i + 1) (by omega)).step fun k => by rw [aj.l4, if_pos (by omega), if_pos (by omega), if_pos (by omega), if_pos (by omega), w]; rfl
theorem Z5 {n : Int} {E : List S98} {A P C : List Int} (hm : (E.length : Int) ≤ 4096) (hA : A.length = E.length) (hC : C.length = E.length) (hr : ∀ j : Int, 0 ≤ j → j < (E.length : Int) → rd C j = red P 1 (aa E j)) (d : Nat) : ∀ i : Nat, i + d = E.length →
    (∀ j : Int, 0 ≤ j → j < (i : Int) → 0 ≤ red P 1 (aa E j) ∧ (red P 1 (aa E j) > 0 → rd A j = 1)) →
    ∃ r : Int × Int, Evl (fun k => aj.l3 k C C.length i n E A P 0) r ∧ (uj E A P → r = (0, JD E A E.length)) ∧ (¬ uj E A P → r = (221, 0)) := by
  induction d with
  | zero =>
    intro i hi hP
    have t : uj E A P := fun j a b => hP j a (by omega)
    exact ⟨_, (Z4 (P := P) hm hA E.length 0 (by omega)).step fun k => by rw [aj.l3, if_neg (by omega)]; rfl, fun _ => rfl, fun h => absurd t h⟩
  | succ d ih =>
    intro i hi hP
    have w : wrap64 ((i : Int) + 1) = ((i + 1 : Nat) : Int) := by rw [w1 (by omega) (by omega)]; rfl
    have g : (i : Int) < (E.length : Int) := by omega
    have hi2 := hr i (by omega) g
    by_cases ok : 0 ≤ red P 1 (aa E i) ∧ (red P 1 (aa E i) > 0 → rd A i = 1)
    · obtain ⟨r, e1, e2, e3⟩ := ih (i + 1) (by omega) (fun j j0 j1 => by
        by_cases q : j = i
        · rw [q]; exact ok
        · exact hP j j0 (by omega))
      refine ⟨r, e1.step fun k => ?_, e2, e3⟩
      rw [aj.l3, if_pos (by omega), if_pos (by omega), if_pos (by omega), w, hi2]
      by_cases c1 : red P 1 (aa E i) = 0
      · rw [if_pos c1]
      · rw [if_neg c1, if_pos (by omega), if_pos (by omega), if_pos (ok.2 (by omega))]
    · refine ⟨(221, 0), Evl.here fun k => ?_, fun h => absurd (h i (by omega) g) ok, fun _ => rfl⟩
      rw [aj.l3, if_pos (by omega), if_pos (by omega), if_pos (by omega), w, hi2]
      by_cases c1 : red P 1 (aa E i) = 0
      · exact absurd ⟨by omega, fun h => by omega⟩ ok
      · by_cases c2 : red P 1 (aa E i) > 0
        · rw [if_neg c1, if_pos c2, if_pos (by omega), if_neg (fun h => ok ⟨by omega, fun _ => h⟩)]
        · rw [if_neg c1, if_neg c2]
theorem Z6 {n : Int} {E : List S98} (R : Right n E) {A P O : List Int} (hA : A.length = E.length) (o : aap E.length A) (hO : (O.length : Int) = n) (ho : ∀ v : Int, 0 ≤ v → v < n → rd O v = net E A v E.length) (d : Nat) : ∀ i : Nat, ((i + d : Nat) : Int) = n →
    (∀ v : Int, 0 ≤ v → v < (i : Int) → rd O v = 0) →
    ∃ r : Int × Int, Evl (fun k => aj.l2 k O O.length i n E A P 0) r ∧ (Rnd n E A ∧ Gm E ∧ yH n P ∧ uj E A P → r = (0, JD E A E.length)) ∧ (¬ (Rnd n E A ∧ Gm E ∧ yH n P ∧ uj E A P) → r = (221, 0)) := by
  have n1 := R.n1
  induction d with
  | zero =>
    intro i hi hP
    have M : Rnd n E A := ⟨hA, o, fun v v0 v1 => by rw [← ho v v0 v1]; exact hP v v0 (by omega)⟩
    obtain ⟨tb, t1, -, t2⟩ := aeG R
    obtain ⟨cr, e1, e2, e3⟩ := Rq R P (q := 1) (by omega) (by omega)
    have go : ∀ {r : Int × Int}, Evl (fun k => if tb = true then ((bv.f k n E P 1).bind fun sH => (if sH.1 = 0 then (aj.l3 k sH.2 (sH.2.length : Int) 0 n E A P 0) else (some (sH.1, 0)))) else (some (221, 0))) r → Evl (fun k => aj.l2 k O O.length i n E A P 0) r := fun h =>
      (Evl.bind (h := fun k aaR => if aaR = true then ((bv.f k n E P 1).bind fun sH => (if sH.1 = 0 then (aj.l3 k sH.2 (sH.2.length : Int) 0 n E A P 0) else (some (sH.1, 0)))) else (some (221, 0))) t1 h).step fun k => by rw [aj.l2, if_neg (by omega)]
    by_cases ht : tb = true
    · have go2 : ∀ {r : Int × Int}, Evl (fun k => if cr.1 = 0 then (aj.l3 k cr.2 (cr.2.length : Int) 0 n E A P 0) else (some (cr.1, 0))) r → Evl (fun k => aj.l2 k O O.length i n E A P 0) r := fun h =>
        go ((Evl.bind (h := fun k sH => if sH.1 = 0 then (aj.l3 k sH.2 (sH.2.length : Int) 0 n E A P 0) else (some (sH.1, 0))) e1 h).congr fun k => by rw [if_pos ht])
      by_cases hp : yH n P
      · obtain ⟨k1, k2, k3⟩ := e2 hp
        obtain ⟨r, f1, f2, f3⟩ := Z5 (n := n) R.m1 hA k2 k3 E.length 0 (by omega) (fun j a b => by omega)
        exact ⟨r, go2 (f1.congr fun k => by rw [if_pos k1]; rfl), fun h => f2 h.2.2.2, fun h => f3 fun t => h ⟨M, t2.1 ht, hp, t⟩⟩
      · have k1 := e3 hp
        exact ⟨(221, 0), go2 (Evl.pure.congr fun k => by rw [k1, if_neg (by decide)]), fun h => absurd h.2.2.1 hp, fun _ => rfl⟩
    · exact ⟨(221, 0), go (Evl.pure.congr fun k => by rw [if_neg ht]), fun h => absurd (t2.2 h.2.1) ht, fun _ => rfl⟩
  | succ d ih =>
    intro i hi hP
    have w : wrap64 ((i : Int) + 1) = ((i + 1 : Nat) : Int) := by rw [w1 (by omega) (by omega)]; rfl
    by_cases c : rd O i = 0
    · obtain ⟨r, e1, e2, e3⟩ := ih (i + 1) (by omega) (fun v v0 v1 => by
        by_cases q : v = i
        · rw [q]; exact c
        · exact hP v v0 (by omega))
      exact ⟨r, e1.step fun k => by rw [aj.l2, if_pos (by omega), if_pos (by omega), if_pos (by omega), if_pos c, w], e2, e3⟩
    · exact ⟨(221, 0), Evl.here fun k => by rw [aj.l2, if_pos (by omega), if_pos (by omega), if_pos (by omega), if_neg c], fun h => absurd (by rw [ho i (by omega) (by omega)]; exact h.1.out i (by omega) (by omega)) c, fun _ => rfl⟩
theorem Z7 {n : Int} {E : List S98} (R : Right n E) {A P : List Int} (hA : A.length = E.length) (d : Nat) : ∀ (i : Nat) (O : List Int), i + d = E.length → (O.length : Int) = n →
    (∀ j : Int, 0 ≤ j → j < (i : Int) → 1 ≤ rd A j ∧ rd A j ≤ 1048576) → (∀ v : Int, 0 ≤ v → v < n → rd O v = net E A v i) →
    ∃ r : Int × Int, Evl (fun k => aj.l1 k O E E.length i n E A P 0) r ∧ (Rnd n E A ∧ Gm E ∧ yH n P ∧ uj E A P → r = (0, JD E A E.length)) ∧ (¬ (Rnd n E A ∧ Gm E ∧ yH n P ∧ uj E A P) → r = (221, 0)) := by
  have hm := R.m1
  have n0 := R.n0
  induction d with
  | zero =>
    intro i O hi hO hP hN
    have e : i = E.length := by omega
    subst e
    obtain ⟨r, e1, e2⟩ := Z6 R (P := P) hA (fun j a b => hP j a b) hO hN n.toNat 0 (by omega) (fun v a b => by omega)
    exact ⟨r, e1.step fun k => by rw [aj.l1, if_neg (by omega)]; rfl, e2⟩
  | succ d ih =>
    intro i O hi hO hP hN
    have g2 : (i : Int) < (E.length : Int) := by omega
    have g : (i : Int) < (A.length : Int) := by omega
    have w : wrap64 ((i : Int) + 1) = ((i + 1 : Nat) : Int) := by rw [w1 (by omega) (by omega)]; rfl
    have e := R.e i (by omega) g2
    have f0 := e.a0
    have f1 : (aa E i).f0 < (O.length : Int) := by rw [hO]; exact e.a1
    have t0 := e.b0
    have t1' := e.b1
    by_cases a0 : rd A i ≥ 1
    · by_cases a1 : rd A i ≤ 1048576
      · have t1 : (aa E i).f1 < ((O.set (aa E i).f0.toNat (wrap64 (rd O (aa E i).f0 + rd A i))).length : Int) := by rw [List.length_set, hO]; exact t1'
        have t1o : (aa E i).f1 < (O.length : Int) := by rw [hO]; exact t1'
        have hl : ∀ j : Int, 0 ≤ j → j < ((i + 1 : Nat) : Int) → 1 ≤ rd A j ∧ rd A j ≤ 1048576 := fun j h0 h1 => by
          by_cases q : j = i
          · rw [q]; exact ⟨a0, a1⟩
          · exact hP j h0 (by omega)
        have hlab : Sn i A := fun j h0 h1 => ⟨by have := (hP j h0 h1).1; omega, (hP j h0 h1).2⟩
        have hstep : ∀ v : Int, 0 ≤ v → v < n → rd (((O.set (aa E i).f0.toNat (wrap64 (rd O (aa E i).f0 + rd A i)))).set (aa E i).f1.toNat (wrap64 (rd (O.set (aa E i).f0.toNat (wrap64 (rd O (aa E i).f0 + rd A i))) (aa E i).f1 - rd A i))) v = net E A v (i + 1) := by
          intro v v0 v1
          rw [mg _ _ _ _ t0 t1 v0, mg _ _ _ _ f0 f1 v0, mg _ _ _ _ f0 f1 t0]
          have b0 := Dn (E := E) (v := v) hlab i (Nat.le_refl _)
          have bf := Dn (E := E) (v := (aa E i).f0) hlab i (Nat.le_refl _)
          have bt := Dn (E := E) (v := (aa E i).f1) hlab i (Nat.le_refl _)
          have of := hN (aa E i).f0 f0 (by omega)
          have ot := hN (aa E i).f1 t0 t1'
          have ov := hN v v0 v1
          simp only [net]
          by_cases q1 : v = (aa E i).f1
          · rw [if_pos q1, if_pos q1.symm]
            by_cases q0 : (aa E i).f1 = (aa E i).f0
            · rw [if_pos q0, if_pos (by omega), of, wr (x := net E A (aa E i).f0 i + rd A i) (by omega) (by omega), wr (by omega) (by omega), q1, q0]
            · rw [if_neg q0, if_neg (by omega), ot, wr (by omega) (by omega), q1]; omega
          · rw [if_neg q1, if_neg (show ¬ (aa E i).f1 = v from fun h => q1 h.symm)]
            by_cases q0 : v = (aa E i).f0
            · rw [if_pos q0, if_pos q0.symm, of, wr (by omega) (by omega), q0]; omega
            · rw [if_neg q0, if_neg (show ¬ (aa E i).f0 = v from fun h => q0 h.symm), ov]; omega
        obtain ⟨r, h1, h2⟩ := ih (i + 1) _ (by omega) (by rw [List.length_set, List.length_set]; exact hO) hl hstep
        refine ⟨r, h1.step fun k => ?_, h2⟩
        rw [aj.l1, if_pos g2, if_pos (by omega), if_pos g2, if_pos g, if_pos a0, if_pos a1, if_pos f0, if_pos f1, Option.bind_some, if_pos t0, if_pos t1o, w]
      · refine ⟨(221, 0), Evl.here fun k => by rw [aj.l1, if_pos g2, if_pos (by omega), if_pos g2, if_pos g, if_pos a0, if_neg a1], fun h => absurd (h.1.ones i (by omega) g2).2 a1, fun _ => rfl⟩
    · refine ⟨(221, 0), Evl.here fun k => by rw [aj.l1, if_pos g2, if_pos (by omega), if_pos g2, if_pos g, if_neg a0], fun h => absurd (h.1.ones i (by omega) g2).1 a0, fun _ => rfl⟩
theorem Z8 {n : Int} {E : List S98} (R : Right n E) {A P : List Int} (d : Nat) : ∀ i : Nat, i + d = E.length → (∀ j : Int, 0 ≤ j → j < (i : Int) → 0 ≤ (aa E j).f3) →
    ∃ r : Int × Int, Evl (fun k => aj.l0 k E E.length i n E A P 0) r ∧ (¬ R4 E → r = (80, 0)) ∧ (R4 E → Rnd n E A ∧ Gm E ∧ yH n P ∧ uj E A P → r = (0, JD E A E.length)) ∧ (R4 E → ¬ (Rnd n E A ∧ Gm E ∧ yH n P ∧ uj E A P) → r = (221, 0)) := by
  have hm := R.m1
  have n0 := R.n0
  have n1 := R.n1
  induction d with
  | zero =>
    intro i hi hP
    have fr : R4 E := fun j a b => hP j a (by omega)
    by_cases h : A.length = E.length
    · obtain ⟨r, e1, e2, e3⟩ := Z7 R (P := P) h E.length 0 (List.replicate n.toNat 0) (by omega) (by rw [List.length_replicate]; omega) (fun j a b => by omega) (fun v a b => by rw [gT _ _ _ a (by omega)]; rfl)
      exact ⟨r, e1.step fun k => by rw [aj.l0, if_neg (by omega), if_pos (by omega), if_pos n0, if_pos (by omega)]; rfl, fun h => absurd fr h, fun _ => e2, fun _ => e3⟩
    · exact ⟨(221, 0), Evl.here fun k => by rw [aj.l0, if_neg (by omega), if_neg (by omega)], fun h => absurd fr h, fun _ q => absurd q.1.len h, fun _ _ => rfl⟩
  | succ d ih =>
    intro i hi hP
    have g : (i : Int) < (E.length : Int) := by omega
    have w : wrap64 ((i : Int) + 1) = ((i + 1 : Nat) : Int) := by rw [w1 (by omega) (by omega)]; rfl
    by_cases c : (aa E i).f3 ≥ 0
    · obtain ⟨r, e1, e2⟩ := ih (i + 1) (by omega) (fun j j0 j1 => by
        by_cases q : j = i
        · rw [q]; exact c
        · exact hP j j0 (by omega))
      exact ⟨r, e1.step fun k => by rw [aj.l0, if_pos g, if_pos (by omega), if_pos g, if_pos c, w], e2⟩
    · exact ⟨(80, 0), Evl.here fun k => by rw [aj.l0, if_pos g, if_pos (by omega), if_pos g, if_neg c], fun _ => rfl, fun h => absurd (h i (by omega) g) c, fun h => absurd (h i (by omega) g) c⟩

theorem aeI (n : Int) (E : List S98) (A P : List Int) : ∃ v e : Int, Evl (fun k => dA.f k n E A P) (v, e) ∧ Evl (fun k => aU.f k n E A P) (v, e) ∧
    (e ≠ 0 → v = 0) ∧ (e = 0 → Right n E ∧ R4 E ∧ Rnd n E A ∧ Gm E ∧ yH n P ∧ uj E A P ∧ v = cost E A E.length) ∧ (Right n E → R4 E → Rnd n E A → Gm E → yH n P → uj E A P → e = 0) := by
  obtain ⟨c, a, g1, g2, g3, g4, g5⟩ := xI n E
  have hr := Q6 g1
  have prog : ∀ {r : Int × Int}, Evl (fun k => aj.f k n E A P 0) r → Evl (fun k => dA.f k n E A P) (r.2, r.1) := fun h => (Evl.bind (h := fun k t => some (t.2, t.1)) h Evl.pure).congr fun k => rfl
  by_cases hc : c = 0
  · subst hc
    obtain ⟨rfl, R⟩ := g3 rfl
    have n0 := R.n0
    obtain ⟨x, s1, s2, s3⟩ := R5 R g2
    obtain ⟨r2, p1, pb, p2, p3⟩ := Z8 R (A := A) (P := P) E.length 0 (by omega) (fun j a b => by omega)
    have pr : Evl (fun k => aj.f k n E A P 0) r2 := (Evl.bind (h := fun k t203 => if t203 = 0 then (aj.l0 k E (E.length : Int) 0 n E A P 0) else (some (t203, (0 : Int)))) hr (p1.congr fun k => by rw [if_pos rfl]; rfl)).congr fun k => rfl
    have dstart : ∀ {r : Int × Int}, Evl (fun k => if x = 0 then ((bQ.f k n E A).bind fun Z9 => (if Z9 = true then ((dD.f k n E).bind fun R6 => (if R6 = true then ((dL.f k n E P).bind fun JM => (aU.j0 k A P (!JM) n E)) else (aU.j0 k A P true n E))) else (aU.j0 k A P true n E))) else (some (0, x))) r → Evl (fun k => aU.f k n E A P) r := fun h =>
      (Evl.bind (h := fun k aeJ => if aeJ = 0 then ((bQ.f k n E A).bind fun Z9 => (if Z9 = true then ((dD.f k n E).bind fun R6 => (if R6 = true then ((dL.f k n E P).bind fun JM => (aU.j0 k A P (!JM) n E)) else (aU.j0 k A P true n E))) else (aU.j0 k A P true n E))) else (some (0, aeJ))) s1 h).congr fun k => rfl
    by_cases hx : x = 0
    · have fr := s3.1 hx
      obtain ⟨rb, r1, rr⟩ := Un R A
      obtain ⟨tb, -, t1, t2⟩ := aeG R
      obtain ⟨pt, q1, q2⟩ := aex E n0 R.n1 P
      have no : Evl (fun k => aU.j0 k A P true n E) (0, 221) := Evl.here fun k => by rw [aU.j0, if_pos rfl]
      have doc : ∃ r : Int × Int, Evl (fun k => aU.f k n E A P) r ∧ (Rnd n E A ∧ Gm E ∧ yH n P ∧ uj E A P → r = (JD E A E.length, 0)) ∧ (¬ (Rnd n E A ∧ Gm E ∧ yH n P ∧ uj E A P) → r = (0, 221)) := by
        have go1 : ∀ {r : Int × Int}, Evl (fun k => if rb = true then ((dD.f k n E).bind fun R6 => (if R6 = true then ((dL.f k n E P).bind fun JM => (aU.j0 k A P (!JM) n E)) else (aU.j0 k A P true n E))) else (aU.j0 k A P true n E)) r → Evl (fun k => aU.f k n E A P) r := fun h =>
          dstart ((Evl.bind (h := fun k Z9 => if Z9 = true then ((dD.f k n E).bind fun R6 => (if R6 = true then ((dL.f k n E P).bind fun JM => (aU.j0 k A P (!JM) n E)) else (aU.j0 k A P true n E))) else (aU.j0 k A P true n E)) r1 h).congr fun k => by rw [if_pos hx])
        by_cases h1 : rb = true
        · have M := rr.1 h1
          have go2 : ∀ {r : Int × Int}, Evl (fun k => if tb = true then ((dL.f k n E P).bind fun JM => (aU.j0 k A P (!JM) n E)) else (aU.j0 k A P true n E)) r → Evl (fun k => aU.f k n E A P) r := fun h =>
            go1 ((Evl.bind (h := fun k R6 => if R6 = true then ((dL.f k n E P).bind fun JM => (aU.j0 k A P (!JM) n E)) else (aU.j0 k A P true n E)) t1 h).congr fun k => by rw [if_pos h1])
          by_cases h2 : tb = true
          · have go3 : ∀ {r : Int × Int}, Evl (fun k => aU.j0 k A P (!pt) n E) r → Evl (fun k => aU.f k n E A P) r := fun h =>
              go2 ((Evl.bind (h := fun k JM => aU.j0 k A P (!JM) n E) q1 h).congr fun k => by rw [if_pos h2])
            by_cases h3 : pt = true
            · have hp := q2.1 h3
              obtain ⟨r, d1, d2, d3⟩ := Z0 R M.len M.ones hp E.length 0 (by omega) (fun j a b => by omega)
              exact ⟨r, go3 (d1.step fun k => by rw [h3, Bool.not_true, aU.j0, if_neg (by simp)]; rfl), fun h => d2 h.2.2.2, fun h => d3 fun t => h ⟨M, t2.1 h2, hp, t⟩⟩
            · have h3' : pt = false := by simpa using h3
              exact ⟨(0, 221), go3 (no.congr fun k => by rw [h3', Bool.not_false]), fun h => absurd (q2.2 h.2.2.1) h3, fun _ => rfl⟩
          · exact ⟨(0, 221), go2 (no.congr fun k => by rw [if_neg h2]), fun h => absurd (t2.2 h.2.1) h2, fun _ => rfl⟩
        · exact ⟨(0, 221), go1 (no.congr fun k => by rw [if_neg h1]), fun h => absurd (rr.2 h.1) h1, fun _ => rfl⟩
      obtain ⟨r1', d1, d2, d3⟩ := doc
      by_cases F : Rnd n E A ∧ Gm E ∧ yH n P ∧ uj E A P
      · have z1 := d2 F
        have z2 := p2 fr F
        subst z1 z2
        exact ⟨_, _, prog pr, d1, fun h => absurd rfl h, fun _ => ⟨R, fr, F.1, F.2.1, F.2.2.1, F.2.2.2, (H5 R F.1.ones.aao E.length (Nat.le_refl _)).1⟩, fun _ _ _ _ _ _ => rfl⟩
      · have z1 := d3 F
        have z2 := p3 fr F
        subst z1 z2
        exact ⟨_, _, prog pr, d1, fun _ => rfl, fun h => (by cases h), fun _ _ h1 h2 h3 h4 => absurd ⟨h1, h2, h3, h4⟩ F⟩
    · have h80 : x = 80 := by rcases s2 with h | h; exact absurd h hx; exact h
      have nf : ¬ R4 E := fun h => hx (s3.2 h)
      have z2 := pb nf
      subst z2
      subst h80
      exact ⟨0, 80, prog pr, dstart (Evl.pure.congr fun k => by rw [if_neg hx]), fun _ => rfl, fun h => (by cases h), fun _ h => absurd h nf⟩
  · refine ⟨0, c, prog (r := (c, 0)) ((Evl.bind (h := fun k u => if u = 0 then _ else some (u, (0 : Int))) hr (Evl.pure.congr fun k => by rw [if_neg hc])).congr fun k => rfl), (Evl.bind (h := fun k u => if u = 0 then _ else some ((0 : Int), u)) (Ia hc g2) (Evl.pure.congr fun k => by rw [if_neg hc])).congr fun k => rfl, fun _ => rfl, fun h => absurd h hc, fun R => absurd (g5 R) hc⟩
end Go.Proofs.Ytkdoihcjhccliaa.G
namespace Go.Proofs.Ytkdoihcjhccliaa.G
open Go.RowKit Go.Proofs.Ytkdoihcjhccliaa.Q Go.Proofs.YtkdoihcjhccliaaW.PrintWords Go.Proofs.YtkdoihcjhccliaaW.PrintLast
set_option linter.unusedVariables false

/-- Edges on a side and off it, and none leaves it. -/
structure Vg (n : Int) (E : List S98) (B : List Bool) : Prop where
  len : (B.length : Int) = n
  no : ∀ i : Int, 0 ≤ i → i < (E.length : Int) → fF false B (aa E i).f0 = true → fF false B (aa E i).f1 = true
  on : ∃ i : Int, 0 ≤ i ∧ i < (E.length : Int) ∧ fF false B (aa E i).f1 = true
  off : ∃ i : Int, 0 ≤ i ∧ i < (E.length : Int) ∧ fF false B (aa E i).f0 = false

/-- What was seen on the first edges. -/
structure Seen (E : List S98) (B : List Bool) (i : Nat) (on off : Bool) : Prop where
  no : ∀ j : Int, 0 ≤ j → j < (i : Int) → fF false B (aa E j).f0 = true → fF false B (aa E j).f1 = true
  on : on = true ↔ ∃ j : Int, 0 ≤ j ∧ j < (i : Int) ∧ fF false B (aa E j).f1 = true
  off : off = true ↔ ∃ j : Int, 0 ≤ j ∧ j < (i : Int) ∧ fF false B (aa E j).f0 = false

theorem Seen.next {E : List S98} {B : List Bool} {i : Nat} {on off : Bool} (h : Seen E B i on off) (c : fF false B (aa E i).f0 = true → fF false B (aa E i).f1 = true) : Seen E B (i + 1) (on || fF false B (aa E i).f1) (off || !(fF false B (aa E i).f0)) := by
  refine ⟨fun j j0 j1 hj => ?_, ?_, ?_⟩
  · by_cases q : j = i
    · rw [q] at hj ⊢; exact c hj
    · exact h.no j j0 (by omega) hj
  · rw [Bool.or_eq_true, h.on]
    constructor
    · rintro (⟨j, a, b, e⟩ | e)
      · exact ⟨j, a, by omega, e⟩
      · exact ⟨i, by omega, by omega, e⟩
    · rintro ⟨j, a, b, e⟩
      by_cases q : j = i
      · rw [q] at e; exact Or.inr e
      · exact Or.inl ⟨j, a, by omega, e⟩
  · rw [Bool.or_eq_true, h.off, Bool.not_eq_true']
    constructor
    · rintro (⟨j, a, b, e⟩ | e)
      · exact ⟨j, a, by omega, e⟩
      · exact ⟨i, by omega, by omega, e⟩
    · rintro ⟨j, a, b, e⟩
      by_cases q : j = i
      · rw [q] at e; exact Or.inr e
      · exact Or.inl ⟨j, a, by omega, e⟩

theorem Uo {n : Int} {E : List S98} (R : Right n E) {B : List Bool} (hB : (B.length : Int) = n) (d : Nat) : ∀ (i : Nat) (on off : Bool) (x y : Int), i + d = E.length → Seen E B i on off → (0 ≤ x ∧ x ≤ i ∧ (on = true ↔ x ≠ 0)) → (0 ≤ y ∧ y ≤ i ∧ (off = true ↔ y ≠ 0)) →
    ∃ e : Int, Evl (fun k => aZ.l0 k on off E E.length i B) e ∧ Evl (fun k => aW.l0 k B x y i n E) e ∧ (e = 0 ↔ Vg n E B) := by
  have m1 := R.m1
  induction d with
  | zero =>
    intro i on off x y hi S hx hy
    have e : (i : Int) = (E.length : Int) := by omega
    have two : ∀ r : Int, (on = true ∧ off = true → r = 0) → (¬ (on = true ∧ off = true) → r = 221) → (r = 0 ↔ Vg n E B) := fun r h1 h2 => by
      by_cases q : on = true ∧ off = true
      · rw [h1 q]
        refine ⟨fun _ => ⟨hB, fun j a b => S.no j a (by omega), ?_, ?_⟩, fun _ => rfl⟩
        · obtain ⟨j, a, b, c⟩ := S.on.1 q.1; exact ⟨j, a, by omega, c⟩
        · obtain ⟨j, a, b, c⟩ := S.off.1 q.2; exact ⟨j, a, by omega, c⟩
      · rw [h2 q]
        refine ⟨fun h => (by cases h), fun h => absurd ⟨S.on.2 ?_, S.off.2 ?_⟩ q⟩
        · obtain ⟨j, a, b, c⟩ := h.on; exact ⟨j, a, by omega, c⟩
        · obtain ⟨j, a, b, c⟩ := h.off; exact ⟨j, a, by omega, c⟩
    by_cases h1 : on = true
    · by_cases h2 : off = true
      · exact ⟨0, Evl.here fun k => by rw [aZ.l0, if_neg (by omega), if_pos h1, if_pos h2], Evl.here fun k => by rw [aW.l0, if_neg (by omega), if_neg (hx.2.2.1 h1), if_neg (hy.2.2.1 h2)], two 0 (fun _ => rfl) fun h => absurd ⟨h1, h2⟩ h⟩
      · have y0 : y = 0 := Classical.byContradiction fun h => h2 (hy.2.2.2 h)
        exact ⟨221, Evl.here fun k => by rw [aZ.l0, if_neg (by omega), if_pos h1, if_neg h2], Evl.here fun k => by rw [aW.l0, if_neg (by omega), if_neg (hx.2.2.1 h1), if_pos y0], two 221 (fun h => absurd h.2 h2) fun _ => rfl⟩
    · have x0 : x = 0 := Classical.byContradiction fun h => h1 (hx.2.2.2 h)
      exact ⟨221, Evl.here fun k => by rw [aZ.l0, if_neg (by omega), if_neg h1], Evl.here fun k => by rw [aW.l0, if_neg (by omega), if_pos x0], two 221 (fun h => absurd h.1 h1) fun _ => rfl⟩
  | succ d ih =>
    intro i on off x y hi S hx hy
    have g : (i : Int) < (E.length : Int) := by omega
    have w : wrap64 ((i : Int) + 1) = ((i + 1 : Nat) : Int) := by rw [w1 (by omega) (by omega)]; rfl
    have wx : wrap64 (x + 1) = x + 1 := w1 (by omega) (by omega)
    have wy : wrap64 (y + 1) = y + 1 := w1 (by omega) (by omega)
    have e := R.e i (by omega) g
    have a0 := e.a0
    have a1 : (aa E i).f0 < (B.length : Int) := by rw [hB]; exact e.a1
    have b0 := e.b0
    have b1 : (aa E i).f1 < (B.length : Int) := by rw [hB]; exact e.b1
    by_cases c : fF false B (aa E i).f0 = true → fF false B (aa E i).f1 = true
    · have S' := S.next c
      have go : ∀ x' y' : Int, (0 ≤ x' ∧ x' ≤ (i + 1 : Nat) ∧ ((on || fF false B (aa E i).f1) = true ↔ x' ≠ 0)) → (0 ≤ y' ∧ y' ≤ (i + 1 : Nat) ∧ ((off || !(fF false B (aa E i).f0)) = true ↔ y' ≠ 0)) →
          (∀ r, Evl (fun k => aW.l0 k B x' y' ((i + 1 : Nat) : Int) n E) r → Evl (fun k => aW.l0 k B x y i n E) r) → (∀ r, Evl (fun k => aZ.l0 k (on || fF false B (aa E i).f1) (off || !(fF false B (aa E i).f0)) E E.length ((i + 1 : Nat) : Int) B) r → Evl (fun k => aZ.l0 k on off E E.length i B) r) →
          ∃ e : Int, Evl (fun k => aZ.l0 k on off E E.length i B) e ∧ Evl (fun k => aW.l0 k B x y i n E) e ∧ (e = 0 ↔ Vg n E B) := fun x' y' hx' hy' h1 h2 => by
        obtain ⟨r, e1, e2, e3⟩ := ih (i + 1) _ _ x' y' (by omega) S' hx' hy'
        exact ⟨r, h2 r e1, h1 r e2, e3⟩
      have pr : ∀ r, Evl (fun k => aZ.l0 k (on || fF false B (aa E i).f1) (off || !(fF false B (aa E i).f0)) E E.length ((i + 1 : Nat) : Int) B) r → Evl (fun k => aZ.l0 k on off E E.length i B) r := fun r H => H.step fun k => by
        rw [aZ.l0, if_pos g, if_pos (by omega), if_pos g, if_pos a0, if_pos a1, w]
        by_cases p : fF false B (aa E i).f0 = true
        · have q := c p
          rw [if_pos p, if_pos b0, if_pos b1, if_pos q, p, q]
          cases on <;> cases off <;> simp
        · have p' : fF false B (aa E i).f0 = false := by simpa using p
          rw [if_neg p, if_pos b0, if_pos b1, p']
          cases on <;> cases off <;> simp
      by_cases p : fF false B (aa E i).f0 = true
      · have q := c p
        refine go (x + 1) y ⟨by omega, by push_cast; omega, by rw [q]; simp; omega⟩ ⟨hy.1, by push_cast; omega, by rw [p]; simpa using hy.2.2⟩ (fun r H => ?_) pr
        refine Evl.step (h := fun k => aW.j1 k B x y i true true false n E) (Evl.step (h := fun k => aW.j2 k B x y i true true true n E) (H.step fun k => by rw [aW.j2, if_pos rfl, if_pos rfl, if_pos rfl, wx, w]) fun k => by rw [aW.j1, if_neg (by simp), if_pos rfl]) fun k => by rw [aW.l0, if_pos g, if_pos (by omega), if_pos a0, if_pos a1, if_pos b0, if_pos b1, if_pos p, p, q, Bool.not_true]
      · have p' : fF false B (aa E i).f0 = false := by simpa using p
        by_cases q : fF false B (aa E i).f1 = true
        · refine go (x + 1) (y + 1) ⟨by omega, by push_cast; omega, by rw [q]; simp; omega⟩ ⟨by omega, by push_cast; omega, by rw [p']; simp; omega⟩ (fun r H => ?_) pr
          refine Evl.step (h := fun k => aW.j1 k B x y i false true false n E) (Evl.step (h := fun k => aW.j2 k B x y i false true true n E) (H.step fun k => by rw [aW.j2, if_pos rfl, if_neg (by simp), wx, wy, w]) fun k => by rw [aW.j1, if_neg (by simp), if_neg (by simp)]) fun k => by rw [aW.l0, if_pos g, if_pos (by omega), if_pos a0, if_pos a1, if_pos b0, if_pos b1, if_neg p, p', q]
        · have q' : fF false B (aa E i).f1 = false := by simpa using q
          refine go x (y + 1) ⟨hx.1, by push_cast; omega, by rw [q']; simpa using hx.2.2⟩ ⟨by omega, by push_cast; omega, by rw [p']; simp; omega⟩ (fun r H => ?_) pr
          refine Evl.step (h := fun k => aW.j1 k B x y i false false false n E) (Evl.step (h := fun k => aW.j2 k B x y i false false false n E) (H.step fun k => by rw [aW.j2, if_neg (by simp), if_neg (by simp), wy, w]) fun k => by rw [aW.j1, if_neg (by simp), if_neg (by simp)]) fun k => by rw [aW.l0, if_pos g, if_pos (by omega), if_pos a0, if_pos a1, if_pos b0, if_pos b1, if_neg p, p', q']
    · have p : fF false B (aa E i).f0 = true := Classical.byContradiction fun h => c fun z => absurd z h
      have q : ¬ fF false B (aa E i).f1 = true := fun h => c fun _ => h
      have q' : fF false B (aa E i).f1 = false := by simpa using q
      refine ⟨221, Evl.here fun k => by rw [aZ.l0, if_pos g, if_pos (by omega), if_pos g, if_pos a0, if_pos a1, if_pos p, if_pos b0, if_pos b1, if_neg q], ?_, fun h => (by cases h), fun h => absurd (h.no i (by omega) g) c⟩
      refine Evl.step (h := fun k => aW.j1 k B x y i true false true n E) (Evl.here fun k => by rw [aW.j1, if_pos rfl]) fun k => by rw [aW.l0, if_pos g, if_pos (by omega), if_pos a0, if_pos a1, if_pos b0, if_pos b1, if_pos p, p, q', Bool.not_false]

theorem aaa (n : Int) (E : List S98) (B : List Bool) : ∃ e : Int, Evl (fun k => jy.f k n E B) e ∧ Evl (fun k => aW.f k n E B) e ∧ (e = 0 → Right n E ∧ Vg n E B) ∧ (Right n E → Vg n E B → e = 0) := by
  obtain ⟨c, a, g1, g2, g3, g4, g5⟩ := xI n E
  have hr := Q6 g1
  by_cases hc : c = 0
  · subst hc
    obtain ⟨rfl, R⟩ := g3 rfl
    by_cases h : (B.length : Int) = n
    · obtain ⟨e, e1, e2, e3⟩ := Uo R h E.length 0 false false 0 0 (by omega) ⟨fun j a b => by omega, ⟨fun h => (by cases h), fun ⟨j, a, b, _⟩ => by omega⟩, ⟨fun h => (by cases h), fun ⟨j, a, b, _⟩ => by omega⟩⟩ ⟨by omega, by omega, by simp⟩ ⟨by omega, by omega, by simp⟩
      exact ⟨e, (Evl.bind (h := fun k KO => if KO = 0 then (if (B.length : Int) = n then (aZ.l0 k false false E (E.length : Int) 0 B) else (some 221)) else (some KO)) hr (e1.congr fun k => by rw [if_pos rfl, if_pos h]; rfl)).congr fun k => rfl,
        (Evl.bind (h := fun k Ib => if Ib.1 = 0 then (if (B.length : Int) = n then (aW.l0 k B 0 0 0 n E) else (some 221)) else (some Ib.1)) g2 (e2.congr fun k => by rw [if_pos rfl, if_pos h]; rfl)).congr fun k => rfl, fun q => ⟨R, e3.1 q⟩, fun _ q => e3.2 q⟩
    · exact ⟨221, (Evl.bind (h := fun k KO => if KO = 0 then (if (B.length : Int) = n then (aZ.l0 k false false E (E.length : Int) 0 B) else (some 221)) else (some KO)) hr (Evl.pure.congr fun k => by rw [if_pos rfl, if_neg h])).congr fun k => rfl,
        (Evl.bind (h := fun k Ib => if Ib.1 = 0 then (if (B.length : Int) = n then (aW.l0 k B 0 0 0 n E) else (some 221)) else (some Ib.1)) g2 (Evl.pure.congr fun k => by rw [if_pos rfl, if_neg h])).congr fun k => rfl, fun q => (by cases q), fun _ q => absurd q.len h⟩
  · exact ⟨c, (Evl.bind (h := fun k u => if u = 0 then _ else some u) hr (Evl.pure.congr fun k => by rw [if_neg hc])).congr fun k => rfl, (Evl.bind (h := fun k u => if u.1 = 0 then _ else some u.1) g2 (Evl.pure.congr fun k => by rw [if_neg hc])).congr fun k => rfl, fun h => absurd h hc, fun R => absurd (g5 R) hc⟩

end Go.Proofs.Ytkdoihcjhccliaa.G
namespace Go.Proofs.Ytkdoihcjhccliaa.G
open Go.RowKit Go.Proofs.Ytkdoihcjhccliaa.Q Go.Proofs.YtkdoihcjhccliaaW.PrintWords Go.Proofs.YtkdoihcjhccliaaW.PrintLast
set_option linter.unusedVariables false

theorem Ic {n : Int} {E : List S98} (R : Right n E) {s v : Int} (s0 : 0 ≤ s) (s1 : s < n) (v0 : 0 ≤ v) (v1 : v < n) : ∃ b : Bool, Evl (fun k => fT.f k n E s v) b ∧ (b = true ↔ Rch E s v) := by
  obtain ⟨V, a, b, c⟩ := Ko R s0 s1
  refine ⟨decide (rd V v ≥ 0), (Evl.bind (h := fun k HV => if 0 ≤ v then (if v < (HV.1.length : Int) then (some (decide ((rd HV.1 v) ≥ 0))) else (none)) else (none)) a (Evl.pure.congr fun k => by rw [if_pos v0, if_pos (show v < (V.length : Int) by omega)])).congr fun k => rfl, ?_⟩
  rw [decide_eq_true_eq]; exact c v v0 v1

/-- The side of what can be come to from a node. -/
theorem Uq {n : Int} {E : List S98} (R : Right n E) {s : Int} (s0 : 0 ≤ s) (s1 : s < n) (d : Nat) : ∀ (i : Nat) (B : List Bool), ((i + d : Nat) : Int) = n → (B.length : Int) = n → (∀ v : Int, 0 ≤ v → v < (i : Int) → (fF false B v = true ↔ Rch E s v)) →
    ∃ B', Evl (fun k => af.l1 k s B i n E) ([], [], B', false) ∧ (B'.length : Int) = n ∧ ∀ v : Int, 0 ≤ v → v < n → (fF false B' v = true ↔ Rch E s v) := by
  have n1 := R.n1
  induction d with
  | zero =>
    intro i B hi hB h
    exact ⟨B, Evl.here fun k => by rw [af.l1, if_neg (by omega)], hB, fun v v0 v1 => h v v0 (by omega)⟩
  | succ d ih =>
    intro i B hi hB h
    have w : wrap64 ((i : Int) + 1) = ((i + 1 : Nat) : Int) := by rw [w1 (by omega) (by omega)]; rfl
    obtain ⟨b, b1, b2⟩ := Ic R s0 s1 (v := (i : Int)) (by omega) (by omega)
    obtain ⟨B', x, y, z⟩ := ih (i + 1) (B.set (i : Int).toNat b) (by omega) (by rw [List.length_set]; exact hB) (fun v v0 v1 => by
      rw [yF _ _ _ _ _ (by omega) (by omega) v0]
      by_cases q : v = i
      · rw [if_pos q, q]; exact b2
      · rw [if_neg q]; exact h v v0 (by omega))
    exact ⟨B', (Evl.bind (h := fun k UV => if 0 ≤ (i : Int) then (if (i : Int) < (B.length : Int) then (af.l1 k s (B.set (i : Int).toNat UV) (wrap64 ((i : Int) + 1)) n E) else (none)) else (none)) b1 (x.congr fun k => by rw [if_pos (by omega), if_pos (by omega), w])).step fun k => by rw [af.l1, if_pos (by omega)], y, z⟩
theorem Gc {n : Int} {E : List S98} (R : Right n E) {s : Int} (s0 : 0 ≤ s) (s1 : s < n) : ∃ B, Evl (fun k => af.j3 k s n E) ([], [], B, false) ∧ (B.length : Int) = n ∧ ∀ v : Int, 0 ≤ v → v < n → (fF false B v = true ↔ Rch E s v) := by
  have n0 := R.n0
  have n1 := R.n1
  obtain ⟨B, a, b, c⟩ := Uq R s0 s1 n.toNat 0 (List.replicate n.toNat false) (by omega) (by rw [List.length_replicate]; omega) (fun v v0 v1 => by omega)
  exact ⟨B, a.step fun k => by rw [af.j3, if_pos n0, if_pos (by omega)]; rfl, b, c⟩
/-- What can be come to from one end of an edge, and not all: a side. -/
theorem zg {n : Int} {E : List S98} (R : Right n E) {s : Int} {B : List Bool} (bl : (B.length : Int) = n) (h : ∀ v : Int, 0 ≤ v → v < n → (fF false B v = true ↔ Rch E s v)) {i j : Int} (i0 : 0 ≤ i) (i1 : i < (E.length : Int)) (hi : (aa E i).f1 = s) (j0 : 0 ≤ j) (j1 : j < (E.length : Int)) (hj : ¬ Rch E s (aa E j).f0) : Vg n E B := by
  refine ⟨bl, fun k k0 k1 hk => ?_, ⟨i, i0, i1, ?_⟩, ⟨j, j0, j1, ?_⟩⟩
  · have e := R.e k k0 k1
    exact (h _ e.b0 e.b1).mpr (Rch.step k0 k1 ((h _ e.a0 e.a1).mp hk))
  · have e := R.e i i0 i1
    exact (h _ e.b0 e.b1).mpr (by rw [hi]; exact Rch.refl)
  · have e := R.e j j0 j1
    by_cases q : fF false B (aa E j).f0 = true
    · exact absurd ((h _ e.a0 e.a1).mp q) hj
    · simpa using q
/-- All edges lie in one strong part; or the side. -/
theorem Ur {n : Int} {E : List S98} (R : Right n E) {P : List Int} (hP : (P.length : Int) = n) (part : ∀ u v : Int, 0 ≤ u → u < n → 0 ≤ v → v < n → (rd P u = rd P v ↔ Mut E u v)) (d : Nat) : ∀ i : Nat, i + d = E.length →
    (∀ j : Int, 0 ≤ j → j < (i : Int) → Mut E (aa E j).f0 (aa E j).f1 ∧ Mut E (aa E j).f0 (aa E 0).f0) →
    (∃ B, Evl (fun k => af.l0 k P i n E) ([], [], B, false) ∧ Vg n E B) ∨
    ((∀ j : Int, 0 ≤ j → j < (E.length : Int) → Mut E (aa E j).f0 (aa E j).f1 ∧ Mut E (aa E j).f0 (aa E 0).f0) ∧
      ∀ z, Evl (fun k => (bK.f k n E).bind fun GR => (if 0 ≤ n then (if (n : Int).toNat ≤ 35184372088832 then (af.l2 k (List.replicate (n : Int).toNat 0) 0 n E GR.1 GR.2) else (none)) else (none))) z → Evl (fun k => af.l0 k P i n E) z) := by
  have n1 := R.n1
  have m1 := R.m1
  induction d with
  | zero =>
    intro i hi h
    exact Or.inr ⟨fun j j0 j1 => h j j0 (by omega), fun z hz => hz.step fun k => by rw [af.l0, if_neg (by omega)]⟩
  | succ d ih =>
    intro i hi h
    have gi : (i : Int) < (E.length : Int) := by omega
    have g0 : (0 : Int) ≤ i := by omega
    have gl : (0 : Int) < (E.length : Int) := by omega
    have w : wrap64 ((i : Int) + 1) = ((i + 1 : Nat) : Int) := by rw [w1 (by omega) (by omega)]; rfl
    have e := R.e i g0 gi
    have f := R.e 0 (Int.le_refl 0) gl
    have a0 := e.a0
    have b0 := e.b0
    have c0 := f.a0
    have a1 : (aa E i).f0 < (P.length : Int) := by have := e.a1; omega
    have b1 : (aa E i).f1 < (P.length : Int) := by have := e.b1; omega
    have c1 : (aa E 0).f0 < (P.length : Int) := by have := f.a1; omega
    have p1 := part _ _ a0 e.a1 b0 e.b1
    have p2 := part _ _ a0 e.a1 c0 f.a1
    -- the way to the side
    have bad : ∀ s : Int, ∀ B : List Bool, Evl (fun k => af.j3 k s n E) ([], [], B, false) → ((s = (aa E i).f1 ∧ (rd P (aa E i).f0 = rd P (aa E i).f1 → ∃ b, Evl (fun k => fT.f k n E (aa E i).f1 (aa E 0).f0) b ∧ b = false)) ∨ (s = (aa E 0).f1 ∧ rd P (aa E i).f0 = rd P (aa E i).f1 ∧ Evl (fun k => fT.f k n E (aa E i).f1 (aa E 0).f0) true)) →
        Evl (fun k => af.j1 k P i true n E (aa E i).f0 (aa E i).f1 (aa E i).f2 (aa E i).f3 (aa E 0).f0 (aa E 0).f1 (aa E 0).f2 (aa E 0).f3) ([], [], B, false) := fun s B hB hs => by
      by_cases q : rd P (aa E i).f0 = rd P (aa E i).f1
      · rcases hs with ⟨es, hb⟩ | ⟨es, -, hb⟩
        · obtain ⟨b, x, y⟩ := hb q
          rw [y] at x
          rw [es] at hB
          refine (Evl.bind (h := fun k UU => af.j2 k (aa E i).f1 UU n E (aa E 0).f0 (aa E 0).f1 (aa E 0).f2 (aa E 0).f3) x (Evl.step hB fun k => by rw [af.j2, if_neg (by decide)])).step fun k => by rw [af.j1, if_pos rfl, if_pos a0, if_pos a1, if_pos b0, if_pos b1, if_pos q]
        · rw [es] at hB
          refine (Evl.bind (h := fun k UU => af.j2 k (aa E i).f1 UU n E (aa E 0).f0 (aa E 0).f1 (aa E 0).f2 (aa E 0).f3) hb (Evl.step hB fun k => by rw [af.j2, if_pos rfl])).step fun k => by rw [af.j1, if_pos rfl, if_pos a0, if_pos a1, if_pos b0, if_pos b1, if_pos q]
      · rcases hs with ⟨es, hb⟩ | ⟨es, q', hb⟩
        · rw [es] at hB
          refine Evl.step (h := fun k => af.j2 k (aa E i).f1 false n E (aa E 0).f0 (aa E 0).f1 (aa E 0).f2 (aa E 0).f3) (hB.step fun k => by rw [af.j2, if_neg (by decide)]) fun k => by rw [af.j1, if_pos rfl, if_pos a0, if_pos a1, if_pos b0, if_pos b1, if_neg q]
        · exact absurd q' q
    by_cases q1 : rd P (aa E i).f0 = rd P (aa E i).f1
    · have m1' := p1.mp q1
      by_cases q2 : rd P (aa E i).f0 = rd P (aa E 0).f0
      · have m2 := p2.mp q2
        have nb : (rd P (aa E i).f0 != rd P (aa E 0).f0) = false := bne_eq_false_iff_eq.mpr q2
        have st : ∀ {z}, Evl (fun k => af.l0 k P ((i + 1 : Nat) : Int) n E) z → Evl (fun k => af.l0 k P i n E) z := fun hz =>
          Evl.step (h := fun k => af.j1 k P i false n E (aa E i).f0 (aa E i).f1 (aa E i).f2 (aa E i).f3 (aa E 0).f0 (aa E 0).f1 (aa E 0).f2 (aa E 0).f3) (hz.step fun k => by rw [af.j1, if_neg (by decide), w]) fun k => by
            rw [af.l0, if_pos gi, if_pos g0, if_pos gl, if_pos a0, if_pos a1, if_pos b0, if_pos b1, if_pos q1, if_pos c0, if_pos c1, nb]
        rcases ih (i + 1) (by omega) (fun j j0 j1 => by
          by_cases c : j = i
          · rw [c]; exact ⟨m1', m2⟩
          · exact h j j0 (by omega)) with ⟨B, x, y⟩ | ⟨x, y⟩
        · exact Or.inl ⟨B, st x, y⟩
        · exact Or.inr ⟨x, fun z hz => st (y z hz)⟩
      · left
        have nb : (rd P (aa E i).f0 != rd P (aa E 0).f0) = true := bne_iff_ne.mpr q2
        have st : ∀ {z}, Evl (fun k => af.j1 k P i true n E (aa E i).f0 (aa E i).f1 (aa E i).f2 (aa E i).f3 (aa E 0).f0 (aa E 0).f1 (aa E 0).f2 (aa E 0).f3) z → Evl (fun k => af.l0 k P i n E) z := fun hz => hz.step fun k => by
          rw [af.l0, if_pos gi, if_pos g0, if_pos gl, if_pos a0, if_pos a1, if_pos b0, if_pos b1, if_pos q1, if_pos c0, if_pos c1, nb]
        obtain ⟨b, r1, r2⟩ := Ic R b0 e.b1 c0 f.a1
        by_cases hb : b = true
        · obtain ⟨B, x, y, z⟩ := Gc R f.b0 f.b1
          subst hb
          refine ⟨B, st (bad _ B x (Or.inr ⟨rfl, q1, r1⟩)), zg R y z (i := 0) (Int.le_refl 0) gl rfl (j := i) g0 gi fun hr => ?_⟩
          have t := r2.mp rfl
          exact q2 (p2.mpr ⟨m1'.1.trans t, (Rch.step (Int.le_refl 0) gl Rch.refl).trans hr⟩)
        · obtain ⟨B, x, y, z⟩ := Gc R b0 e.b1
          have hf : b = false := by simpa using hb
          refine ⟨B, st (bad _ B x (Or.inl ⟨rfl, fun _ => ⟨b, r1, hf⟩⟩)), zg R y z (i := i) g0 gi rfl (j := 0) (Int.le_refl 0) gl fun hr => hb (r2.mpr hr)⟩
    · left
      obtain ⟨B, x, y, z⟩ := Gc R b0 e.b1
      refine ⟨B, (bad _ B x (Or.inl ⟨rfl, fun c => absurd c q1⟩)).step fun k => ?_, zg R y z (i := i) g0 gi rfl (j := i) g0 gi fun hr => q1 (p1.mpr ⟨Rch.step g0 gi Rch.refl, hr⟩)⟩
      rw [af.l0, if_pos gi, if_pos g0, if_pos gl, if_pos a0, if_pos a1, if_pos b0, if_pos b1, if_neg q1]
end Go.Proofs.Ytkdoihcjhccliaa.G
namespace Go.Proofs.Ytkdoihcjhccliaa.G
open Go.RowKit Go.Proofs.Ytkdoihcjhccliaa.Q Go.Proofs.YtkdoihcjhccliaaW.PrintWords Go.Proofs.YtkdoihcjhccliaaW.PrintLast
set_option linter.unusedVariables false

/-- Once on each edge. -/
def one (m : Nat) : List Int := List.replicate m 1
theorem Ej (m : Nat) (i : Int) (h0 : 0 ≤ i) (h : i < (m : Int)) : rd (one m) i = 1 := gT _ _ _ h0 h
theorem Gd {E : List S98} (v : Int) : ∀ i : Nat, i ≤ E.length → -(i : Int) ≤ net E (one E.length) v i ∧ net E (one E.length) v i ≤ (i : Int)
  | 0, _ => ⟨Int.le_refl _, Int.le_refl _⟩
  | i + 1, h => by
    have a := Gd (E := E) v i (by omega)
    simp only [net]
    rw [Ej _ _ (by omega) (by omega)]
    push_cast
    split <;> split <;> omega
/-- The graph with much capacity, and what each node lacks. -/
structure R7 (E : List S98) (n : Int) (i : Nat) (S : List Int) (Y : List S98) : Prop where
  sl : (S.length : Int) = n
  yl : Y.length = E.length
  s : ∀ v : Int, 0 ≤ v → v < n → rd S v = -net E (one E.length) v i
  done : ∀ j : Int, 0 ≤ j → j < (i : Int) → aa Y j = ⟨(aa E j).f0, (aa E j).f1, 8192, (aa E j).f3⟩
  todo : ∀ j : Int, (i : Int) ≤ j → j < (E.length : Int) → aa Y j = aa E j
theorem Ie (X : List S98) (e : S98) (i j : Int) (h0 : 0 ≤ i) (h : i < (X.length : Int)) (hj : 0 ≤ j) : aa (X.set i.toNat e) j = if j = i then e else aa X j := by
  unfold aa; rw [zN _ _ _ _ _ (by omega)]
  by_cases q : j = i
  · rw [if_pos q, if_pos (by omega)]
  · rw [if_neg q, if_neg (by omega)]
theorem aab {n : Int} {E : List S98} (R : Right n E) (d : Nat) : ∀ (i : Nat) (S : List Int) (Y : List S98), i + d = E.length → R7 E n i S Y →
    ∃ S' Y', R7 E n E.length S' Y' ∧ ∀ z, Evl (fun k => (ai.f k n Y' S').bind fun vB => (if 0 ≤ (vB.1.length : Int) then (if ((vB.1.length : Int) : Int).toNat ≤ 35184372088832 then (af.l3 k vB.1 vB.2.1 (List.replicate ((vB.1.length : Int) : Int).toNat 0) 0) else (none)) else (none))) z → Evl (fun k => af.l2 k S i n E n Y) z := by
  have m1 := R.m1
  induction d with
  | zero =>
    intro i S Y hi h
    have e : i = E.length := by omega
    subst e
    exact ⟨S, Y, h, fun z hz => hz.step fun k => by rw [af.l2, if_neg (by omega)]⟩
  | succ d ih =>
    intro i S Y hi h
    have gi : (i : Int) < (E.length : Int) := by omega
    have g0 : (0 : Int) ≤ i := by omega
    have id : i + 1 + d = E.length := by omega
    have w : wrap64 ((i : Int) + 1) = ((i + 1 : Nat) : Int) := by rw [w1 (by omega) (by omega)]; rfl
    have sl := h.sl
    have yl := h.yl
    have gy : (i : Int) < (Y.length : Int) := by omega
    have e := R.e i g0 gi
    have a0 := e.a0
    have b0 := e.b0
    have a1 : (aa E i).f0 < (S.length : Int) := by have := e.a1; omega
    have b1 : (aa E i).f1 < (S.length : Int) := by have := e.b1; omega
    have na := Gd (E := E) (aa E i).f0 i (by omega)
    have nb := Gd (E := E) (aa E i).f1 i (by omega)
    have sa := h.s _ a0 e.a1
    have sb := h.s _ b0 e.b1
    have r1 : ∀ v : Int, 0 ≤ v → rd (S.set (aa E i).f0.toNat (rd S (aa E i).f0 - 1)) v = if v = (aa E i).f0 then rd S (aa E i).f0 - 1 else rd S v := fun v v0 => mg _ _ _ _ a0 a1 v0
    have b1' : (aa E i).f1 < ((S.set (aa E i).f0.toNat (rd S (aa E i).f0 - 1)).length : Int) := by rw [List.length_set]; exact b1
    have r2 : ∀ v : Int, 0 ≤ v → rd ((S.set (aa E i).f0.toNat (rd S (aa E i).f0 - 1)).set (aa E i).f1.toNat (rd (S.set (aa E i).f0.toNat (rd S (aa E i).f0 - 1)) (aa E i).f1 + 1)) v = if v = (aa E i).f1 then rd (S.set (aa E i).f0.toNat (rd S (aa E i).f0 - 1)) (aa E i).f1 + 1 else rd (S.set (aa E i).f0.toNat (rd S (aa E i).f0 - 1)) v := fun v v0 => mg _ _ _ _ b0 b1' v0
    have wa : wrap64 (rd S (aa E i).f0 - 1) = rd S (aa E i).f0 - 1 := wr (by omega) (by omega)
    have wb : wrap64 (rd (S.set (aa E i).f0.toNat (rd S (aa E i).f0 - 1)) (aa E i).f1 + 1) = rd (S.set (aa E i).f0.toNat (rd S (aa E i).f0 - 1)) (aa E i).f1 + 1 := by
      rw [r1 _ b0]; split
      · exact wr (by omega) (by omega)
      · exact wr (by omega) (by omega)
    have hy := h.todo i (Int.le_refl _) gi
    have L : R7 E n (i + 1) ((S.set (aa E i).f0.toNat (rd S (aa E i).f0 - 1)).set (aa E i).f1.toNat (rd (S.set (aa E i).f0.toNat (rd S (aa E i).f0 - 1)) (aa E i).f1 + 1)) (Y.set (i : Int).toNat (⟨(aa Y i).f0, (aa Y i).f1, 8192, (aa Y i).f3⟩ : S98)) := by
      refine ⟨by rw [List.length_set, List.length_set]; exact sl, by rw [List.length_set]; exact yl, fun v v0 v1 => ?_, fun j j0 j1 => ?_, fun j j0 j1 => ?_⟩
      · have sv := h.s v v0 v1
        rw [r2 v v0, r1 _ b0, r1 v v0]
        simp only [net]
        rw [Ej _ _ g0 gi]
        by_cases q1 : v = (aa E i).f1
        · rw [if_pos q1, if_pos q1.symm]
          by_cases q2 : (aa E i).f1 = (aa E i).f0
          · rw [if_pos q2, if_pos (show (aa E i).f0 = v by omega)]
            have : rd S (aa E i).f0 = rd S v := by rw [q1, q2]
            omega
          · rw [if_neg q2, if_neg (show ¬ (aa E i).f0 = v by omega)]
            have : rd S (aa E i).f1 = rd S v := by rw [q1]
            omega
        · rw [if_neg q1, if_neg (show ¬ (aa E i).f1 = v from fun c => q1 c.symm)]
          by_cases q2 : v = (aa E i).f0
          · rw [if_pos q2, if_pos q2.symm]
            have : rd S (aa E i).f0 = rd S v := by rw [q2]
            omega
          · rw [if_neg q2, if_neg (show ¬ (aa E i).f0 = v from fun c => q2 c.symm)]; omega
      · rw [Ie Y _ i j g0 gy j0]
        by_cases q : j = i
        · rw [if_pos q, hy, q]
        · rw [if_neg q]; exact h.done j j0 (by omega)
      · rw [Ie Y _ i j g0 gy (by omega), if_neg (by omega)]; exact h.todo j (by omega) j1
    obtain ⟨S', Y', x, y⟩ := ih (i + 1) _ _ id L
    refine ⟨S', Y', x, fun z hz => (y z hz).step fun k => ?_⟩
    rw [af.l2, if_pos gi, if_pos g0, if_pos gy, if_pos a0, if_pos a1, Option.bind_some, wa, if_pos b0, if_pos b1, wb, w]
end Go.Proofs.Ytkdoihcjhccliaa.G
namespace Go.Proofs.Ytkdoihcjhccliaa.G
open Go.RowKit Go.Proofs.Ytkdoihcjhccliaa.Q Go.Proofs.YtkdoihcjhccliaaW.PrintWords Go.Proofs.YtkdoihcjhccliaaW.PrintLast
set_option linter.unusedVariables false

theorem zh {n : Int} {E Y : List S98} (R : Right n E) {S : List Int} (L : R7 E n E.length S Y) : Right n Y := by
  have yl := L.yl
  refine ⟨R.n0, R.n1, by rw [yl]; exact R.m1, fun i i0 i1 => ?_⟩
  have e := R.e i i0 (by omega)
  rw [L.done i i0 (by omega)]
  exact ⟨e.a0, e.a1, e.b0, e.b1, by show (0 : Int) ≤ 8192; decide, by show (8192 : Int) ≤ 1048576; decide, e.d0, e.d1⟩
theorem Kv {n : Int} {E Y : List S98} {S : List Int} (L : R7 E n E.length S Y) (A : List Int) (v : Int) : ∀ i : Nat, i ≤ E.length → net Y A v i = net E A v i
  | 0, _ => rfl
  | i + 1, h => by simp only [net]; rw [Kv L A v i (by omega), L.done i (by omega) (by omega)]
theorem Ig {n : Int} {E Y : List S98} {S : List Int} (L : R7 E n E.length S Y) (p : Int → Int) (A : List Int) : ∀ i : Nat, i ≤ E.length → HZ p Y A i = HZ p E A i
  | 0, _ => rfl
  | i + 1, h => by simp only [HZ]; rw [Ig L p A i (by omega), L.done i (by omega) (by omega)]
theorem Ih {n : Int} {E Y : List S98} {S : List Int} (L : R7 E n E.length S Y) : ∀ v : Nat, (v : Int) ≤ n → U8 S v = -tot E (one E.length) E.length v
  | 0, _ => rfl
  | v + 1, h => by simp only [U8, tot]; rw [Ih L v (by omega), L.s v (by omega) (by omega)]; omega
theorem Us {n : Int} {E Y : List S98} (R : Right n E) {S : List Int} (L : R7 E n E.length S Y) : Sup n S := by
  have m1 := R.m1
  have n0 := R.n0
  refine ⟨L.sl, fun v v0 v1 => ?_, ?_⟩
  · have a := Gd (E := E) v E.length (Nat.le_refl _)
    rw [L.s v v0 v1]; omega
  · rw [Ih L n.toNat (by omega), Ki R (one E.length) E.length (Nat.le_refl _)]; rfl
theorem Dv {n : Int} {E Y : List S98} {S : List Int} (L : R7 E n E.length S Y) (B : List Bool) : ∀ v : Nat, (v : Int) ≤ n → RI B S v = -Im (ind B) E (one E.length) E.length v
  | 0, _ => rfl
  | v + 1, h => by
    simp only [RI, Im]
    rw [Dv L B v (by omega), L.s v (by omega) (by omega), ind]
    split <;> omega

/-- Where no edge leads out of a side, or one does: what it lacks is no more than what may leave it. -/
theorem Ut {n : Int} {E Y : List S98} (R : Right n E) (m6 : (E.length : Int) ≤ 2000) {S : List Int} (L : R7 E n E.length S Y) (mu : ∀ j : Int, 0 ≤ j → j < (E.length : Int) → Mut E (aa E j).f0 (aa E j).f1) {B : List Bool} (bl : (B.length : Int) = n) : RI B S n.toNat ≤ cut Y B Y.length := by
  have n0 := R.n0
  have RY := zh R L
  have yl := L.yl
  rw [Dv L B n.toNat (by omega), yG R (ind B) (one E.length) E.length (Nat.le_refl _)]
  have i01 : ∀ v : Int, 0 ≤ ind B v ∧ ind B v ≤ 1 := fun v => by unfold ind; split <;> omega
  have low : ∀ i : Nat, i ≤ E.length → -(i : Int) ≤ HZ (ind B) E (one E.length) i := by
    intro i
    induction i with
    | zero => intro _; exact Int.le_refl _
    | succ i ih =>
      intro hi
      have a := ih (by omega)
      have b := i01 (aa E i).f0
      have c := i01 (aa E i).f1
      simp only [HZ]
      rw [Ej _ _ (by omega) (by omega), Int.mul_one, Int.mul_one]
      push_cast; omega
  have cpos := (aes RY B Y.length (Nat.le_refl _)).1
  by_cases q : ∃ j : Int, 0 ≤ j ∧ j < (E.length : Int) ∧ fF false B (aa E j).f0 = true ∧ fF false B (aa E j).f1 = false
  · obtain ⟨j, j0, j1, x, y⟩ := q
    have big : ∀ i : Nat, i ≤ E.length → 0 ≤ cut Y B i ∧ (j < (i : Int) → 8192 ≤ cut Y B i) := by
      intro i
      induction i with
      | zero => intro _; exact ⟨Int.le_refl _, fun h => by omega⟩
      | succ i ih =>
        intro hi
        obtain ⟨a, b⟩ := ih (by omega)
        have e := L.done i (by omega) (by omega)
        simp only [cut]
        rw [e]
        show 0 ≤ cut Y B i + (if fF false B (aa E i).f0 = true ∧ fF false B (aa E i).f1 = false then 8192 else 0) ∧ (j < ((i + 1 : Nat) : Int) → 8192 ≤ cut Y B i + (if fF false B (aa E i).f0 = true ∧ fF false B (aa E i).f1 = false then 8192 else 0))
        refine ⟨by split <;> omega, fun h => ?_⟩
        by_cases c : j = i
        · rw [if_pos (by rw [← c]; exact ⟨x, y⟩)]; omega
        · have := b (by omega); split <;> omega
    have b := (big E.length (Nat.le_refl _)).2 j1
    have l := low E.length (Nat.le_refl _)
    rw [yl]; omega
  · have out : ∀ {u v : Int}, Rch E u v → fF false B u = true → fF false B v = true := fun {u v} h => by
      induction h with
      | refl => exact id
      | @step i i0 i1 _ ih =>
        intro hu
        by_cases c : fF false B (aa E i).f1 = true
        · exact c
        · exact absurd ⟨i, i0, i1, ih hu, by simpa using c⟩ q
    have z : ∀ i : Nat, i ≤ E.length → HZ (ind B) E (one E.length) i = 0 := by
      intro i
      induction i with
      | zero => intro _; rfl
      | succ i ih =>
        intro hi
        have m := mu i (by omega) (by omega)
        simp only [HZ]
        rw [ih (by omega), Ej _ _ (by omega) (by omega)]
        unfold ind
        by_cases c : fF false B (aa E i).f0 = true
        · rw [if_pos c, if_pos (out m.1 c)]; omega
        · rw [if_neg c, if_neg fun h => c (out m.2 h)]; omega
    rw [z E.length (Nat.le_refl _)]; omega

/-- No edge is filled: what is carried over 8192 would leave a set that lacks less. -/
theorem Uu {n : Int} {E Y : List S98} (R : Right n E) (m6 : (E.length : Int) ≤ 2000) {S A P : List Int} (L : R7 E n E.length S Y) (fr : R4 E) (M : JK n Y S A) (hP : yH n P) (T : Ui Y A P) (i : Int) (i0 : 0 ≤ i) (i1 : i < (E.length : Int)) : 0 ≤ red P 1 (aa E i) := by
  refine Classical.byContradiction fun no => ?_
  have n0 := R.n0
  have yl := L.yl
  have ye := L.done i i0 i1
  have red_eq : ∀ j : Int, 0 ≤ j → j < (E.length : Int) → red P 1 (aa Y j) = red P 1 (aa E j) := fun j j0 j1 => by rw [L.done j j0 j1]; rfl
  have full : rd A i = 8192 := by
    have := (T i i0 (by omega)).2 (by rw [red_eq i i0 i1]; omega)
    rw [ye] at this; exact this
  -- the nodes whose potential is no less than that of the edge's end
  let B : List Bool := (List.range n.toNat).map fun v : Nat => decide (rd P (aa E i).f1 ≤ rd P (v : Int))
  have hB : ∀ v : Int, 0 ≤ v → v < n → fF false B v = decide (rd P (aa E i).f1 ≤ rd P v) := fun v v0 v1 => by
    show ((List.range n.toNat).map fun v : Nat => decide (rd P (aa E i).f1 ≤ rd P (v : Int))).getD v.toNat false = _
    rw [List.getD_eq_getElem?_getD, List.getElem?_map, List.getElem?_range (by omega)]
    show decide (rd P (aa E i).f1 ≤ rd P ((v.toNat : Nat) : Int)) = _
    rw [show ((v.toNat : Nat) : Int) = v by omega]
  have w1' : Im (ind B) Y A Y.length n.toNat = RI B S n.toNat := by
    have key : ∀ k : Nat, (k : Int) ≤ n → Im (ind B) Y A Y.length k = RI B S k := by
      intro k
      induction k with
      | zero => intro _; rfl
      | succ k ih => intro hk; simp only [Im, RI]; rw [ih (by omega), M.out k (by omega) (by omega)]; unfold ind; split <;> omega
    exact key n.toNat (by omega)
  have RY := zh R L
  rw [yG RY (ind B) A Y.length (Nat.le_refl _), yl, Ig L (ind B) A E.length (Nat.le_refl _)] at w1'
  have bs := Dv L B n.toNat (by omega)
  rw [yG R (ind B) (one E.length) E.length (Nat.le_refl _)] at bs
  have i01 : ∀ v : Int, 0 ≤ ind B v ∧ ind B v ≤ 1 := fun v => by unfold ind; split <;> omega
  have up : ∀ k : Nat, k ≤ E.length → HZ (ind B) E (one E.length) k ≤ (k : Int) := by
    intro k
    induction k with
    | zero => intro _; exact Int.le_refl _
    | succ k ih =>
      intro hk
      have a := ih (by omega)
      have b := i01 (aa E k).f0
      have c := i01 (aa E k).f1
      simp only [HZ]
      rw [Ej _ _ (by omega) (by omega), Int.mul_one, Int.mul_one]
      push_cast; omega
  have down : ∀ k : Nat, k ≤ E.length → HZ (ind B) E A k ≤ 0 ∧ (i < (k : Int) → HZ (ind B) E A k ≤ -8192) := by
    intro k
    induction k with
    | zero => intro _; exact ⟨Int.le_refl _, fun h => by omega⟩
    | succ k ih =>
      intro hk
      obtain ⟨a, b⟩ := ih (by omega)
      have e := R.e k (by omega) (by omega)
      have f := M.fit k (by omega) (by omega)
      have fk := fr k (by omega) (by omega)
      have t := (T k (by omega) (by omega)).1
      rw [red_eq k (by omega) (by omega)] at t
      have h0 := hB _ e.a0 e.a1
      have h1 := hB _ e.b0 e.b1
      simp only [HZ]
      have term : ind B (aa E k).f0 * rd A k - ind B (aa E k).f1 * rd A k ≤ 0 ∧ ((k : Int) = i → ind B (aa E k).f0 * rd A k - ind B (aa E k).f1 * rd A k ≤ -8192) := by
        unfold ind
        rw [h0, h1]
        by_cases c0 : rd P (aa E i).f1 ≤ rd P (aa E k).f0
        · by_cases c1 : rd P (aa E i).f1 ≤ rd P (aa E k).f1
          · rw [if_pos (by simpa using c0), if_pos (by simpa using c1)]
            refine ⟨by omega, fun z => ?_⟩
            rw [z] at c0
            unfold red at no; have := fr i i0 i1; omega
          · rw [if_pos (by simpa using c0), if_neg (by simpa using c1)]
            have z : rd A k = 0 := t (by unfold red; omega)
            refine ⟨by omega, fun z => ?_⟩
            rw [z] at c1; exact absurd (Int.le_refl _) c1
        · rw [if_neg (by simpa using c0)]
          by_cases c1 : rd P (aa E i).f1 ≤ rd P (aa E k).f1
          · rw [if_pos (by simpa using c1)]
            refine ⟨by omega, fun z => ?_⟩
            rw [z, full]; omega
          · rw [if_neg (by simpa using c1)]
            refine ⟨by omega, fun z => ?_⟩
            rw [z] at c1; exact absurd (Int.le_refl _) c1
      refine ⟨by omega, fun h => ?_⟩
      by_cases c : (k : Int) = i
      · have := term.2 c; omega
      · have := b (by omega); omega
  have d := (down E.length (Nat.le_refl _)).2 i1
  have u := up E.length (Nat.le_refl _)
  omega
end Go.Proofs.Ytkdoihcjhccliaa.G
namespace Go.Proofs.Ytkdoihcjhccliaa.G
open Go.RowKit Go.Proofs.Ytkdoihcjhccliaa.Q Go.Proofs.YtkdoihcjhccliaaW.PrintWords Go.Proofs.YtkdoihcjhccliaaW.PrintLast
set_option linter.unusedVariables false

theorem Rch.conn {E : List S98} {u v : Int} (h : Rch E u v) : ui E u v := by
  induction h with
  | refl => exact fun X _ => Iff.rfl
  | @step i i0 i1 _ ih => exact fun X hX => (ih X hX).trans (hX i i0 i1)
theorem Uv {A P : List Int} (hA : (A.length : Int) ≤ 100000) (fit : ∀ i : Int, 0 ≤ i → i < (A.length : Int) → 0 ≤ rd A i ∧ rd A i ≤ 8192) (d : Nat) : ∀ (i : Nat) (T : List Int), i + d = A.length → T.length = A.length → (∀ j : Int, 0 ≤ j → j < (i : Int) → rd T j = rd A j + 1) →
    ∃ T', Evl (fun k => af.l3 k A P T i) (T', P, [], true) ∧ T'.length = A.length ∧ ∀ j : Int, 0 ≤ j → j < (A.length : Int) → rd T' j = rd A j + 1 := by
  induction d with
  | zero =>
    intro i T hi hT h
    exact ⟨T, Evl.here fun k => by rw [af.l3, if_neg (by omega)], hT, fun j j0 j1 => h j j0 (by omega)⟩
  | succ d ih =>
    intro i T hi hT h
    have w : wrap64 ((i : Int) + 1) = ((i + 1 : Nat) : Int) := by rw [w1 (by omega) (by omega)]; rfl
    have f := fit i (by omega) (by omega)
    have wa : wrap64 (rd A i + 1) = rd A i + 1 := wr (by omega) (by omega)
    obtain ⟨T', x, y, z⟩ := ih (i + 1) (T.set (i : Int).toNat (rd A i + 1)) (by omega) (by rw [List.length_set]; exact hT) (fun j j0 j1 => by
      rw [mg _ _ _ _ (by omega) (by omega) j0]
      by_cases q : j = i
      · rw [if_pos q, q]
      · rw [if_neg q]; exact h j j0 (by omega))
    exact ⟨T', x.step fun k => by rw [af.l3, if_pos (by omega), if_pos (by omega), if_pos (by omega), wa, w], y, z⟩
theorem Kw {E : List S98} {A T : List Int} (h : ∀ j : Int, 0 ≤ j → j < (E.length : Int) → rd T j = rd A j + 1) (v : Int) : ∀ i : Nat, i ≤ E.length → net E T v i = net E A v i + net E (one E.length) v i
  | 0, _ => rfl
  | i + 1, hi => by
    simp only [net]
    rw [Kw h v i (by omega), h i (by omega) (by omega), Ej _ _ (by omega) (by omega)]
    split <;> split <;> omega
theorem Ii {n : Int} {E : List S98} (R : Right n E) (n6 : n ≤ 1000) (m6 : (E.length : Int) ≤ 2000) (fr : R4 E) :
    (∃ A P, Evl (fun k => af.f k n E) (A, P, [], true) ∧ Rnd n E A ∧ Gm E ∧ yH n P ∧ uj E A P) ∨
      ∃ B, Evl (fun k => af.f k n E) ([], [], B, false) ∧ Vg n E B := by
  have n0 := R.n0
  obtain ⟨Q, q1, q2, q3⟩ := TY R
  have go : ∀ {z}, Evl (fun k => af.l0 k Q ((0 : Nat) : Int) n E) z → Evl (fun k => af.f k n E) z := fun hz => (Evl.bind (h := fun k Pi => af.l0 k Pi.1 0 n E) q1 hz).congr fun k => rfl
  rcases Ur R q2 q3 E.length 0 (by omega) (fun j j0 j1 => by omega) with ⟨B, x, y⟩ | ⟨mu, st⟩
  · exact Or.inr ⟨B, go x, y⟩
  · left
    obtain ⟨S, Y, L, l2⟩ := aab R E.length 0 (List.replicate n.toNat 0) E (by omega) ⟨by rw [List.length_replicate]; omega, rfl, fun v v0 v1 => by rw [gT _ _ _ v0 (by omega)]; rfl, fun j j0 j1 => by omega, fun _ _ _ => rfl⟩
    have RY := zh R L
    have H := Us R L
    have yl := L.yl
    rcases R3 RY n6 (by omega) H with ⟨A, P, f1, M, PP, T⟩ | ⟨B, -, bl, lt⟩
    · have al : A.length = E.length := M.len.trans yl
      have fit : ∀ i : Int, 0 ≤ i → i < (A.length : Int) → 0 ≤ rd A i ∧ rd A i ≤ 8192 := fun i i0 i1 => by
        have := M.fit i i0 (by omega)
        rw [L.done i i0 (by omega)] at this; exact this
      obtain ⟨T', t1, t2, t3⟩ := Uv (P := P) (by omega) fit A.length 0 (List.replicate A.length 0) (by omega) (by rw [List.length_replicate]) (fun j j0 j1 => by omega)
      have tl : T'.length = E.length := t2.trans al
      have t3' : ∀ j : Int, 0 ≤ j → j < (E.length : Int) → rd T' j = rd A j + 1 := fun j j0 j1 => t3 j j0 (by omega)
      refine ⟨T', P, go (st _ ?_), ⟨tl, fun i i0 i1 => by rw [t3' i i0 i1]; have := fit i i0 (by omega); omega, fun v v0 v1 => ?_⟩, fun i i0 i1 => (mu i i0 i1).2.1.conn, PP, fun i i0 i1 => ⟨Uu R m6 L fr M PP T i i0 i1, fun hr => ?_⟩⟩
      · refine (Evl.bind (h := fun k (GR : Int × List S98) => if 0 ≤ n then (if (n : Int).toNat ≤ 35184372088832 then (af.l2 k (List.replicate (n : Int).toNat 0) 0 n E GR.1 GR.2) else (none)) else (none)) (Ve n E (by omega)) (Evl.congr (h := fun k => af.l2 k (List.replicate n.toNat 0) ((0 : Nat) : Int) n E n E) (l2 _ ?_) fun k => by rw [if_pos n0, if_pos (by omega)]; rfl))
        refine Evl.bind (h := fun k (vB : List Int × List Int × List Bool × Bool) => if 0 ≤ (vB.1.length : Int) then (if ((vB.1.length : Int) : Int).toNat ≤ 35184372088832 then (af.l3 k vB.1 vB.2.1 (List.replicate ((vB.1.length : Int) : Int).toNat 0) 0) else (none)) else (none)) f1 ?_
        exact t1.congr fun k => by rw [if_pos (show (0 : Int) ≤ (A.length : Int) by omega), if_pos (show ((A.length : Int) : Int).toNat ≤ 35184372088832 by omega)]; rfl
      · rw [Kw t3' v E.length (Nat.le_refl _)]
        have o := M.out v v0 v1
        rw [yl, Kv L A v E.length (Nat.le_refl _), L.s v v0 v1] at o
        omega
      · have := (T i i0 (by omega)).1 (by rw [L.done i i0 i1]; exact hr)
        rw [t3' i i0 i1]; omega
    · exact absurd (Ut R m6 L (fun j j0 j1 => (mu j j0 j1).1) bl) (by omega)
end Go.Proofs.Ytkdoihcjhccliaa.G
namespace Go.Proofs.Ytkdoihcjhccliaa.G
open Go.RowKit Go.Proofs.Ytkdoihcjhccliaa.Q Go.Proofs.YtkdoihcjhccliaaW.PrintWords Go.Proofs.YtkdoihcjhccliaaW.PrintLast
theorem R8 (k : Nat) : iM.f (k + 40) = some true := by kernel_rfl
theorem aac : Evl (fun k => iM.f k) true := ⟨40, fun k hk => by
  obtain ⟨d, rfl⟩ : ∃ d, k = d + 40 := ⟨k - 40, by omega⟩
  exact R8 d⟩
end Go.Proofs.Ytkdoihcjhccliaa.G
namespace Go.Proofs.Ytkdoihcjhccliaa.Pure
open Go.Proofs.Ytkdoihcjhccliaa.G Go.Proofs.Ytkdoihcjhccliaa.Q Go.Proofs.YtkdoihcjhccliaaW.PrintWords Go.Proofs.YtkdoihcjhccliaaW.PrintLast
theorem ProofRoundFull (n : Int) (E : List S98) : ∃ K, aX.f K n E = some true := by
  refine Evl.at (r := true) ?_
  refine (Evl.bind (h := fun k Vh => if Vh = true then (if n > 64 then (aX.j0 k true n E) else (if (E.length : Int) > 256 then (aX.j0 k true n E) else ((aT.f k n E).bind fun Ij => (aX.j0 k (Ij != 0) n E)))) else (some false)) aac ?_).congr fun k => rfl
  have skip : Evl (fun k => aX.j0 k true n E) true := Evl.here fun k => by rw [aX.j0, if_pos rfl]
  by_cases h1 : n > 64
  · exact skip.congr fun k => by rw [if_pos rfl, if_pos h1]
  · by_cases h2 : (E.length : Int) > 256
    · exact skip.congr fun k => by rw [if_pos rfl, if_neg h1, if_pos h2]
    · refine Evl.congr (h := fun k => (aT.f k n E).bind fun Ij => (aX.j0 k (Ij != 0) n E)) ?_ fun k => by rw [if_pos rfl, if_neg h1, if_neg h2]
      have sk : ∀ x : Int, x ≠ 0 → Evl (fun k => aT.f k n E) x → Evl (fun k => (aT.f k n E).bind fun Ij => (aX.j0 k (Ij != 0) n E)) true := fun x hx h => by
        refine Evl.bind (h := fun k Ij => aX.j0 k (Ij != 0) n E) h ?_
        have : (x != 0) = true := bne_iff_ne.mpr hx
        rw [this]; exact skip
      obtain ⟨c, a, g1, g2, g3, g4, g5⟩ := xI n E
      by_cases hc : c = 0
      · subst hc
        obtain ⟨rfl, R⟩ := g3 rfl
        obtain ⟨x, x1, x2, x3⟩ := R5 R g2
        by_cases hx : x = 0
        · have fr := x3.mp hx
          subst hx
          refine Evl.bind (h := fun k Ij => aX.j0 k (Ij != 0) n E) x1 ?_
          have go : ∀ {z}, Evl (fun k => (af.f k n E).bind fun nC => (if nC.2.2.2 = true then ((dA.f k n E nC.1 nC.2.1).bind fun uk => (if uk.2 = 0 then ((cK.f k n E nC.1).bind fun Io => (some (uk.1 == Io))) else (some false))) else ((jy.f k n E nC.2.2.1).bind fun Ip => (some (Ip == 0))))) z → Evl (fun k => aX.j0 k ((0 : Int) != 0) n E) z := fun hz => hz.step fun k => by rw [aX.j0, if_neg (by decide)]
          rcases Ii R (by omega) (by omega) fr with ⟨A, P, f1, rn, hg, PP, sl⟩ | ⟨B, f1, ap⟩
          · obtain ⟨v, e, p1, p2, p3, p4, p5⟩ := aeI n E A P
            have e0 := p5 R fr rn hg PP sl
            obtain ⟨-, -, -, -, -, -, ve⟩ := p4 e0
            have tf := Rs (n := n) R.m1 rn.len
            have tc := (H5 R rn.ones.aao E.length (Nat.le_refl _)).1
            refine go (Evl.bind (h := fun k (nC : List Int × List Int × List Bool × Bool) => if nC.2.2.2 = true then ((dA.f k n E nC.1 nC.2.1).bind fun uk => (if uk.2 = 0 then ((cK.f k n E nC.1).bind fun Io => (some (uk.1 == Io))) else (some false))) else ((jy.f k n E nC.2.2.1).bind fun Ip => (some (Ip == 0)))) f1 ?_)
            refine (Evl.bind (h := fun k (uk : Int × Int) => if uk.2 = 0 then ((cK.f k n E A).bind fun Io => (some (uk.1 == Io))) else (some false)) p1 ?_).congr fun k => by rw [if_pos rfl]
            refine (Evl.bind (h := fun k Io => some (v == Io)) tf (Evl.pure.congr fun k => ?_)).congr fun k => by rw [if_pos e0]
            rw [tc, ve, beq_self_eq_true]
          · obtain ⟨e, p1, p2, p3, p4⟩ := aaa n E B
            have e0 := p4 R ap
            refine go (Evl.bind (h := fun k (nC : List Int × List Int × List Bool × Bool) => if nC.2.2.2 = true then ((dA.f k n E nC.1 nC.2.1).bind fun uk => (if uk.2 = 0 then ((cK.f k n E nC.1).bind fun Io => (some (uk.1 == Io))) else (some false))) else ((jy.f k n E nC.2.2.1).bind fun Ip => (some (Ip == 0)))) f1 ?_)
            refine (Evl.bind (h := fun k Ip => some (Ip == 0)) p1 (Evl.pure.congr fun k => ?_)).congr fun k => by rw [if_neg (by simp)]
            rw [e0]; rfl
        · exact sk x hx x1
      · exact sk c hc (Ia hc g2)
end Go.Proofs.Ytkdoihcjhccliaa.Pure
namespace Go.Proofs.Ytkdoihcjhccliaa.G
open Go.RowKit Go.Proofs.Ytkdoihcjhccliaa.Q Go.Proofs.YtkdoihcjhccliaaW.PrintWords Go.ChangeShapes Go.WideShapes Go.Deep
set_option linter.unusedVariables false
section
variable {H : Type} {enc : TypeId × Value → H} {P : Program} {w : World} {base : Nat} {spare : Nat → Bool} {held : Bool}
instance : Inhabited S98 := ⟨z98⟩

end
end Go.Proofs.Ytkdoihcjhccliaa.G
