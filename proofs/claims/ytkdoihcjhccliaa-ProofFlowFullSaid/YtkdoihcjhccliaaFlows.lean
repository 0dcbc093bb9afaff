/- Flows and cuts: the program's look takes just what the document's does. -/
import Derived.Test.YtkdoihcjhccliaaQ22
import Derived.Test.YtkdoihcjhccliaaQ26
import Derived.Test.YtkdoihcjhccliaaQ9
import Derived.Test.YtkdoihcjhccliaaNet
namespace Go.Proofs.Ytkdoihcjhccliaa.G
open Go.RowKit Go.Proofs.Ytkdoihcjhccliaa.Q Go.Proofs.YtkdoihcjhccliaaW.PrintWords Go.Proofs.YtkdoihcjhccliaaW.PrintLast
set_option linter.unusedVariables false

theorem right_f {n : Int} {E : List S98} {c a : Int} (h : Evl (fun k => graph_Check.f k n E) (c, a)) : Evl (fun k => proof_right.f k n E) c := by
  by_cases hc : c = 0
  · subst hc
    exact (Evl.bind (h := fun k t => if t.1 = 0 then some 0 else some t.1) h (Evl.pure.congr fun k => by rw [if_pos rfl])).congr fun k => rfl
  · exact (Evl.bind (h := fun k t => if t.1 = 0 then some 0 else some t.1) h (Evl.pure.congr fun k => by rw [if_neg hc])).congr fun k => rfl
theorem wrong_f {n : Int} {E : List S98} {c a : Int} (h : Evl (fun k => compassref03_Check.f k n E) (c, a)) (v : Int) : Evl (fun k => compassref04_Wrong.f k n E v) (if c = 0 then (if v < 0 ∨ v ≥ n then 30 else 0) else c) := by
  refine (Evl.bind (h := fun k t => if t.1 = 0 then (if v < 0 then some 30 else (if v ≥ n then some 30 else some t.1)) else some t.1) h ?_).congr fun k => rfl
  by_cases hc : c = 0
  · subst hc
    rw [if_pos rfl]
    by_cases h1 : v < 0
    · rw [if_pos (Or.inl h1)]; exact Evl.pure.congr fun k => by rw [if_pos rfl, if_pos h1]
    · by_cases h2 : v ≥ n
      · rw [if_pos (Or.inr h2)]; exact Evl.pure.congr fun k => by rw [if_pos rfl, if_neg h1, if_pos h2]
      · have z : (if v < 0 ∨ v ≥ n then (30 : Int) else 0) = 0 := if_neg (by omega)
        rw [z]; exact Evl.pure.congr fun k => by rw [if_pos rfl, if_neg h1, if_neg h2]
  · rw [if_neg hc]; exact Evl.pure.congr fun k => by rw [if_neg hc]
/-- The number of what is wrong with a source and a sink in a right graph. -/
def endsE (n s t : Int) : Int := if s < 0 ∨ s ≥ n ∨ t < 0 ∨ t ≥ n then 30 else if s = t then 120 else 0
theorem ends_f {n : Int} {E : List S98} {c a : Int} (h : Evl (fun k => compassref03_Check.f k n E) (c, a)) (s t : Int) : Evl (fun k => compassref11_Ends.f k n E s t) (if c = 0 then endsE n s t else c) := by
  have hs := wrong_f h s
  have ht := wrong_f h t
  refine (Evl.bind (h := fun k u => if u = 0 then ((compassref04_Wrong.f k n E t).bind fun u' => if u' = 0 then (if s = t then some 120 else some u') else some u') else some u) hs ?_).congr fun k => rfl
  by_cases hc : c = 0
  · subst hc
    rw [if_pos rfl] at hs ht ⊢
    rw [if_pos rfl]
    by_cases h1 : s < 0 ∨ s ≥ n
    · rw [if_pos h1]
      have : endsE n s t = 30 := by unfold endsE; rw [if_pos (by omega)]
      rw [this]; exact Evl.pure.congr fun k => by rw [if_neg (by decide)]
    · rw [if_neg h1]
      refine (Evl.bind (h := fun k u' => if u' = 0 then (if s = t then some 120 else some u') else some u') ht ?_).congr fun k => by rw [if_pos rfl]
      by_cases h2 : t < 0 ∨ t ≥ n
      · rw [if_pos h2]
        have : endsE n s t = 30 := by unfold endsE; rw [if_pos (by omega)]
        rw [this]; exact Evl.pure.congr fun k => by rw [if_neg (by decide)]
      · rw [if_neg h2]
        by_cases h3 : s = t
        · have : endsE n s t = 120 := by unfold endsE; rw [if_neg (by omega), if_pos h3]
          rw [this]; exact Evl.pure.congr fun k => by rw [if_pos rfl, if_pos h3]
        · have : endsE n s t = 0 := by unfold endsE; rw [if_neg (by omega), if_neg h3]
          rw [this]; exact Evl.pure.congr fun k => by rw [if_pos rfl, if_neg h3]
  · rw [if_neg hc, if_neg hc]; exact Evl.pure.congr fun k => by rw [if_neg hc]

/-- A flow that fits and fills its cut. -/
structure Full (n : Int) (E : List S98) (s t : Int) (A : List Int) (B : List Bool) : Prop where
  side : (B.length : Int) = n
  src : rdOf false B s = true
  snk : rdOf false B t = false
  len : A.length = E.length
  fit : Amts E A
  out : net E A s E.length = cut E B E.length
  kept : ∀ v : Int, 0 ≤ v → v < n → v ≠ s → v ≠ t → net E A v E.length = 0

theorem net_snk {n : Int} {E : List S98} (R : Right n E) {A : List Int} {s t : Int} (hst : s ≠ t) (s0 : 0 ≤ s) (s1 : s < n) (t0 : 0 ≤ t) (t1 : t < n) (h : ∀ v : Int, 0 ≤ v → v < n → v ≠ s → v ≠ t → net E A v E.length = 0) : net E A t E.length = -net E A s E.length := by
  have a := tot_none R A E.length (Nat.le_refl _)
  have b := tot_two E A E.length s t hst s0 t0 n.toNat (fun u u0 u1 a b => h u u0 (by omega) a b)
  rw [a, if_pos (by omega), if_pos (by omega)] at b
  omega

theorem flows_f {n : Int} {E : List S98} (R : Right n E) {A : List Int} {s t x : Int} (hst : s ≠ t) (s0 : 0 ≤ s) (s1 : s < n) (t0 : 0 ≤ t) (t1 : t < n) (hx : -9000000000000000000 ≤ x ∧ x ≤ 9000000000000000000) :
    ∃ b : Bool, Evl (fun k => compassref11_Flows.f k n E s t A x) b ∧ (b = true ↔ (A.length = E.length ∧ Amts E A) ∧ net E A s E.length = x ∧ ∀ v : Int, 0 ≤ v → v < n → v ≠ s → v ≠ t → net E A v E.length = 0) := by
  have n0 := R.n0
  have n1 := R.n1
  have hl : ((List.replicate n.toNat (0 : Int)).length : Int) = n := by rw [List.length_replicate]; omega
  obtain ⟨b, e1, e2⟩ := fits_f R (A := A) (S := ((List.replicate n.toNat (0 : Int)).set s.toNat x).set t.toNat (wrap64 (-x))) (by rw [List.length_set, List.length_set]; exact hl)
  have rv : ∀ v : Int, 0 ≤ v → v < n → rd (((List.replicate n.toNat (0 : Int)).set s.toNat x).set t.toNat (wrap64 (-x))) v = if v = t then -x else if v = s then x else 0 := by
    intro v v0 v1
    rw [rd_set _ _ _ _ t0 (by rw [List.length_set, hl]; exact t1) v0, rd_set _ _ _ _ s0 (by rw [hl]; exact s1) v0, rd_replicate _ _ _ v0 (by omega), wr (x := -x) (by omega) (by omega)]
  refine ⟨b, (Evl.bind (h := fun k t => some t) e1 Evl.pure).congr fun k => ?_, e2.trans ⟨fun h => ⟨h.1, ?_, ?_⟩, fun h => ⟨h.1, fun v v0 v1 => ?_⟩⟩⟩
  · rw [compassref11_Flows.f, if_pos n0, if_pos (by omega), Option.bind_some, if_pos s0, if_pos (by rw [hl]; exact s1), if_pos t0, if_pos (by rw [hl]; exact t1)]
  · rw [h.2 s s0 s1, rv s s0 s1, if_neg hst, if_pos rfl]
  · intro v v0 v1 a b; rw [h.2 v v0 v1, rv v v0 v1, if_neg b, if_neg a]
  · rw [rv v v0 v1]
    by_cases a : v = t
    · rw [if_pos a, a, net_snk R hst s0 s1 t0 t1 h.2.2, h.2.1]
    · by_cases b : v = s
      · rw [if_neg a, if_pos b, b, h.2.1]
      · rw [if_neg a, if_neg b, h.2.2 v v0 v1 b a]

/-- Whatever the amounts and the value: an answer; amounts that are taken fit. -/
theorem flows_any {n : Int} {E : List S98} (R : Right n E) {A : List Int} {s t : Int} (x : Int) (s0 : 0 ≤ s) (s1 : s < n) (t0 : 0 ≤ t) (t1 : t < n) :
    ∃ b : Bool, Evl (fun k => compassref11_Flows.f k n E s t A x) b ∧ (b = true → A.length = E.length ∧ Amts E A) := by
  have n0 := R.n0
  have n1 := R.n1
  have hl : ((List.replicate n.toNat (0 : Int)).length : Int) = n := by rw [List.length_replicate]; omega
  obtain ⟨b, e1, e2⟩ := fits_f R (A := A) (S := ((List.replicate n.toNat (0 : Int)).set s.toNat x).set t.toNat (wrap64 (-x))) (by rw [List.length_set, List.length_set]; exact hl)
  refine ⟨b, (Evl.bind (h := fun k t => some t) e1 Evl.pure).congr fun k => ?_, fun h => (e2.1 h).1⟩
  rw [compassref11_Flows.f, if_pos n0, if_pos (by omega), Option.bind_some, if_pos s0, if_pos (by rw [hl]; exact s1), if_pos t0, if_pos (by rw [hl]; exact t1)]

/-- The program's last rounds: over what goes out of each node. -/
theorem max_l0 {n : Int} {O : List Int} {A : List Int} {B : List Bool} {s t x y : Int} (hO : (O.length : Int) = n) (hn : n ≤ 1024) (hB : (B.length : Int) = n) (s0 : 0 ≤ s) (s1 : s < n) (t0 : 0 ≤ t) (t1 : t < n) (d : Nat) : ∀ i : Nat, ((i + d : Nat) : Int) = n →
    ∃ r : Int × Int, Evl (fun k => proof_Max_1.l0 k O x O O.length i s t A B y) r ∧
      (((∀ v : Int, (i : Int) ≤ v → v < n → v ≠ s → v ≠ t → rd O v = 0) ∧ rdOf false B s = true ∧ rdOf false B t = false ∧ rd O s = x) → r = (0, x)) ∧
      (¬ ((∀ v : Int, (i : Int) ≤ v → v < n → v ≠ s → v ≠ t → rd O v = 0) ∧ rdOf false B s = true ∧ rdOf false B t = false ∧ rd O s = x) → r = (221, y)) := by
  induction d with
  | zero =>
    intro i hi
    have g : ¬ (i : Int) < (O.length : Int) := by omega
    by_cases a : rdOf false B s = true
    · by_cases b : rdOf false B t = true
      · refine ⟨(221, y), Evl.here fun k => by rw [proof_Max_1.l0, if_neg g, if_pos s0, if_pos (by omega), if_pos a, if_pos t0, if_pos (by omega), if_pos b], fun h => ?_, fun _ => rfl⟩
        rw [h.2.2.1] at b; cases b
      · by_cases c : rd O s = x
        · refine ⟨(0, x), Evl.here fun k => by rw [proof_Max_1.l0, if_neg g, if_pos s0, if_pos (by omega), if_pos a, if_pos t0, if_pos (by omega), if_neg b, if_pos (by omega), if_pos c], fun _ => rfl, fun h => absurd ⟨fun v v0 v1 _ _ => by omega, a, by simpa using b, c⟩ h⟩
        · refine ⟨(221, y), Evl.here fun k => by rw [proof_Max_1.l0, if_neg g, if_pos s0, if_pos (by omega), if_pos a, if_pos t0, if_pos (by omega), if_neg b, if_pos (by omega), if_neg c], fun h => absurd h.2.2.2 c, fun _ => rfl⟩
    · refine ⟨(221, y), Evl.here fun k => by rw [proof_Max_1.l0, if_neg g, if_pos s0, if_pos (by omega), if_neg a], fun h => absurd h.2.1 a, fun _ => rfl⟩
  | succ d ih =>
    intro i hi
    have g : (i : Int) < (O.length : Int) := by omega
    have w : wrap64 ((i : Int) + 1) = ((i + 1 : Nat) : Int) := by rw [w1 (by omega) (by omega)]; rfl
    obtain ⟨r, e1, e2, e3⟩ := ih (i + 1) (by omega)
    by_cases a : rd O i = 0 ∨ (i : Int) = s ∨ (i : Int) = t
    · refine ⟨r, e1.step fun k => ?_, fun h => e2 ⟨fun v v0 v1 => h.1 v (by omega) v1, h.2⟩, fun h => e3 fun z => h ⟨fun v v0 v1 vs vt => ?_, z.2⟩⟩
      · rw [proof_Max_1.l0, if_pos g, if_pos (by omega), if_pos g, w]
        by_cases a1 : rd O i = 0
        · rw [if_pos a1]
        · by_cases a2 : (i : Int) = s
          · rw [if_neg a1, if_pos a2]
          · rw [if_neg a1, if_neg a2, if_pos (by omega)]
      · by_cases q : v = i
        · rw [q] at vs vt ⊢; omega
        · exact z.1 v (by omega) v1 vs vt
    · refine ⟨(221, y), Evl.here fun k => ?_, fun h => absurd (h.1 i (by omega) (by omega) (by omega) (by omega)) (by omega), fun _ => rfl⟩
      rw [proof_Max_1.l0, if_pos g, if_pos (by omega), if_pos g, if_neg (by omega), if_neg (by omega), if_neg (by omega)]

/-- Both looks at a flow answer alike. -/
theorem max_f (n : Int) (E : List S98) (s t : Int) (A : List Int) (B : List Bool) : ∃ v e : Int, Evl (fun k => proof_Max.f k n E s t A B) (v, e) ∧ Evl (fun k => compassref11_Max.f k n E s t A B) (v, e) ∧
    (e ≠ 0 → v = 0) ∧ (e = 0 → Right n E ∧ endsE n s t = 0 ∧ Full n E s t A B ∧ v = cut E B E.length) ∧ (Right n E → endsE n s t = 0 → Full n E s t A B → e = 0) := by
  obtain ⟨c, a, g1, g2, g3, g4, g5⟩ := check_f n E
  have hr := right_f g1
  have he := ends_f g2 s t
  have prog : ∀ {r : Int × Int}, Evl (fun k => proof_Max_1.f k n E s t A B 0) r → Evl (fun k => proof_Max.f k n E s t A B) (r.2, r.1) := fun h => (Evl.bind (h := fun k t => some (t.2, t.1)) h Evl.pure).congr fun k => rfl
  by_cases hc : c = 0
  · subst hc
    rw [if_pos rfl] at he
    obtain ⟨-, R⟩ := g3 rfl
    have n0 := R.n0
    have n1 := R.n1
    have start : ∀ {r : Int × Int}, Evl (fun k => if s ≥ 0 then (if s < n then (if t ≥ 0 then (if t < n then (if s = t then (some (120, (0 : Int))) else ((proof_carried.f k n E A).bind fun bt135 => (if bt135.1 = 0 then ((proof_across.f k n E B).bind fun bt139 => (if bt139.1 = 0 then (proof_Max_1.l0 k bt135.2 bt139.2 bt135.2 (bt135.2.length : Int) 0 s t A B 0) else (some (bt139.1, 0)))) else (some (bt135.1, 0))))) else (some (30, 0))) else (some (30, 0))) else (some (30, 0))) else (some (30, 0))) r → Evl (fun k => proof_Max_1.f k n E s t A B 0) r := fun h => (Evl.bind (h := fun k u => if u = 0 then _ else some (u, (0 : Int))) hr (h.congr fun k => by rw [if_pos rfl])).congr fun k => rfl
    have bad : ∀ x : Int, endsE n s t = x → x ≠ 0 → Evl (fun k => compassref11_Max.f k n E s t A B) (0, x) := fun x hx h0 => by
      rw [hx] at he
      exact (Evl.bind (h := fun k t348 => if t348 = 0 then _ else some ((0 : Int), t348)) he (Evl.pure.congr fun k => by rw [if_neg h0])).congr fun k => rfl
    by_cases h1 : s < 0 ∨ s ≥ n ∨ t < 0 ∨ t ≥ n
    · have z : endsE n s t = 30 := by unfold endsE; rw [if_pos h1]
      refine ⟨0, 30, prog (r := (30, 0)) (start (Evl.pure.congr fun k => ?_)), bad 30 z (by decide), fun _ => rfl, fun h => (by cases h), fun _ h => (by rw [z] at h; cases h)⟩
      by_cases a1 : s ≥ 0
      · by_cases a2 : s < n
        · by_cases a3 : t ≥ 0
          · rw [if_pos a1, if_pos a2, if_pos a3, if_neg (by omega)]
          · rw [if_pos a1, if_pos a2, if_neg a3]
        · rw [if_pos a1, if_neg a2]
      · rw [if_neg a1]
    · by_cases h2 : s = t
      · have z : endsE n s t = 120 := by unfold endsE; rw [if_neg h1, if_pos h2]
        exact ⟨0, 120, prog (r := (120, 0)) (start (Evl.pure.congr fun k => by rw [if_pos (by omega), if_pos (by omega), if_pos (by omega), if_pos (by omega), if_pos h2])), bad 120 z (by decide), fun _ => rfl, fun h => (by cases h), fun _ h => (by rw [z] at h; cases h)⟩
      · have z : endsE n s t = 0 := by unfold endsE; rw [if_neg h1, if_neg h2]
        rw [z] at he
        obtain ⟨cr, e1, e2, e3⟩ := carried_f R (A := A)
        have cb := cut_le R B E.length (Nat.le_refl _)
        have m1 := R.m1
        obtain ⟨b, f1, f2⟩ := flows_f R (A := A) h2 (s := s) (t := t) (x := cut E B E.length) (by omega) (by omega) (by omega) (by omega) (by omega)
        -- the document
        have doc : ∃ r : Int × Int, Evl (fun k => compassref11_Max.f k n E s t A B) r ∧ (Full n E s t A B → r = (cut E B E.length, 0)) ∧ (¬ Full n E s t A B → r = (0, 221)) := by
          have go : ∀ {r : Int × Int}, Evl (fun k => if (B.length : Int) = n then (if 0 ≤ s then (if s < (B.length : Int) then (if rdOf false B s = true then (if 0 ≤ t then (if t < (B.length : Int) then (compassref11_Max.j0 k s t A B (rdOf false B t) n E) else (none)) else (none)) else (compassref11_Max.j0 k s t A B true n E)) else (none)) else (none)) else (compassref11_Max.j0 k s t A B true n E)) r → Evl (fun k => compassref11_Max.f k n E s t A B) r := fun h => (Evl.bind (h := fun k u => if u = 0 then _ else some ((0 : Int), u)) he (h.congr fun k => by rw [if_pos rfl])).congr fun k => rfl
          have no : Evl (fun k => compassref11_Max.j0 k s t A B true n E) (0, 221) := Evl.here fun k => by rw [compassref11_Max.j0, if_pos rfl]
          by_cases hB : (B.length : Int) = n
          · by_cases q1 : rdOf false B s = true
            · by_cases q2 : rdOf false B t = true
              · exact ⟨(0, 221), go (no.congr fun k => by rw [if_pos hB, if_pos (by omega), if_pos (by omega), if_pos q1, if_pos (by omega), if_pos (by omega), q2]), fun F => (by rw [F.snk] at q2; cases q2), fun _ => rfl⟩
              · have q2' : rdOf false B t = false := by simpa using q2
                have tail : Evl (fun k => compassref11_Max.f k n E s t A B) (if b = true then (cut E B E.length, 0) else (0, 221)) := by
                  refine go ((Evl.step (g := fun k => compassref11_Max.j0 k s t A B false n E) (Evl.bind (h := fun k t351 => (compassref11_Flows.f k n E s t A t351).bind fun t352 => if t352 = true then some (t351, 0) else some (0, 221)) (cut_f R hB) (Evl.bind (h := fun k t352 => if t352 = true then some (cut E B E.length, 0) else some (0, 221)) f1 (Evl.pure.congr fun k => ?_))) fun k => ?_).congr fun k => ?_)
                  · by_cases qb : b = true
                    · rw [if_pos qb, if_pos qb]
                    · rw [if_neg qb, if_neg qb]
                  · rw [compassref11_Max.j0, if_neg (by simp)]
                  · rw [if_pos hB, if_pos (by omega), if_pos (by omega), if_pos q1, if_pos (by omega), if_pos (by omega), q2']
                by_cases qb : b = true
                · rw [if_pos qb] at tail
                  have k := f2.1 qb
                  exact ⟨_, tail, fun _ => rfl, fun h => absurd ⟨hB, q1, q2', k.1.1, k.1.2, k.2.1, k.2.2⟩ h⟩
                · rw [if_neg qb] at tail
                  exact ⟨_, tail, fun F => absurd (f2.2 ⟨⟨F.len, F.fit⟩, F.out, F.kept⟩) qb, fun _ => rfl⟩
            · exact ⟨(0, 221), go (no.congr fun k => by rw [if_pos hB, if_pos (by omega), if_pos (by omega), if_neg q1]), fun F => absurd F.src q1, fun _ => rfl⟩
          · exact ⟨(0, 221), go (no.congr fun k => by rw [if_neg hB]), fun F => absurd F.side hB, fun _ => rfl⟩
        -- the program
        have pr : ∃ r : Int × Int, Evl (fun k => proof_Max_1.f k n E s t A B 0) r ∧ (Full n E s t A B → r = (0, cut E B E.length)) ∧ (¬ Full n E s t A B → r = (221, 0)) := by
          have go : ∀ {r : Int × Int}, Evl (fun k => (proof_carried.f k n E A).bind fun bt135 => (if bt135.1 = 0 then ((proof_across.f k n E B).bind fun bt139 => (if bt139.1 = 0 then (proof_Max_1.l0 k bt135.2 bt139.2 bt135.2 (bt135.2.length : Int) 0 s t A B 0) else (some (bt139.1, 0)))) else (some (bt135.1, 0)))) r → Evl (fun k => proof_Max_1.f k n E s t A B 0) r := fun h => start (h.congr fun k => by rw [if_pos (by omega), if_pos (by omega), if_pos (by omega), if_pos (by omega), if_neg h2])
          by_cases qa : A.length = E.length ∧ Amts E A
          · obtain ⟨k1, k2, k3⟩ := e2 qa
            by_cases hB : (B.length : Int) = n
            · obtain ⟨r, m1, m2, m3⟩ := max_l0 (O := cr.2) (A := A) (B := B) (s := s) (t := t) (x := cut E B E.length) (y := 0) k2 n1 hB (by omega) (by omega) (by omega) (by omega) n.toNat 0 (by omega)
              refine ⟨r, go (Evl.bind (h := fun k bt135 => if bt135.1 = 0 then ((proof_across.f k n E B).bind fun bt139 => (if bt139.1 = 0 then (proof_Max_1.l0 k bt135.2 bt139.2 bt135.2 (bt135.2.length : Int) 0 s t A B 0) else (some (bt139.1, 0)))) else (some (bt135.1, 0))) e1 ((Evl.bind (h := fun k bt139 => if bt139.1 = 0 then (proof_Max_1.l0 k cr.2 bt139.2 cr.2 (cr.2.length : Int) 0 s t A B 0) else (some (bt139.1, 0))) (across_f R hB) (m1.congr fun k => by rw [if_pos rfl]; rfl)).congr fun k => by rw [if_pos k1])), fun F => m2 ⟨fun v v0 v1 a b => ?_, F.src, F.snk, ?_⟩, fun h => m3 fun z => h ⟨hB, z.2.1, z.2.2.1, qa.1, qa.2, ?_, fun v v0 v1 a b => ?_⟩⟩
              · rw [k3 v (by omega) v1]; exact F.kept v (by omega) v1 a b
              · rw [k3 s (by omega) (by omega)]; exact F.out
              · rw [← k3 s (by omega) (by omega)]; exact z.2.2.2
              · rw [← k3 v v0 v1]; exact z.1 v (by omega) v1 a b
            · refine ⟨(221, 0), go (Evl.bind (h := fun k bt135 => if bt135.1 = 0 then ((proof_across.f k n E B).bind fun bt139 => (if bt139.1 = 0 then (proof_Max_1.l0 k bt135.2 bt139.2 bt135.2 (bt135.2.length : Int) 0 s t A B 0) else (some (bt139.1, 0)))) else (some (bt135.1, 0))) e1 ((Evl.bind (h := fun k bt139 => if bt139.1 = 0 then (proof_Max_1.l0 k cr.2 bt139.2 cr.2 (cr.2.length : Int) 0 s t A B 0) else (some (bt139.1, 0))) (across_no hB) (Evl.pure.congr fun k => by rw [if_neg (by decide)])).congr fun k => by rw [if_pos k1])), fun F => absurd F.side hB, fun _ => rfl⟩
          · have k1 := e3 qa
            refine ⟨(221, 0), go (Evl.bind (h := fun k bt135 => if bt135.1 = 0 then ((proof_across.f k n E B).bind fun bt139 => (if bt139.1 = 0 then (proof_Max_1.l0 k bt135.2 bt139.2 bt135.2 (bt135.2.length : Int) 0 s t A B 0) else (some (bt139.1, 0)))) else (some (bt135.1, 0))) e1 (Evl.pure.congr fun k => by rw [k1, if_neg (by decide)])), fun F => absurd ⟨F.len, F.fit⟩ qa, fun _ => rfl⟩
        obtain ⟨r1, d1, d2, d3⟩ := doc
        obtain ⟨r2, p1, p2, p3⟩ := pr
        by_cases F : Full n E s t A B
        · have q1 := d2 F
          have q2 := p2 F
          subst q1 q2
          exact ⟨_, _, prog p1, d1, fun h => absurd rfl h, fun _ => ⟨R, z, F, rfl⟩, fun _ _ _ => rfl⟩
        · have q1 := d3 F
          have q2 := p3 F
          subst q1 q2
          exact ⟨_, _, prog p1, d1, fun _ => rfl, fun h => (by cases h), fun _ _ h => absurd h F⟩
  · rw [if_neg hc] at he
    refine ⟨0, c, prog (r := (c, 0)) ((Evl.bind (h := fun k u => if u = 0 then _ else some (u, (0 : Int))) hr (Evl.pure.congr fun k => by rw [if_neg hc])).congr fun k => rfl), (Evl.bind (h := fun k u => if u = 0 then _ else some ((0 : Int), u)) he (Evl.pure.congr fun k => by rw [if_neg hc])).congr fun k => rfl, fun _ => rfl, fun h => absurd h hc, fun R => absurd (g5 R) hc⟩
end Go.Proofs.Ytkdoihcjhccliaa.G
