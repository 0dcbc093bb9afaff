/- A tour that is told is taken by Covers; where none is told, the named node shows why. -/
import Derived.Test.YtplbkggdnonfbaaQ11
import Derived.Test.YtplbkggdnonfbaaQ12
import Derived.Test.YtplbkggdnonfbaaQ13
import Derived.Test.YtplbkggdnonfbaaQ14
import Derived.Test.YtplbkggdnonfbaaQ15
import Derived.Test.YtplbkggdnonfbaaTourF
namespace Go.Proofs.Ytplbkggdnonfbaa.G
open Go.RowKit Go.Proofs.Ytplbkggdnonfbaa.Q Go.Proofs.YtplbkggdnonfbaaW.PrintWords Go.Proofs.YtplbkggdnonfbaaW.PrintLast
set_option linter.unusedVariables false

/-- The ways by the edges before the i-th. -/
structure WaysI (n : Int) (E : List S45) (d : Bool) (Y : List (List S51)) (i : Int) : Prop where
  len : (Y.length : Int) = n
  mem : ∀ v, 0 ≤ v → v < n → ∀ s ∈ rd_L5 Y v, 0 ≤ s.f0 ∧ s.f0 < i ∧ src E s = v ∧ (d = true → s.f1 = false)
  fwd : ∀ j, 0 ≤ j → j < i → (⟨j, false⟩ : S51) ∈ rd_L5 Y (rd_T45 E j).f0
  bwd : d = false → ∀ j, 0 ≤ j → j < i → (⟨j, true⟩ : S51) ∈ rd_L5 Y (rd_T45 E j).f1
  bnd : ∀ v, 0 ≤ v → v < n → ((rd_L5 Y v).length : Int) ≤ 2 * i

theorem ways_l0 (n : Int) (E : List S45) (hR : Right n E) (d : Bool) (start : Int) (q : Nat) : ∀ (i : Int) (Y : List (List S51)), 0 ≤ i → i + q = (E.length : Int) → WaysI n E d Y i →
    ∃ Y', Ways n E d Y' ∧ ∀ r, Evl (fun k => (euler_circuit.f k n E start Y').bind fun bt => some (start, bt.1, (0 : Int), (0 : Int))) r → Evl (fun k => euler_Tour.l0 k d start Y E (E.length : Int) i n E) r := by
  have m1 := hR.m1
  induction q with
  | zero =>
    intro i Y i0 hi I
    obtain rfl : i = (E.length : Int) := by omega
    exact ⟨Y, ⟨I.len, I.mem, I.fwd, I.bwd, fun v a b => by have := I.bnd v a b; omega⟩, fun r H => H.step fun k => by rw [euler_Tour.l0, if_neg (by omega)]⟩
  | succ q ih =>
    intro i Y i0 hi I
    have i1 : i < (E.length : Int) := by omega
    obtain ⟨a0, a1, b0, b1, -, -, -, -⟩ := hR.e i i0 i1
    have hl := I.len
    have w := w1 (i := i) (by omega) (by omega)
    have sf : src E ⟨i, false⟩ = (rd_T45 E i).f0 := by unfold src; simp
    have st : src E ⟨i, true⟩ = (rd_T45 E i).f1 := by unfold src; simp
    generalize ha : (rd_T45 E i).f0 = a at a0 a1 sf
    generalize hb : (rd_T45 E i).f1 = b at b0 b1 st
    have r1 : ∀ v, 0 ≤ v → rd_L5 (Y.set a.toNat (rd_L5 Y a ++ [⟨i, false⟩])) v = if v = a then rd_L5 Y a ++ [⟨i, false⟩] else rd_L5 Y v := fun v x => rd_L5_set _ _ _ _ a0 (by omega) x
    have l1 : ((Y.set a.toNat (rd_L5 Y a ++ [(⟨i, false⟩ : S51)])).length : Int) = n := by rw [List.length_set]; exact hl
    generalize hY1 : Y.set a.toNat (rd_L5 Y a ++ [(⟨i, false⟩ : S51)]) = Y1 at r1 l1
    have m1' : ∀ v, 0 ≤ v → ∀ s, s ∈ rd_L5 Y1 v ↔ s ∈ rd_L5 Y v ∨ (v = a ∧ s = ⟨i, false⟩) := fun v x s => by
      rw [r1 v x]
      by_cases e : v = a
      · rw [if_pos e, List.mem_append, List.mem_singleton, e]; exact ⟨fun h => h.imp id fun q => ⟨rfl, q⟩, fun h => h.imp id fun q => q.2⟩
      · rw [if_neg e]; exact ⟨Or.inl, fun h => h.elim id fun q => absurd q.1 e⟩
    have b1' : ∀ v, 0 ≤ v → v < n → ((rd_L5 Y1 v).length : Int) ≤ 2 * i + 1 := fun v x y => by
      rw [r1 v x]
      have := I.bnd v x y
      split
      · rename_i e; rw [List.length_append, List.length_singleton, ← e]; omega
      · omega
    have bn := I.bnd a a0 a1
    by_cases hd : d = true
    · obtain ⟨Y', hY', R⟩ := ih (i + 1) Y1 (by omega) (by omega) ⟨l1, fun v x y s hs => by
        rcases (m1' v x s).mp hs with h | ⟨rfl, rfl⟩
        · obtain ⟨p, q, r, t⟩ := I.mem v x y s h
          exact ⟨p, by omega, r, t⟩
        · exact ⟨i0, by show i < i + 1; omega, sf, fun _ => rfl⟩, fun j j0 j1 => by
        have re := hR.e j j0 (by omega)
        by_cases e : j = i
        · rw [e, ha]; exact (m1' a a0 _).mpr (Or.inr ⟨rfl, rfl⟩)
        · exact (m1' _ re.a0 _).mpr (Or.inl (I.fwd j j0 (by omega))), fun h => (by rw [hd] at h; cases h), fun v x y => by have := b1' v x y; omega⟩
      refine ⟨Y', hY', fun r H => (R r H).step fun k => ?_⟩
      rw [euler_Tour.l0, if_pos i1, if_pos i0, if_pos i1, ha, hb, if_pos a0, if_pos (by omega), if_pos (by omega), Option.bind_some, hY1, if_pos hd, w]
    · have r2 : ∀ v, 0 ≤ v → rd_L5 (Y1.set b.toNat (rd_L5 Y1 b ++ [⟨i, true⟩])) v = if v = b then rd_L5 Y1 b ++ [⟨i, true⟩] else rd_L5 Y1 v := fun v x => rd_L5_set _ _ _ _ b0 (by omega) x
      have m2' : ∀ v, 0 ≤ v → ∀ s, s ∈ rd_L5 (Y1.set b.toNat (rd_L5 Y1 b ++ [⟨i, true⟩])) v ↔ s ∈ rd_L5 Y1 v ∨ (v = b ∧ s = ⟨i, true⟩) := fun v x s => by
        rw [r2 v x]
        by_cases e : v = b
        · rw [if_pos e, List.mem_append, List.mem_singleton, e]; exact ⟨fun h => h.imp id fun q => ⟨rfl, q⟩, fun h => h.imp id fun q => q.2⟩
        · rw [if_neg e]; exact ⟨Or.inl, fun h => h.elim id fun q => absurd q.1 e⟩
      have bn1 := b1' b b0 b1
      obtain ⟨Y', hY', R⟩ := ih (i + 1) (Y1.set b.toNat (rd_L5 Y1 b ++ [⟨i, true⟩])) (by omega) (by omega) ⟨by rw [List.length_set]; exact l1, fun v x y s hs => by
        rcases (m2' v x s).mp hs with h | ⟨rfl, rfl⟩
        · rcases (m1' v x s).mp h with h | ⟨rfl, rfl⟩
          · obtain ⟨p, q, r, t⟩ := I.mem v x y s h
            exact ⟨p, by omega, r, t⟩
          · exact ⟨i0, by show i < i + 1; omega, sf, fun _ => rfl⟩
        · exact ⟨i0, by show i < i + 1; omega, st, fun h => absurd h hd⟩, fun j j0 j1 => by
        have re := hR.e j j0 (by omega)
        refine (m2' _ re.a0 _).mpr (Or.inl ?_)
        by_cases e : j = i
        · rw [e, ha]; exact (m1' a a0 _).mpr (Or.inr ⟨rfl, rfl⟩)
        · exact (m1' _ re.a0 _).mpr (Or.inl (I.fwd j j0 (by omega))), fun h j j0 j1 => by
        have re := hR.e j j0 (by omega)
        by_cases e : j = i
        · rw [e, hb]; exact (m2' b b0 _).mpr (Or.inr ⟨rfl, rfl⟩)
        · exact (m2' _ re.b0 _).mpr (Or.inl ((m1' _ re.b0 _).mpr (Or.inl (I.bwd h j j0 (by omega))))), fun v x y => by
        rw [r2 v x]
        have := b1' v x y
        split
        · rename_i e; rw [List.length_append, List.length_singleton, ← e]; omega
        · omega⟩
      refine ⟨Y', hY', fun r H => (R r H).step fun k => ?_⟩
      rw [euler_Tour.l0, if_pos i1, if_pos i0, if_pos i1, ha, hb, if_pos a0, if_pos (by omega), if_pos (by omega), Option.bind_some, hY1, if_neg hd, if_pos b0, if_pos (by omega), if_pos (by omega), w]

/-- A closed walk over all edges, each once. -/
structure Good (n : Int) (E : List S45) (d : Bool) (s : Int) (l : List S51) : Prop where
  s0 : 0 ≤ s
  s1 : s < n
  w : walkTo E s l s
  len : l.length = E.length
  nd : (l.map S51.f0).Nodup
  nb : d = true → ∀ t ∈ l, t.f1 = false

theorem tour_f (n : Int) (E : List S45) (d : Bool) : ∃ (s : Int) (l : List S51) (v c : Int), Evl (fun k => euler_Tour.f k n E d) (s, l, v, c) ∧
    ((¬ Right n E ∧ c ≠ 0 ∧ c ≠ 90 ∧ c ≠ 91 ∧ l = [] ∧ s = 0 ∧ v = 0 ∧ ∃ a, Evl (fun k => compassref03_Check.f k n E) (c, a)) ∨
     (Right n E ∧ c = 90 ∧ l = [] ∧ s = 0 ∧ 0 ≤ v ∧ v < n ∧ Odd E d v ∧ ∀ u, 0 ≤ u → u < v → ¬ Odd E d u) ∨
     (Right n E ∧ c = 91 ∧ l = [] ∧ s = 0 ∧ 0 ≤ v ∧ v < n ∧ Has E v ∧ (∀ u, 0 ≤ u → u < n → ¬ Odd E d u) ∧ ∃ p : Int × Int × Bool, Evl (fun k => euler_apart.f k n E) p ∧ p.2.2 = true ∧ v = p.2.1) ∨
     (Right n E ∧ c = 0 ∧ v = 0 ∧ (0 < n → Good n E d s l) ∧ (∀ u, 0 ≤ u → u < n → ¬ Odd E d u) ∧ ∃ p : Int × Int × Bool, Evl (fun k => euler_apart.f k n E) p ∧ p.2.2 = false ∧ s = (if (E.length : Int) = 0 then 0 else p.1) ∧ ((E.length : Int) = 0 → l = []))) := by
  obtain ⟨c, a, C1, C2, hz, ho, hr⟩ := check_f n E
  by_cases hc : c = 0
  · obtain ⟨-, hR⟩ := hz hc
    subst hc
    have n0 := hR.n0
    have n1 := hR.n1
    have m1 := hR.m1
    obtain ⟨u, U, hu⟩ := uneven_f n E hR d
    obtain ⟨p, P, hp⟩ := apart_f n E hR
    have top : ∀ r, Evl (fun k => if u.2 = true then some (0, ([] : List S51), u.1, 90) else ((euler_apart.f k n E).bind fun bt254 => (if bt254.2.2 = true then (some (0, ([] : List (S51)), bt254.2.1, 91)) else (if (E.length : Int) = 0 then (some (0, ([] : List (S51)), 0, 0)) else (if 0 ≤ n then (if n.toNat ≤ 11728124029610 then (euler_Tour.l0 k d bt254.1 (List.replicate n.toNat []) E (E.length : Int) 0 n E) else (none)) else (none)))))) r → Evl (fun k => euler_Tour.f k n E d) r := fun r H => by
      refine (Evl.bind C1 (h := fun k bt249 => (if bt249.1 = 0 then ((euler_uneven.f k n E d).bind fun bt252 => (if bt252.2 = true then (some (0, ([] : List (S51)), bt252.1, 90)) else ((euler_apart.f k n E).bind fun bt254 => (if bt254.2.2 = true then (some (0, ([] : List (S51)), bt254.2.1, 91)) else (if (E.length : Int) = 0 then (some (0, ([] : List (S51)), 0, 0)) else (if 0 ≤ n then (if n.toNat ≤ 11728124029610 then (euler_Tour.l0 k d bt254.1 (List.replicate n.toNat []) E (E.length : Int) 0 n E) else (none)) else (none))))))) else (some (0, ([] : List (S51)), 0, bt249.1)))) ?_).congr fun k => rfl
      exact (Evl.bind U (h := fun k bt252 => (if bt252.2 = true then (some (0, ([] : List (S51)), bt252.1, 90)) else ((euler_apart.f k n E).bind fun bt254 => (if bt254.2.2 = true then (some (0, ([] : List (S51)), bt254.2.1, 91)) else (if (E.length : Int) = 0 then (some (0, ([] : List (S51)), 0, 0)) else (if 0 ≤ n then (if n.toNat ≤ 11728124029610 then (euler_Tour.l0 k d bt254.1 (List.replicate n.toNat []) E (E.length : Int) 0 n E) else (none)) else (none))))))) H).congr fun k => by rw [if_pos rfl]
    rcases hu with ⟨u2, ue⟩ | ⟨u2, v0, v1, vo, vl⟩
    · have go : ∀ r, Evl (fun k => if p.2.2 = true then (some (0, ([] : List (S51)), p.2.1, 91)) else (if (E.length : Int) = 0 then (some (0, ([] : List (S51)), 0, 0)) else (if 0 ≤ n then (if n.toNat ≤ 11728124029610 then (euler_Tour.l0 k d p.1 (List.replicate n.toNat []) E (E.length : Int) 0 n E) else (none)) else (none)))) r → Evl (fun k => euler_Tour.f k n E d) r := fun r H =>
        top r ((Evl.bind P (h := fun k bt254 => (if bt254.2.2 = true then (some (0, ([] : List (S51)), bt254.2.1, 91)) else (if (E.length : Int) = 0 then (some (0, ([] : List (S51)), 0, 0)) else (if 0 ≤ n then (if n.toNat ≤ 11728124029610 then (euler_Tour.l0 k d bt254.1 (List.replicate n.toNat []) E (E.length : Int) 0 n E) else (none)) else (none))))) H).congr fun k => by rw [if_neg (by rw [u2]; simp)])
      rcases hp with ⟨p2, w0, w1', wh, -⟩ | ⟨p2, p1, pc⟩
      · exact ⟨0, [], p.2.1, 91, go _ (Evl.pure.congr fun k => by rw [if_pos p2]), Or.inr (Or.inr (Or.inl ⟨hR, rfl, rfl, rfl, w0, w1', wh, ue, p, P, p2, rfl⟩))⟩
      · by_cases hm : (E.length : Int) = 0
        · have em : E.length = 0 := by omega
          refine ⟨0, [], 0, 0, go _ (Evl.pure.congr fun k => by rw [if_neg (by rw [p2]; simp), if_pos hm]), Or.inr (Or.inr (Or.inr ⟨hR, rfl, rfl, fun hn => ⟨Int.le_refl 0, hn, rfl, by rw [em]; rfl, List.nodup_nil, fun _ t ht => by simp at ht⟩, ue, p, P, p2, by rw [if_pos hm], fun _ => rfl⟩))⟩
        · rcases pc with ⟨e, -⟩ | ⟨⟨s0, s1, -⟩, conn⟩
          · exact absurd e hm
          · have hB : Bal n E d := fun v a b => by
              have := ue v a b
              unfold Odd at this
              by_cases hd : d = true
              · rw [if_pos hd] at this ⊢; omega
              · rw [if_neg hd] at this ⊢; omega
            have r0 : ∀ v, 0 ≤ v → v < n → rd_L5 (List.replicate n.toNat ([] : List S51)) v = [] := fun v a b => by unfold rd_L5; exact getD_replicate _ _ _ _ (by omega)
            obtain ⟨Y, hY, R⟩ := ways_l0 n E hR d p.1 E.length 0 (List.replicate n.toNat []) (Int.le_refl 0) (by omega) ⟨by rw [List.length_replicate]; omega, fun v a b s hs => by rw [r0 v a b] at hs; simp at hs, fun j a b => by omega, fun _ j a b => by omega, fun v a b => by rw [r0 v a b]; simp⟩
            obtain ⟨l, W', H, F⟩ := circuit_f n E hR d Y hY hB p.1 s0 s1
            obtain ⟨X, xs, xc, xa⟩ := F.cl
            have all : ∀ i, 0 ≤ i → i < (E.length : Int) → i ∈ l.map S51.f0 := fun i a b => xa i a b ((conn _ ⟨i, a, b, Or.inl rfl⟩ X xc).mpr xs)
            have len : l.length = E.length := by
              have g1 := sub_len _ (rng E.length) F.nd (fun x hx => by
                obtain ⟨s, hs, rfl⟩ := List.mem_map.mp hx
                exact (mem_rng _ _).mpr ⟨(F.inr s hs).1, (F.inr s hs).2.1⟩)
              have g2 := sub_len (rng E.length) _ (nodup_rng _) (fun x hx => by
                obtain ⟨a, b⟩ := (mem_rng _ _).mp hx
                exact all x a b)
              rw [len_rng, List.length_map] at g1 g2; omega
            refine ⟨p.1, l, 0, 0, go _ ((R _ (Evl.bind H (h := fun k bt => some (p.1, bt.1, (0 : Int), (0 : Int))) Evl.pure)).congr fun k => by rw [if_neg (by rw [p2]; simp), if_neg hm, if_pos n0, if_pos (by omega)]), Or.inr (Or.inr (Or.inr ⟨hR, rfl, rfl, fun _ => ⟨s0, s1, F.w, len, F.nd, fun hd t ht => (F.inr t ht).2.2 hd⟩, ue, p, P, p2, by rw [if_neg hm], fun h => absurd h hm⟩))⟩
    · exact ⟨0, [], u.1, 90, top _ (Evl.pure.congr fun k => by rw [if_pos u2]), Or.inr (Or.inl ⟨hR, rfl, rfl, rfl, v0, v1, vo, vl⟩)⟩
  · refine ⟨0, [], 0, c, ?_, Or.inl ⟨fun h => hc (hr h), hc, by omega, by omega, rfl, rfl, rfl, a, C2⟩⟩
    refine (Evl.bind C1 (h := fun k bt249 => (if bt249.1 = 0 then ((euler_uneven.f k n E d).bind fun bt252 => (if bt252.2 = true then (some (0, ([] : List (S51)), bt252.1, 90)) else ((euler_apart.f k n E).bind fun bt254 => (if bt254.2.2 = true then (some (0, ([] : List (S51)), bt254.2.1, 91)) else (if (E.length : Int) = 0 then (some (0, ([] : List (S51)), 0, 0)) else (if 0 ≤ n then (if n.toNat ≤ 11728124029610 then (euler_Tour.l0 k d bt254.1 (List.replicate n.toNat []) E (E.length : Int) 0 n E) else (none)) else (none))))))) else (some (0, ([] : List (S51)), 0, bt249.1)))) ?_).congr fun k => rfl
    exact Evl.pure.congr fun k => by rw [if_neg hc]

/-- A walk that leads on is followed to its end. -/
theorem end_true (n : Int) (E : List S45) (hR : Right n E) (s y : Int) (l : List S51) (s0 : 0 ≤ s) (s1 : s < n) (hl : l.length ≤ 5000) (h : walkTo E s l y) : Evl (fun k => euler_End.f k n E s l) (y, 0) := by
  obtain ⟨c, a, C1, -, -, -, hr⟩ := check_f n E
  obtain rfl := hr hR
  have loop : ∀ (q i : Nat) (x : Int), i + q = l.length → walkTo E x (l.drop i) y → Evl (fun k => euler_End.l0 k x l (l.length : Int) (i : Int) n E) (y, 0) := by
    intro q
    induction q with
    | zero =>
      intro i x hi hw
      rw [List.drop_eq_nil_of_le (by omega)] at hw
      have e : x = y := hw
      exact Evl.here fun k => by rw [euler_End.l0, if_neg (by omega), e]
    | succ q ih =>
      intro i x hi hw
      have hlt : i < l.length := by omega
      have e : rd_T51 l (i : Int) = l[i] := by
        unfold rd_T51; rw [Int.toNat_natCast, List.getD_eq_getElem?_getD, List.getElem?_eq_getElem hlt]; rfl
      rw [List.drop_eq_getElem_cons hlt, ← e] at hw
      obtain ⟨h1, h2, h3, h4⟩ := hw
      have w := w1 (i := (i : Int)) (by omega) (by omega)
      have H := ih (i + 1) _ (by omega) h4
      have J : Evl (fun k => euler_End.j2 k x l (l.length : Int) (i : Int) false n E (rd_T51 l (i : Int)).f0 (rd_T51 l (i : Int)).f1) (y, 0) := by
        refine H.step fun k => ?_
        unfold src at h1
        unfold dst
        rw [euler_End.j2, if_neg (by simp), if_pos h2, if_pos h3]
        by_cases b : (rd_T51 l (i : Int)).f1 = true
        · rw [if_pos b] at h1
          rw [if_pos b, if_pos h1, if_pos b, w]; rfl
        · rw [if_neg b] at h1
          rw [if_neg b, if_pos h1, if_neg b, w]; rfl
      refine J.step fun k => ?_
      rw [euler_End.l0, if_pos (by omega), if_pos (by omega), if_pos (by omega), if_neg (by omega), decide_eq_false (by omega)]
  refine (Evl.bind C1 (h := fun k bt => if bt.1 = 0 then (if s < 0 then euler_End.j0 k s true n E s l else euler_End.j0 k s (decide (s ≥ n)) n E s l) else some (0, bt.1)) ?_).congr fun k => rfl
  refine Evl.congr (h := fun k => euler_End.j0 k s false n E s l) ((loop l.length 0 s (by omega) h).step fun k => by rw [euler_End.j0, if_neg (by simp)]; rfl) (fun k => by rw [if_pos rfl, if_neg (by omega), decide_eq_false (by omega)])

open Classical in
/-- A closed walk over all edges is taken. -/
theorem covers_true (n : Int) (E : List S45) (hR : Right n E) (d d' : Bool) (s : Int) (l : List S51) (G : Good n E d' s l) (hd : d = true → d' = true) : Evl (fun k => euler_Covers.f k n E s l d) true := by
  have m1 := hR.m1
  have glen := G.len
  have A := end_true n E hR s s l G.s0 G.s1 (by omega) G.w
  have hget : ∀ j (h : j < l.length), (l.map S51.f0)[j]'(by rw [List.length_map]; exact h) = (rd_T51 l (j : Int)).f0 := fun j h => by
    rw [List.getElem_map]
    unfold rd_T51
    rw [Int.toNat_natCast, List.getD_eq_getElem?_getD, List.getElem?_eq_getElem h]; rfl
  have mem : ∀ j, 0 ≤ j → j < (l.length : Int) → rd_T51 l j ∈ l := fun j a b => by
    unfold rd_T51; exact getD_mem l z51 j.toNat (by omega)
  have inr : ∀ t ∈ l, 0 ≤ t.f0 ∧ t.f0 < (E.length : Int) := by
    have : ∀ (m : List S51) (x y : Int), walkTo E x m y → ∀ t ∈ m, 0 ≤ t.f0 ∧ t.f0 < (E.length : Int) := by
      intro m
      induction m with
      | nil => intro x y _ t ht; simp at ht
      | cons u r ih =>
        intro x y h t ht
        obtain ⟨-, b, c, e⟩ := h
        rcases List.mem_cons.mp ht with rfl | ht
        · exact ⟨b, c⟩
        · exact ih _ _ e t ht
    exact this l s s G.w
  have ap : Apart l := fun j k j0 jk k1 e => by
    have := List.pairwise_iff_getElem.mp G.nd j.toNat k.toNat (by rw [List.length_map]; omega) (by rw [List.length_map]; omega) (by omega)
    rw [hget _ (by omega), hget _ (by omega), show ((j.toNat : Nat) : Int) = j by omega, show ((k.toNat : Nat) : Int) = k by omega] at this
    exact this e
  have nb : NoBack l d := fun h j a b => G.nb (hd h) _ (mem j a b)
  have H := cov_l0 (E.length : Int) l (by omega) d (fun j a b => inr _ (mem j a b)) l.length 0 (List.replicate E.length false) (Int.le_refl 0) (by omega) (by rw [List.length_replicate]) (fun v a b => by
    rw [rdOf_replicate _ _ _ _ a b]; exact ⟨fun h => by simp at h, fun ⟨j, x, y, _⟩ => by omega⟩) (fun j k a b c => by omega) (fun _ j a b => by omega)
  rw [decide_eq_true (⟨ap, nb⟩ : Apart l ∧ NoBack l d)] at H
  have ne : ((l.length : Int) != (E.length : Int)) = false := by rw [glen]; simp
  refine (Evl.bind A (h := fun k bt => if bt.2 = 0 then (if bt.1 = s then euler_Covers.j0 k d ((l.length : Int) != (E.length : Int)) n E s l else euler_Covers.j0 k d true n E s l) else euler_Covers.j0 k d true n E s l) ?_).congr fun k => rfl
  refine Evl.congr (h := fun k => euler_Covers.j0 k d false n E s l) (H.step fun k => ?_) (fun k => by rw [if_pos rfl, if_pos rfl, ne])
  rw [euler_Covers.j0, if_neg (by simp), if_pos (by omega), if_pos (by omega), Int.toNat_natCast]

/-! ### Degrees -/
theorem out_f (n : Int) (E : List S45) (hm : (E.length : Int) ≤ 4096) (v : Int) : ∃ L : List Int, Evl (fun k => compassref03_Out.f k n E v) L ∧ L.length = dout E v := by
  have loop : ∀ (q i : Nat) (L : List Int), i + q = E.length → L.length = po E i v → ∃ L' : List Int, Evl (fun k => compassref03_Out.l0 k v L (i : Int) n E) L' ∧ L'.length = dout E v := by
    intro q
    induction q with
    | zero =>
      intro i L hi hL
      obtain rfl : i = E.length := by omega
      exact ⟨L, Evl.here fun k => by rw [compassref03_Out.l0, if_neg (by omega)], hL⟩
    | succ q ih =>
      intro i L hi hL
      have w := w1 (i := (i : Int)) (by omega) (by omega)
      have ps := po_succ E i v
      have pl := po_le E i v
      unfold ind at ps
      by_cases e : (rd_T45 E (i : Int)).f0 = v
      · rw [if_pos e] at ps
        obtain ⟨L', H, h⟩ := ih (i + 1) (L ++ [(i : Int)]) (by omega) (by rw [List.length_append, List.length_singleton]; omega)
        refine ⟨L', H.step fun k => ?_, h⟩
        rw [compassref03_Out.l0, if_pos (by omega), if_pos (by omega), if_pos e, if_pos (by omega), w]; rfl
      · rw [if_neg e] at ps
        obtain ⟨L', H, h⟩ := ih (i + 1) L (by omega) (by omega)
        refine ⟨L', H.step fun k => ?_, h⟩
        rw [compassref03_Out.l0, if_pos (by omega), if_pos (by omega), if_neg e, w]; rfl
  obtain ⟨L, H, h⟩ := loop E.length 0 [] (by omega) (by unfold po rng; rfl)
  exact ⟨L, H.congr fun k => rfl, h⟩

/-- An edge turned about. -/
def sw (e : S45) : S45 := ⟨e.f1, e.f0, e.f2, e.f3⟩
theorem rd_sw (E : List S45) (i : Int) (h0 : 0 ≤ i) (h1 : i < (E.length : Int)) : rd_T45 (E.map sw) i = sw (rd_T45 E i) := by
  unfold rd_T45
  rw [List.getD_eq_getElem?_getD, List.getD_eq_getElem?_getD, List.getElem?_map, List.getElem?_eq_getElem (by omega)]
  rfl
theorem reverse03_f (n : Int) (E : List S45) (hm : (E.length : Int) ≤ 4096) : Evl (fun k => compassref03_Reverse.f k n E) (n, E.map sw) := by
  have loop : ∀ (q i : Nat), i + q = E.length → Evl (fun k => compassref03_Reverse.l0 k (i : Int) n E n ((E.take i).map sw)) (n, E.map sw) := by
    intro q
    induction q with
    | zero =>
      intro i hi
      obtain rfl : i = E.length := by omega
      exact Evl.here fun k => by rw [compassref03_Reverse.l0, if_neg (by omega), List.take_length]
    | succ q ih =>
      intro i hi
      have hlt : i < E.length := by omega
      have e : (E.take (i + 1)).map sw = (E.take i).map sw ++ [(⟨(rd_T45 E (i : Int)).f1, (rd_T45 E (i : Int)).f0, (rd_T45 E (i : Int)).f2, (rd_T45 E (i : Int)).f3⟩ : S45)] := by
        rw [List.take_add_one, List.map_append, List.getElem?_eq_getElem hlt]
        unfold rd_T45
        rw [Int.toNat_natCast, List.getD_eq_getElem?_getD, List.getElem?_eq_getElem hlt]
        rfl
      refine (ih (i + 1) (by omega)).step fun k => ?_
      rw [compassref03_Reverse.l0, if_pos (by omega), if_pos (by omega), if_pos (by rw [List.length_map, List.length_take]; omega), w1 (by omega) (by omega), e]; rfl
  exact (loop E.length 0 (by omega)).congr fun k => rfl

theorem degrees_f (n : Int) (E : List S45) (hm : (E.length : Int) ≤ 4096) (v : Int) : Evl (fun k => compassref09_Degrees.f k n E v) ((dout E v : Int), (din E v : Int)) := by
  obtain ⟨L, H, hL⟩ := out_f n E hm v
  have hm' : ((E.map sw).length : Int) ≤ 4096 := by rw [List.length_map]; exact hm
  obtain ⟨M, J, hM⟩ := out_f n (E.map sw) hm' v
  have e : dout (E.map sw) v = din E v := by
    unfold dout din
    rw [List.length_map]
    refine List.countP_congr fun i hi => ?_
    obtain ⟨a, b⟩ := (mem_rng _ _).mp hi
    rw [rd_sw E i a b]; rfl
  have I : Evl (fun k => compassref03_In.f k n E v) M := by
    refine (Evl.bind (reverse03_f n E hm) (h := fun k bt => (compassref03_Out.f k bt.1 bt.2 v).bind fun t => some t) ?_).congr fun k => rfl
    exact Evl.bind J (h := fun k t => some t) Evl.pure
  have D := Evl.bind H (h := fun k (s : List Int) => (compassref03_In.f k n E v).bind fun t => some ((s.length : Int), (t.length : Int))) (Evl.bind I (h := fun k t => some ((L.length : Int), (t.length : Int))) (r := ((L.length : Int), (M.length : Int))) Evl.pure)
  rw [hL, hM, e] at D
  exact D.congr fun k => rfl
end Go.Proofs.Ytplbkggdnonfbaa.G
