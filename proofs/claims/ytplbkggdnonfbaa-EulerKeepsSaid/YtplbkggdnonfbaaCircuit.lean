/- The circuit as the program goes it. -/
import Derived.Test.YtplbkggdnonfbaaQ0
import Derived.Test.YtplbkggdnonfbaaQ9
import Derived.Test.YtplbkggdnonfbaaTour
namespace Go.Proofs.Ytplbkggdnonfbaa.G
open Go.RowKit Go.Proofs.Ytplbkggdnonfbaa.Q Go.Proofs.YtplbkggdnonfbaaW.PrintWords Go.Proofs.YtplbkggdnonfbaaW.PrintLast
set_option linter.unusedVariables false

theorem rd_T51_set (l : List S51) (x : S51) (i j : Int) (h0 : 0 ≤ i) (h : i < (l.length : Int)) (hj : 0 ≤ j) : rd_T51 (l.set i.toNat x) j = if j = i then x else rd_T51 l j := by
  unfold rd_T51
  rw [getD_set l z51 x i.toNat j.toNat (by omega)]
  by_cases e : j = i
  · rw [if_pos e, if_pos (by rw [e])]
  · rw [if_neg e, if_neg (by omega)]
theorem ext_T51 (l m : List S51) (hl : l.length = m.length) (h : ∀ j : Int, 0 ≤ j → j < (l.length : Int) → rd_T51 l j = rd_T51 m j) : l = m := by
  refine ext_getD l m z51 hl fun j hj => ?_
  have := h (j : Int) (by omega) (by omega)
  unfold rd_T51 at this
  simpa using this
theorem rd_T51_rev (l : List S51) (j : Int) (h0 : 0 ≤ j) (h1 : j < (l.length : Int)) : rd_T51 l.reverse j = rd_T51 l (l.length - 1 - j) := by
  unfold rd_T51
  rw [List.getD_eq_getElem?_getD, List.getD_eq_getElem?_getD, List.getElem?_reverse (by omega)]
  congr 2
  omega

/-- Reverse: the row turned about. -/
theorem reverse_f (l : List S51) (hl : (l.length : Int) ≤ 1000000) : Evl (fun k => euler_Step.f k l) l.reverse := by
  have loop : ∀ (d : Nat) (m : List S51) (i j : Int), 0 ≤ i → i + j = (l.length : Int) - 1 → j - i + 1 ≤ d → m.length = l.length → (∀ p, 0 ≤ p → p < (l.length : Int) → rd_T51 m p = if p < i ∨ j < p then rd_T51 l (l.length - 1 - p) else rd_T51 l p) →
      Evl (fun k => euler_Step.l0 k m i j) l.reverse := by
    intro d
    induction d with
    | zero =>
      intro m i j i0 ij hd hm hp
      have : m = l.reverse := ext_T51 _ _ (by rw [List.length_reverse]; exact hm) fun p a b => by
        rw [hp p a (by omega), rd_T51_rev l p a (by omega), if_pos (by omega)]
      exact Evl.here fun k => by rw [euler_Step.l0, if_neg (by omega), this]
    | succ d ih =>
      intro m i j i0 ij hd hm hp
      by_cases h : i < j
      · have wi := w1 (i := i) (by omega) (by omega)
        have wj := wm (i := j) (by omega) (by omega)
        have pi := hp i i0 (by omega)
        have pj := hp j (by omega) (by omega)
        rw [if_neg (by omega)] at pi pj
        have h1 : ∀ p, 0 ≤ p → rd_T51 (m.set i.toNat (rd_T51 m j)) p = if p = i then rd_T51 m j else rd_T51 m p := fun p a => rd_T51_set _ _ _ _ i0 (by omega) a
        have h2 : ∀ p, 0 ≤ p → rd_T51 ((m.set i.toNat (rd_T51 m j)).set j.toNat (rd_T51 m i)) p = if p = j then rd_T51 m i else rd_T51 (m.set i.toNat (rd_T51 m j)) p := fun p a => rd_T51_set _ _ _ _ (by omega) (by rw [List.length_set]; omega) a
        refine (ih ((m.set i.toNat (rd_T51 m j)).set j.toNat (rd_T51 m i)) (i + 1) (j - 1) (by omega) (by omega) (by omega) (by rw [List.length_set, List.length_set]; exact hm) (fun p a b => ?_)).step fun k => ?_
        · rw [h2 p a, h1 p a]
          by_cases e1 : p = j
          · rw [if_pos e1, if_pos (by omega), pi, show (l.length : Int) - 1 - p = i by omega]
          · rw [if_neg e1]
            by_cases e2 : p = i
            · rw [if_pos e2, if_pos (by omega), pj, show (l.length : Int) - 1 - p = j by omega]
            · rw [if_neg e2, hp p a b]
              by_cases e3 : p < i ∨ j < p
              · rw [if_pos e3, if_pos (by omega)]
              · rw [if_neg e3, if_neg (by omega)]
        · rw [euler_Step.l0, if_pos h, if_pos (by omega), if_pos (by omega), if_pos i0, if_pos (by omega), wi, wj]
      · have : m = l.reverse := ext_T51 _ _ (by rw [List.length_reverse]; exact hm) fun p a b => by
          rw [hp p a (by omega), rd_T51_rev l p a (by omega)]
          by_cases e : p < i ∨ j < p
          · rw [if_pos e]
          · rw [if_neg e, show (l.length : Int) - 1 - p = p by omega]
        exact Evl.here fun k => by rw [euler_Step.l0, if_neg h, this]
  refine (loop l.length l 0 (l.length - 1) (Int.le_refl 0) (by omega) (by omega) rfl (fun p a b => by rw [if_neg (by omega)])).congr fun k => ?_
  rw [euler_Step.f, wm (by omega) (by omega)]

theorem rd_last (x : Int) (l : List Int) : rd (x :: l) (l.length : Int) = (x :: l).getLast (by simp) := by
  unfold rd
  rw [Int.toNat_natCast, List.getD_eq_getElem?_getD, List.getElem?_eq_getElem (by simp), List.getLast_eq_getElem]
  simp

/-- Where a walk ends. -/
theorem walk_end (E : List S45) : ∀ (T : List S51) (x y : Int), walkTo E x T y → (x :: T.map (dst E)).getLast (by simp) = y := by
  intro T
  induction T with
  | nil => intro x y h; exact h
  | cons s t ih =>
    intro x y h
    obtain ⟨-, -, -, h2⟩ := h
    have := ih _ _ h2
    rw [List.map_cons, List.getLast_cons (by simp)]; exact this

/-- From any state the program comes to a closed walk. -/
theorem circuit_run (n : Int) (E : List S45) (hR : Right n E) (d : Bool) (Y : List (List S51)) (hY : Ways n E d Y) (hB : Bal n E d) (start : Int) (μ : Nat) : ∀ (W : List (List S51)) (B : List Bool) (top z : Int) (T O : List S51), 2 * unused B + T.length = μ → Inv n E d Y W B start top z T O →
    ∃ R W', Evl (fun k => euler_circuit.l0 k W B (start :: T.map (dst E)) T O n E) (R, W') ∧ Fin n E d start R := by
  have n1 := hR.n1
  have m1 := hR.m1
  induction μ using Nat.strongRecOn with
  | _ μ ih =>
  intro W B top z T O hμ I
  -- the rounds at one node
  have inner : ∀ (q : Nat) (W : List (List S51)), (rd_L5 W top).length = q → Inv n E d Y W B start top z T O → ∃ R W', Evl (fun k => euler_circuit.l1 k W B (start :: T.map (dst E)) T O top n E) (R, W') ∧ Fin n E d start R := by
    intro q
    induction q with
    | zero =>
      intro W hq I
      have hw : rd_L5 W top = [] := List.length_eq_zero_iff.mp hq
      have wl := I.wl
      have t0 := I.t0
      have t1 := I.t1
      have lenU : ((T ++ O).map S51.f0).length ≤ E.length := by
        have := sub_len _ (rng E.length) I.nd (fun x hx => by
          obtain ⟨s, hs, rfl⟩ := List.mem_map.mp hx
          exact (mem_rng _ _).mpr ⟨(I.inr s hs).1, (I.inr s hs).2.1⟩)
        rw [len_rng] at this; exact this
      rw [List.length_map, List.length_append] at lenU
      cases hT : T with
      | nil =>
        subst hT
        have F := I.fin hR hY hB hw
        refine ⟨O.reverse, W, (Evl.bind (reverse_f O (by omega)) (h := fun k t => some (t, W)) Evl.pure).step fun k => ?_, F⟩
        rw [euler_circuit.l1, if_pos t0, if_pos (by omega), hw, if_neg (by simp), if_pos (by simp)]
      | cons s0 T0 =>
        rw [← hT]
        have hne : T ≠ [] := by rw [hT]; simp
        have hsplit := List.dropLast_concat_getLast hne
        generalize hs : T.getLast hne = s at hsplit
        generalize hT1 : T.dropLast = T1 at hsplit
        have pt := I.pt
        rw [← hsplit] at pt
        obtain ⟨y, p1, p2⟩ := walkTo_split E T1 [s] start top pt
        obtain ⟨e1, s0', s1', e2⟩ := p2
        have e2' : dst E s = top := e2
        have hz := I.stuck hR hY hB hw
        have hlen : T.length = T1.length + 1 := by rw [← hsplit]; simp
        have rdT : rd_T51 T ((T.length : Int) - 1) = s := by
          rw [← hsplit]
          unfold rd_T51
          rw [List.length_append, List.length_singleton, show (((T1.length + 1 : Nat) : Int) - 1).toNat = T1.length by omega, getD_append, if_neg (by omega), Nat.sub_self]
          rfl
        have hperm : ((T1 ++ (O ++ [s])).map S51.f0).Perm ((T ++ O).map S51.f0) := by
          refine List.Perm.map _ ?_
          rw [← hsplit, List.append_assoc]
          exact List.Perm.append_left T1 List.perm_append_comm
        have memp : ∀ t, t ∈ T1 ++ (O ++ [s]) ↔ t ∈ T ++ O := fun t => by
          rw [← hsplit]; simp only [List.mem_append, List.mem_singleton]
          constructor
          · rintro (h | h | h)
            · exact Or.inl (Or.inl h)
            · exact Or.inr h
            · exact Or.inl (Or.inr h)
          · rintro ((h | h) | h)
            · exact Or.inl h
            · exact Or.inr (Or.inr h)
            · exact Or.inr (Or.inl h)
        have hyr : 0 ≤ y ∧ y < n := by
          obtain ⟨a0, a1, b0, b1, -, -, -, -⟩ := hR.e s.f0 s0' s1'
          rw [← e1]; unfold src; split
          · exact ⟨b0, b1⟩
          · exact ⟨a0, a1⟩
        have I' : Inv n E d Y W B start y y T1 (O ++ [s]) := by
          refine ⟨I.wl, I.bl, hyr.1, hyr.2, I.wsub, I.wall, fun i a b => ?_, ?_, fun t ht => I.inr t ((memp t).mp ht), p1, ?_, fun t ht => ?_⟩
          · rw [I.used i a b]; exact hperm.symm.mem_iff
          · exact hperm.symm.nodup_iff.mp I.nd
          · rw [List.reverse_append]
            refine ⟨e1, s0', s1', ?_⟩
            rw [e2', hz]; exact I.po
          · rcases List.mem_append.mp ht with h | h
            · exact I.done t h
            · rw [List.mem_singleton] at h; rw [h, e2']; exact hw
        obtain ⟨R, W', H, F⟩ := ih (2 * unused B + T1.length) (by omega) W B y y T1 (O ++ [s]) rfl I'
        refine ⟨R, W', H.step fun k => ?_, F⟩
        have wT := wm (i := (T.length : Int)) (by omega) (by omega)
        have kl : ((start :: T.map (dst E)).length : Int) = T.length + 1 := by simp
        have wK := wm (i := (T.length : Int) + 1) (by omega) (by omega)
        have takeT : T.take ((T.length : Int) - 1).toNat = T1 := by
          rw [show ((T.length : Int) - 1).toNat = T1.length by omega, ← hsplit, List.take_left']; rfl
        have takeK : (start :: T.map (dst E)).take ((T.length : Int) + 1 - 1).toNat = start :: T1.map (dst E) := by
          rw [show ((T.length : Int) + 1 - 1).toNat = T1.length + 1 by omega, List.take_succ_cons, ← hsplit, List.map_append, List.take_left' (by rw [List.length_map])]
        rw [euler_circuit.l1, if_pos t0, if_pos (by omega), hw, if_neg (by simp), if_neg (by omega), wT, if_pos (by omega), if_pos (by omega), Option.bind_some, if_pos (by simp; omega), kl, wK, if_pos (by omega), if_pos (by omega), if_pos (by omega), takeK, takeT, rdT]
    | succ q ihq =>
      intro W hq I
      have wl := I.wl
      have bl := I.bl
      have t0 := I.t0
      have t1 := I.t1
      obtain ⟨s, rest, hs⟩ : ∃ s rest, rd_L5 W top = s :: rest := by
        cases h : rd_L5 W top with
        | nil => rw [h] at hq; simp at hq
        | cons a b => exact ⟨a, b, rfl⟩
      have hlen : (rd_L5 W top).length = rest.length + 1 := by rw [hs]; rfl
      have hsY := I.wsub top t0 t1 s (by rw [hs]; simp)
      obtain ⟨s0, s1, esrc, edir⟩ := hY.mem top t0 t1 s hsY
      have rs : ∀ v, 0 ≤ v → rd_L5 (W.set top.toNat rest) v = if v = top then rest else rd_L5 W v := fun v v0 => rd_L5_set _ _ _ _ t0 (by omega) v0
      have hd1 : (rd_L5 W top).drop 1 = rest := by rw [hs]; rfl
      have h00 : rd_T51 (rd_L5 W top) 0 = s := by rw [hs]; rfl
      have lenU : ((T ++ O).map S51.f0).length ≤ E.length := by
        have := sub_len _ (rng E.length) I.nd (fun x hx => by
          obtain ⟨s, hs, rfl⟩ := List.mem_map.mp hx
          exact (mem_rng _ _).mpr ⟨(I.inr s hs).1, (I.inr s hs).2.1⟩)
        rw [len_rng] at this; exact this
      rw [List.length_map, List.length_append] at lenU
      have dn : ∀ t ∈ O, dst E t ≠ top := fun t ht e => by
        have := I.done t ht
        rw [e, hs] at this; cases this
      obtain ⟨a0, a1, b0, b1, -, -, -, -⟩ := hR.e s.f0 s0 s1
      by_cases u : rdOf false B s.f0 = true
      · have I' : Inv n E d Y (W.set top.toNat rest) B start top z T O := by
          refine ⟨by rw [List.length_set]; exact wl, bl, t0, t1, fun v v0 v1 t ht => ?_, fun v v0 v1 t ht => ?_, I.used, I.nd, I.inr, I.pt, I.po, fun t ht => ?_⟩
          · rw [rs v v0] at ht
            split at ht
            · rename_i e; rw [e]; exact I.wsub top t0 t1 t (by rw [hs]; simp [ht])
            · exact I.wsub v v0 v1 t ht
          · rcases I.wall v v0 v1 t ht with h | h
            · rw [rs v v0]
              by_cases e : v = top
              · rw [if_pos e]
                rw [e, hs] at h
                rcases List.mem_cons.mp h with rfl | h
                · exact Or.inr u
                · exact Or.inl h
              · rw [if_neg e]; exact Or.inl h
            · exact Or.inr h
          · obtain ⟨p, r, -⟩ := I.inr t (by simp [ht])
            have hr := hR.e t.f0 p r
            rw [rs _ (by unfold dst; split; exact hr.a0; exact hr.b0), if_neg (dn t ht)]; exact I.done t ht
        obtain ⟨R, W', H, F⟩ := ihq (W.set top.toNat rest) (by rw [rs top t0, if_pos rfl]; omega) I'
        refine ⟨R, W', H.step fun k => ?_, F⟩
        rw [euler_circuit.l1, if_pos t0, if_pos (by omega), if_pos (by omega), if_pos (by omega), if_pos (by omega), Option.bind_some, h00, if_pos s0, if_pos (by omega), if_pos u, hd1]
      · have uf : rdOf false B s.f0 = false := by simpa using u
        have un := unused_set B s.f0 s0 (by omega) uf
        have rb : ∀ i, 0 ≤ i → rdOf false (B.set s.f0.toNat true) i = if i = s.f0 then true else rdOf false B i := fun i i0 => rdOf_set _ _ _ _ _ s0 (by omega) i0
        have nin : s.f0 ∉ (T ++ O).map S51.f0 := fun h => u ((I.used _ s0 s1).mpr h)
        have memU : ∀ i, i ∈ ((T ++ [s]) ++ O).map S51.f0 ↔ i ∈ (T ++ O).map S51.f0 ∨ i = s.f0 := fun i => by
          simp only [List.map_append, List.mem_append, List.map_cons, List.map_nil, List.mem_singleton]
          constructor
          · rintro ((h | h) | h)
            · exact Or.inl (Or.inl h)
            · exact Or.inr h
            · exact Or.inl (Or.inr h)
          · rintro ((h | h) | h)
            · exact Or.inl (Or.inl h)
            · exact Or.inr h
            · exact Or.inl (Or.inr h)
        have hperm : (((T ++ [s]) ++ O).map S51.f0).Perm (s.f0 :: (T ++ O).map S51.f0) := by
          rw [List.append_assoc, List.map_append, List.map_append, List.map_append]
          exact List.perm_middle
        have I' : Inv n E d Y (W.set top.toNat rest) (B.set s.f0.toNat true) start (dst E s) z (T ++ [s]) O := by
          refine ⟨by rw [List.length_set]; exact wl, by rw [List.length_set]; exact bl, by unfold dst; split; exact a0; exact b0, by unfold dst; split; exact a1; exact b1, fun v v0 v1 t ht => ?_, fun v v0 v1 t ht => ?_, fun i i0 i1 => ?_, ?_, fun t ht => ?_, ?_, I.po, fun t ht => ?_⟩
          · rw [rs v v0] at ht
            split at ht
            · rename_i e; rw [e]; exact I.wsub top t0 t1 t (by rw [hs]; simp [ht])
            · exact I.wsub v v0 v1 t ht
          · have ty := hY.mem v v0 v1 t ht
            rw [rb _ ty.1]
            rcases I.wall v v0 v1 t ht with h | h
            · rw [rs v v0]
              by_cases e : v = top
              · rw [if_pos e]
                rw [e, hs] at h
                rcases List.mem_cons.mp h with rfl | h
                · exact Or.inr (by rw [if_pos rfl])
                · exact Or.inl h
              · rw [if_neg e]; exact Or.inl h
            · exact Or.inr (by split; rfl; exact h)
          · rw [rb i i0, memU]
            by_cases e : i = s.f0
            · rw [if_pos e]; exact ⟨fun _ => Or.inr e, fun _ => rfl⟩
            · rw [if_neg e, I.used i i0 i1]; exact ⟨Or.inl, fun h => h.elim id fun q => absurd q e⟩
          · exact hperm.symm.nodup_iff.mp (List.nodup_cons.mpr ⟨nin, I.nd⟩)
          · simp only [List.mem_append, List.mem_singleton] at ht
            rcases ht with (h | h) | h
            · exact I.inr t (by simp [h])
            · rw [h]; exact ⟨s0, s1, edir⟩
            · exact I.inr t (by simp [h])
          · exact walkTo_append E T [s] start top _ I.pt ⟨esrc, s0, s1, rfl⟩
          · obtain ⟨p, r, -⟩ := I.inr t (by simp [ht])
            have hr := hR.e t.f0 p r
            rw [rs _ (by unfold dst; split; exact hr.a0; exact hr.b0), if_neg (dn t ht)]; exact I.done t ht
        obtain ⟨R, W', H, F⟩ := ih (2 * unused (B.set s.f0.toNat true) + (T ++ [s]).length) (by rw [List.length_append, List.length_singleton]; omega) _ _ _ z (T ++ [s]) O rfl I'
        refine ⟨R, W', H.step fun k => ?_, F⟩
        have eK : start :: (T ++ [s]).map (dst E) = (start :: T.map (dst E)) ++ [dst E s] := by rw [List.map_append]; rfl
        have eS : (⟨s.f0, s.f1⟩ : S51) = s := rfl
        rw [euler_circuit.l1, if_pos t0, if_pos (by omega), if_pos (by omega), if_pos (by omega), if_pos (by omega), Option.bind_some, h00, if_pos s0, if_pos (by omega), if_neg u, Option.bind_some, if_pos (by omega), hd1, eK]
        by_cases b : s.f1 = true
        · rw [if_pos b, Option.bind_some, if_pos (by simp; omega), Option.bind_some, if_pos (by simp; omega)]
          unfold dst; rw [if_pos b]
        · rw [if_neg b, Option.bind_some, if_pos (by simp; omega), Option.bind_some, if_pos (by simp; omega)]
          unfold dst; rw [if_neg b]
  obtain ⟨R, W', H, F⟩ := inner (rd_L5 W top).length W rfl I
  have lenU : ((T ++ O).map S51.f0).length ≤ E.length := by
    have := sub_len _ (rng E.length) I.nd (fun x hx => by
      obtain ⟨s, hs, rfl⟩ := List.mem_map.mp hx
      exact (mem_rng _ _).mpr ⟨(I.inr s hs).1, (I.inr s hs).2.1⟩)
    rw [len_rng] at this; exact this
  rw [List.length_map, List.length_append] at lenU
  refine ⟨R, W', H.step fun k => ?_, F⟩
  have kl : ((start :: T.map (dst E)).length : Int) = T.length + 1 := by simp
  have wK := wm (i := (T.length : Int) + 1) (by omega) (by omega)
  have top_ : rd (start :: T.map (dst E)) ((T.length : Int) + 1 - 1) = top := by
    have := rd_last start (T.map (dst E))
    rw [List.length_map] at this
    rw [show (T.length : Int) + 1 - 1 = T.length by omega, this]
    exact walk_end E T start top I.pt
  rw [euler_circuit.l0, kl, wK, if_pos (by omega), if_pos (by omega), top_]

theorem circuit_f (n : Int) (E : List S45) (hR : Right n E) (d : Bool) (Y : List (List S51)) (hY : Ways n E d Y) (hB : Bal n E d) (start : Int) (h0 : 0 ≤ start) (h1 : start < n) :
    ∃ R W', Evl (fun k => euler_circuit.f k n E start Y) (R, W') ∧ Fin n E d start R := by
  have m1 := hR.m1
  obtain ⟨R, W', H, F⟩ := circuit_run n E hR d Y hY hB start _ Y (List.replicate E.length false) start start [] [] rfl
    ⟨hY.len, by rw [List.length_replicate], h0, h1, fun v a b s hs => hs, fun v a b s hs => Or.inl hs, fun i a b => by rw [rdOf_replicate _ _ _ _ a b]; simp, by simp, fun s hs => by simp at hs, rfl, rfl, fun s hs => by simp at hs⟩
  refine ⟨R, W', H.congr fun k => ?_, F⟩
  rw [euler_circuit.f, if_pos (by omega), if_pos (by omega), Int.toNat_natCast]
  rfl
end Go.Proofs.Ytplbkggdnonfbaa.G
