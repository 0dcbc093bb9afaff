/- Strict and Least say what the document says: the order of the key, and the first of the least. -/
import Derived.Test.YtdkhaibibpekoaaQ6
import Derived.Test.YtdkhaibibpekoaaRank
namespace Go.Proofs.Ytdkhaibibpekoaa.Pure
open Go.RowKit Go.Flt Go.Proofs.Ytdkhaibibpekoaa.Q Go.Proofs.Ytdkhaibibpekoaa.Rank Go.Proofs.YtdkhaibibpekoaaW.PrintWords Go.Proofs.YtdkhaibibpekoaaW.PrintLast
set_option linter.unusedVariables false

theorem owf {a : Int} (h : (Lit.int .u64 a).wf = true) : 0 ≤ a ∧ a ≤ 18446744073709551615 := by
  simpa [Lit.wf, IntKind.min, IntKind.max, IntKind.signed, IntKind.bits] using h
theorem xor_max (a : Nat) (h : a < 2 ^ 64) : (2 ^ 64 - 1) ^^^ a = 2 ^ 64 - 1 - a := by
  have e : (BitVec.allOnes 64 ^^^ BitVec.ofNat 64 a).toNat = (2 ^ 64 - 1) ^^^ a := by
    rw [BitVec.toNat_xor, BitVec.toNat_allOnes, BitVec.toNat_ofNat, Nat.mod_eq_of_lt h]
  rw [← e, BitVec.allOnes_xor, BitVec.toNat_not, BitVec.toNat_ofNat, Nat.mod_eq_of_lt h]
/-- The document's key. -/
def K (a : Int) : Int := T a.toNat
theorem class_f {a : Int} (h : 0 ≤ a ∧ a ≤ 18446744073709551615) : ∃ c, compassref02_Class.f a = some c ∧ (c = 2 ↔ nan a.toNat = true) := by
  unfold compassref02_Class.f
  have hn := nan_iff a.toNat
  unfold rg at hn
  rw [Int.tmod_eq_emod_of_nonneg (by omega), Int.tmod_eq_emod_of_nonneg h.1]
  split
  · split
    · refine ⟨1, rfl, ?_⟩; rw [hn]; omega
    · refine ⟨2, rfl, ?_⟩; rw [hn]; omega
  · refine ⟨0, rfl, ?_⟩; rw [hn]; omega
theorem turned_f {a : Int} (h : 0 ≤ a ∧ a ≤ 18446744073709551615) : ∃ z, compassref02_turned.f a = some z ∧ (nan a.toNat = false → z = K a) := by
  unfold compassref02_turned.f
  split
  · rename_i c
    refine ⟨_, rfl, fun hn => ?_⟩
    rw [u64_xor _ _ (by decide) (by decide) h.1 (by omega)]
    have e := xor_max a.toNat (by omega)
    unfold K T
    rw [hn, if_neg (by decide), if_pos (by unfold ng; rw [beq_iff_eq]; omega)]
    rw [show (18446744073709551615 : Int).toNat = 2 ^ 64 - 1 from rfl, e]
    unfold rg; omega
  · rename_i c
    refine ⟨_, rfl, fun hn => ?_⟩
    unfold K T
    rw [hn, if_neg (by decide), if_neg (by unfold ng; rw [beq_iff_eq]; omega)]
    have : IntKind.u64.wrap (a + 9223372036854775808) = (a + 9223372036854775808) % 18446744073709551616 := by simp [IntKind.wrap, IntKind.bits, IntKind.signed]
    rw [this]
    unfold rg; omega
theorem rstrict_f {a b : Int} (ha : 0 ≤ a ∧ a ≤ 18446744073709551615) (hb : 0 ≤ b ∧ b ≤ 18446744073709551615) (k : Nat) : compassref02_Strict.f (k + 2) a b = some (cm (K a) (K b)) := by
  obtain ⟨x, ex, hx⟩ := turned_f ha
  obtain ⟨y, ey, hy⟩ := turned_f hb
  obtain ⟨c, ec, hc⟩ := class_f ha
  obtain ⟨d, ed, hd⟩ := class_f hb
  have key : compassref02_Strict.j0 (k + 2) b (K a) y = some (cm (K a) (K b)) := by
    have fin : compassref02_Strict.j1 (k + 1) (K a) (K b) = some (cm (K a) (K b)) := by
      rw [compassref02_Strict.j1]; unfold cm
      split
      · rfl
      · split <;> rfl
    rw [compassref02_Strict.j0, ed, Option.bind_some]
    by_cases hh : d = 2
    · have hKb : K b = 18446744073709551615 := T_nan (hd.mp hh)
      rw [if_pos hh, ← hKb]; exact fin
    · have hnb : nan b.toNat = false := by cases h : nan b.toNat with | true => exact absurd (hd.mpr h) hh | false => rfl
      rw [if_neg hh, hy hnb]; exact fin
  unfold compassref02_Strict.f
  rw [ex, Option.bind_some, ey, Option.bind_some, ec, Option.bind_some]
  by_cases hh : c = 2
  · have hKa : K a = 18446744073709551615 := T_nan (hc.mp hh)
    rw [if_pos hh, ← hKa]; exact key
  · have hna : nan a.toNat = false := by cases h : nan a.toNat with | true => exact absurd (hc.mpr h) hh | false => rfl
    rw [if_neg hh, hx hna]; exact key
theorem wrap_succ (i n : Nat) (hi : i < n) (hn : n ≤ 17592186044416) : wrap64 ((i : Int) + 1) = ((i + 1 : Nat) : Int) := by unfold wrap64; omega
theorem rd_nat (l : List Int) (i : Nat) : rd l (i : Int) = l.getD i 0 := by simp [rd]
theorem rdOf_map (l : List Int) (i : Nat) : rdOf (0 : Nat) (l.map Int.toNat) (i : Int) = (l.getD i 0).toNat := by
  simp only [rdOf, Int.toNat_natCast, List.getD_eq_getElem?_getD, List.getElem?_map]
  cases l[i]? <;> rfl
theorem floats_l0 (l : List Int) (hl : l.length ≤ 17592186044415) : ∀ (d i k : Nat), i + d = l.length → d < k →
    compasslaw02_floats.l0 k ((l.take i).map Int.toNat) l (l.length : Int) (i : Int) = some (l.map Int.toNat) := by
  intro d
  induction d with
  | zero =>
    intro i k hi hk
    obtain ⟨k, rfl⟩ : ∃ m, k = m + 1 := ⟨k - 1, by omega⟩
    rw [compasslaw02_floats.l0, if_neg (by omega), List.take_of_length_le (by omega)]
  | succ d ih =>
    intro i k hi hk
    obtain ⟨k, rfl⟩ : ∃ m, k = m + 1 := ⟨k - 1, by omega⟩
    have hlt : i < l.length := by omega
    have e : (l.take i).map Int.toNat ++ [(l.getD i 0).toNat] = (l.take (i + 1)).map Int.toNat := by
      rw [List.take_add_one, List.map_append, List.getD_eq_getElem?_getD, List.getElem?_eq_getElem hlt]; rfl
    rw [compasslaw02_floats.l0, if_pos (by omega), if_pos (by omega), if_pos (by omega), if_pos (by rw [List.length_map, List.length_take]; omega), rd_nat, e, wrap_succ i l.length hlt (by omega)]
    exact ih (i + 1) k (by omega) (by omega)
/-- What Least knows behind i labels. -/
def Best (l : List Int) (i : Nat) (b : Int) : Prop :=
  (b = -1 ∧ ∀ j, j < i → nan (l.getD j 0).toNat = true) ∨
  ∃ p : Nat, b = p ∧ p < i ∧ nan (l.getD p 0).toNat = false ∧ (∀ j, j < i → K (l.getD p 0) ≤ K (l.getD j 0)) ∧ ∀ j, j < p → K (l.getD p 0) < K (l.getD j 0)
theorem K_num {a : Int} (h : nan a.toNat = false) : K a < 18446744073709551615 := by
  unfold K; rcases T_num h with ⟨_, t⟩ | ⟨_, t⟩ <;> omega
theorem K_nan {a : Int} (h : nan a.toNat = true) : K a = 18446744073709551615 := T_nan h
theorem least_l0 (l : List Int) (hl : l.length ≤ 17592186044415) (hw : ∀ j, 0 ≤ l.getD j 0 ∧ l.getD j 0 ≤ 18446744073709551615) : ∀ (d i k : Nat) (b : Int), i + d = l.length → d + 3 < k → Best l i b →
    ∃ r, scale_Least.l0 k (l.map Int.toNat) b (l.map Int.toNat) (l.length : Int) (i : Int) = some (if r < 0 then (0, 4) else (r, 0)) ∧ Best l l.length r := by
  intro d
  induction d with
  | zero =>
    intro i k b hi hk hb
    obtain ⟨k, rfl⟩ : ∃ m, k = m + 1 := ⟨k - 1, by omega⟩
    refine ⟨b, ?_, by have : i = l.length := by omega
                      rw [← this]; exact hb⟩
    rw [scale_Least.l0, if_neg (by omega)]
    split <;> rfl
  | succ d ih =>
    intro i k b hi hk hb
    obtain ⟨k, rfl⟩ : ∃ m, k = m + 2 := ⟨k - 2, by omega⟩
    have hlt : i < l.length := by omega
    have hwi := hw i
    have gi : (l.getD i 0).toNat < 18446744073709551616 := by omega
    have nx : ∀ b', Best l (i + 1) b' → ∃ r, scale_Least.l0 (k + 1) (l.map Int.toNat) b' (l.map Int.toNat) (l.length : Int) (((i + 1 : Nat)) : Int) = some (if r < 0 then (0, 4) else (r, 0)) ∧ Best l l.length r := fun b' h => ih (i + 1) (k + 1) b' (by omega) (by omega) h
    rw [scale_Least.l0, if_pos (by omega), if_pos (by omega), if_pos (by rw [List.length_map]; omega), rdOf_map, isnan_f, Option.bind_some, wrap_succ i l.length hlt (by omega)]
    cases hn : nan (l.getD i 0).toNat with
    | true =>
      rw [if_pos rfl]
      refine nx b ?_
      rcases hb with ⟨h1, h2⟩ | ⟨p, h1, h2, h3, h4, h5⟩
      · refine .inl ⟨h1, fun j hj => ?_⟩
        by_cases c : j = i
        · rw [c]; exact hn
        · exact h2 j (by omega)
      · refine .inr ⟨p, h1, by omega, h3, fun j hj => ?_, h5⟩
        by_cases c : j = i
        · rw [c, K_nan hn]; have := K_num h3; omega
        · exact h4 j (by omega)
    | false =>
      rw [if_neg (by decide)]
      rcases hb with ⟨h1, h2⟩ | ⟨p, h1, h2, h3, h4, h5⟩
      · rw [if_pos (by omega)]
        refine nx _ (.inr ⟨i, rfl, by omega, hn, fun j hj => ?_, fun j hj => ?_⟩)
        · by_cases c : j = i
          · rw [c]; exact Int.le_refl _
          · rw [K_nan (h2 j (by omega))]; have := K_num hn; omega
        · rw [K_nan (h2 j hj)]; exact K_num hn
      · have hwp := hw p
        have gp : (l.getD p 0).toNat < 18446744073709551616 := by omega
        subst h1
        rw [if_neg (by omega), if_pos (by omega), if_pos (by rw [List.length_map]; omega), rdOf_map, strict_f gi gp, Option.bind_some]
        by_cases c : K (l.getD i 0) < K (l.getD p 0)
        · rw [if_pos (by unfold cm; rw [if_pos (show T _ < T _ from c)]; decide)]
          refine nx _ (.inr ⟨i, rfl, by omega, hn, fun j hj => ?_, fun j hj => ?_⟩)
          · by_cases c2 : j = i
            · rw [c2]; exact Int.le_refl _
            · have := h4 j (by omega); omega
          · have := h4 j (by omega); omega
        · rw [if_neg (by unfold cm; rw [if_neg (show ¬ (T _ < T _) from c)]; split <;> decide)]
          refine nx _ (.inr ⟨p, rfl, by omega, h3, fun j hj => ?_, h5⟩)
          by_cases c2 : j = i
          · rw [c2]; omega
          · exact h4 j (by omega)
theorem rleast_l1 (l : List Int) (hl : l.length ≤ 17592186044415) (hw : ∀ j, 0 ≤ l.getD j 0 ∧ l.getD j 0 ≤ 18446744073709551615) (i : Nat) (hi : i < l.length) : ∀ (d q k : Nat) (f : Bool), q + d = l.length → d + 3 < k →
    ∃ f', compassref02_Least.l1 k l (i : Int) f (q : Int) = (if f' = true then some ((i : Int), 0) else compassref02_Least.l0 (k - d - 1) l (((i + 1 : Nat)) : Int)) ∧ (f' = true ↔ f = true ∧ ∀ j, q ≤ j → j < l.length → ¬ (K (l.getD j 0) < K (l.getD i 0))) := by
  intro d
  induction d with
  | zero =>
    intro q k f hq hk
    obtain ⟨k, rfl⟩ : ∃ m, k = m + 1 := ⟨k - 1, by omega⟩
    refine ⟨f, ?_, ⟨fun h => ⟨h, fun j h1 h2 => by omega⟩, fun h => h.1⟩⟩
    rw [compassref02_Least.l1, if_neg (by omega), wrap_succ i l.length hi (by omega)]; rfl
  | succ d ih =>
    intro q k f hq hk
    obtain ⟨k, rfl⟩ : ∃ m, k = m + 3 := ⟨k - 3, by omega⟩
    have e : ∀ f1, ∃ f', compassref02_Least.l1 (k + 2) l (i : Int) f1 (((q + 1 : Nat)) : Int) = (if f' = true then some ((i : Int), 0) else compassref02_Least.l0 (k + 3 - (d + 1) - 1) l (((i + 1 : Nat)) : Int)) ∧ (f' = true ↔ f1 = true ∧ ∀ j, q + 1 ≤ j → j < l.length → ¬ (K (l.getD j 0) < K (l.getD i 0))) := fun f1 => by
      have := ih (q + 1) (k + 2) f1 (by omega) (by omega)
      rw [show k + 2 - d - 1 = k + 3 - (d + 1) - 1 from by omega] at this
      exact this
    rw [compassref02_Least.l1, if_pos (by omega), if_pos (by omega), if_pos (by omega), if_pos (by omega), rd_nat, rd_nat, rstrict_f (hw q) (hw i), Option.bind_some, wrap_succ q l.length (by omega) (by omega)]
    by_cases c : K (l.getD q 0) < K (l.getD i 0)
    · rw [if_pos (by unfold cm; rw [if_pos c]; decide)]
      obtain ⟨f', h1, h2⟩ := e false
      refine ⟨f', h1, ⟨fun h => absurd (h2.mp h).1 (by decide), fun h => absurd c (h.2 q (Nat.le_refl _) (by omega))⟩⟩
    · rw [if_neg (by unfold cm; rw [if_neg c]; split <;> decide)]
      obtain ⟨f', h1, h2⟩ := e f
      refine ⟨f', h1, h2.trans ⟨fun h => ⟨h.1, fun j h3 h4 => ?_⟩, fun h => ⟨h.1, fun j h3 h4 => h.2 j (by omega) h4⟩⟩⟩
      by_cases c2 : j = q
      · rw [c2]; exact c
      · exact h.2 j (by omega) h4
theorem rleast_l0 (l : List Int) (hl : l.length ≤ 17592186044415) (hw : ∀ j, 0 ≤ l.getD j 0 ∧ l.getD j 0 ≤ 18446744073709551615) (r : Int) (hr : Best l l.length r) : ∀ (d i k : Nat), i + d = l.length → d * (l.length + 3) + 5 < k → (∀ j, j < i → (j : Int) ≠ r) →
    compassref02_Least.l0 k l (i : Int) = some (if r < 0 then (0, 4) else (r, 0)) := by
  intro d
  induction d with
  | zero =>
    intro i k hi hk hj
    obtain ⟨k, rfl⟩ : ∃ m, k = m + 1 := ⟨k - 1, by omega⟩
    rw [compassref02_Least.l0, if_neg (by omega)]
    rcases hr with ⟨h1, h2⟩ | ⟨p, h1, h2, _⟩
    · rw [if_pos (by omega)]
    · exact absurd h1.symm (hj p (by omega))
  | succ d ih =>
    intro i k hi hk hj
    obtain ⟨k, rfl⟩ : ∃ m, k = m + 1 := ⟨k - 1, by omega⟩
    have hlt : i < l.length := by omega
    obtain ⟨c, ec, hc⟩ := class_f (hw i)
    rw [Nat.succ_mul] at hk
    rw [compassref02_Least.l0, if_pos (by omega), if_pos (by omega), rd_nat, ec, Option.bind_some]
    obtain ⟨f', h1, h2⟩ := rleast_l1 l hl hw i hlt l.length 0 k (c != 2) (by omega) (by omega)
    have h1' : compassref02_Least.l1 k l (i : Int) (c != 2) 0 = (if f' = true then some ((i : Int), 0) else compassref02_Least.l0 (k - l.length - 1) l (((i + 1 : Nat)) : Int)) := h1
    rw [h1']
    have hf : f' = true ↔ (i : Int) = r := by
      rw [h2, bne_iff_ne, ne_eq, hc]
      rcases hr with ⟨g1, g2⟩ | ⟨p, g1, g2, g3, g4, g5⟩
      · constructor
        · intro h; exact absurd (g2 i hlt) h.1
        · intro h; omega
      · constructor
        · intro h
          rcases Nat.lt_trichotomy i p with q | q | q
          · exact absurd (g5 i q) (h.2 p (Nat.zero_le _) g2)
          · omega
          · exact absurd g1.symm (hj p q)
        · intro h
          obtain rfl : i = p := by omega
          exact ⟨by rw [g3]; decide, fun j _ hj2 => by have := g4 j hj2; omega⟩
    cases hf' : f' with
    | true =>
      have := hf.mp hf'
      rw [if_pos rfl, if_neg (by omega), this]
    | false =>
      rw [if_neg (by decide)]
      refine ih (i + 1) _ (by omega) (by omega) (fun j hj2 => ?_)
      by_cases c2 : j = i
      · rw [c2]; intro h; rw [hf.mpr h] at hf'; exact absurd hf' (by decide)
      · exact hj j (by omega)
theorem ScaleOrders : compasslaw02_ScaleOrders.Pure := by
  intro a b l wa wb _ hl hw
  have hl' : l.length ≤ 17592186044415 := by omega
  have hwj : ∀ j, 0 ≤ l.getD j 0 ∧ l.getD j 0 ≤ 18446744073709551615 := by
    intro j
    rw [List.getD_eq_getElem?_getD]
    rcases Nat.lt_or_ge j l.length with h | h
    · rw [List.getElem?_eq_getElem h]; exact owf (hw _ (List.getElem_mem h))
    · rw [List.getElem?_eq_none h]; decide
  refine ⟨l.length * (l.length + 3) + l.length + 20 + 1, ?_⟩
  generalize hk : l.length * (l.length + 3) + l.length + 20 = k
  obtain ⟨r, e1, hb⟩ := least_l0 l hl' hwj l.length 0 k (-1) (by omega) (by omega) (.inl ⟨rfl, fun j hj => by omega⟩)
  have e2 := rleast_l0 l hl' hwj r hb l.length 0 k (by omega) (by omega) (fun j hj => by omega)
  have e0 := floats_l0 l hl' l.length 0 k (by omega) (by omega)
  have f0 : compasslaw02_floats.f k l = some (l.map Int.toNat) := e0
  have f1 : scale_Least.f k (l.map Int.toNat) = some (if r < 0 then (0, 4) else (r, 0)) := by
    unfold scale_Least.f; rw [List.length_map]; exact e1
  have f2 : compassref02_Least.f k l = some (if r < 0 then (0, 4) else (r, 0)) := e2
  have wa' := owf wa
  have wb' := owf wb
  obtain ⟨k', rfl⟩ : ∃ m, k = m + 2 := ⟨k - 2, by omega⟩
  unfold compasslaw02_ScaleOrders.f
  rw [strict_f (by decide) (by decide) (k' + 2), Option.bind_some, show cm (T 4607182418800017408) (T 4611686018427387904) = -1 from by decide, if_pos rfl, copysign_f, Option.bind_some, strict_f (by decide) (by decide) (k' + 2), Option.bind_some,
    show (cm (T 9223372036854775808) (T 0) != -1) = false from by decide,
    compasslaw02_ScaleOrders.j0, if_neg (by decide), f0, Option.bind_some, f1, Option.bind_some, f2, Option.bind_some, strict_f (by omega) (by omega) (k' + 1), Option.bind_some, rstrict_f wa' wb' k', Option.bind_some]
  rw [if_pos (show cm (T a.toNat) (T b.toNat) = cm (K a) (K b) from rfl), if_pos rfl, beq_self_eq_true]
end Go.Proofs.Ytdkhaibibpekoaa.Pure
