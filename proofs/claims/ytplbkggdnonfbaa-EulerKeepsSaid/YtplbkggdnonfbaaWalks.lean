/- Raw walks: where they end, and whether they take each edge once: the program and the document say the same. -/
import Derived.Test.YtplbkggdnonfbaaQ0
import Derived.Test.YtplbkggdnonfbaaQ12
import Derived.Test.YtplbkggdnonfbaaQ13
import Derived.Test.YtplbkggdnonfbaaQ21
import Derived.Test.YtplbkggdnonfbaaQ22
import Derived.Test.YtplbkggdnonfbaaQ23
import Derived.Test.YtplbkggdnonfbaaQ24
import Derived.Test.YtplbkggdnonfbaaG
namespace Go.Proofs.Ytplbkggdnonfbaa.G
open Go.RowKit Go.Proofs.Ytplbkggdnonfbaa.Q Go.Proofs.YtplbkggdnonfbaaW.PrintWords Go.Proofs.YtplbkggdnonfbaaW.PrintLast
set_option linter.unusedVariables false

theorem nodup_len (m : Nat) : ∀ l : List Int, l.Nodup → (∀ x ∈ l, 0 ≤ x ∧ x < (m : Int)) → l.length ≤ m := by
  induction m with
  | zero =>
    intro l _ h
    cases l with
    | nil => exact Nat.le_refl _
    | cons a t => have := h a (by simp); omega
  | succ m ih =>
    intro l hl h
    have := ih (l.erase (m : Int)) (hl.erase _) (fun x hx => by
      rw [hl.mem_erase_iff] at hx
      have := h x hx.2
      have := hx.1
      omega)
    rw [List.length_erase] at this
    split at this <;> omega

/-- A step as the document's. -/
def conv (s : S51) : S65 := ⟨s.f0, s.f1⟩
theorem rd_conv (l : List S51) (i : Int) (h0 : 0 ≤ i) (h1 : i < (l.length : Int)) : rd_T65 (l.map conv) i = conv (rd_T51 l i) := by
  unfold rd_T65 rd_T51
  rw [List.getD_eq_getElem?_getD, List.getD_eq_getElem?_getD, List.getElem?_map, List.getElem?_eq_getElem (by omega)]
  rfl

theorem plain_f (s : Int) (l : List S51) (hl : (l.length : Int) ≤ 8796093022208) : Evl (fun k => compasslaw09_plain.f k s l) (l.map conv) := by
  have loop : ∀ (d i : Nat), i + d = l.length → Evl (fun k => compasslaw09_plain.l0 k ((l.take i).map conv) l (l.length : Int) (i : Int)) (l.map conv) := by
    intro d
    induction d with
    | zero =>
      intro i hi
      obtain rfl : i = l.length := by omega
      exact Evl.here fun k => by rw [compasslaw09_plain.l0, if_neg (by omega), List.take_length]
    | succ d ih =>
      intro i hi
      have hlt : i < l.length := by omega
      refine (ih (i + 1) (by omega)).step fun k => ?_
      have e : (l.take (i + 1)).map conv = (l.take i).map conv ++ [(⟨(rd_T51 l (i : Int)).f0, (rd_T51 l (i : Int)).f1⟩ : S65)] := by
        rw [List.take_add_one, List.map_append, List.getElem?_eq_getElem hlt]
        unfold rd_T51
        rw [Int.toNat_natCast, List.getD_eq_getElem?_getD, List.getElem?_eq_getElem hlt]
        rfl
      rw [compasslaw09_plain.l0, if_pos (by omega), if_pos (by omega), if_pos (by omega), if_pos (by rw [List.length_map, List.length_take]; omega), w1 (by omega) (by omega), e]
      rfl
  exact (loop l.length 0 (by omega)).congr fun k => rfl

/-- Both follow a walk alike; a walk that is followed to its end takes edges that are there. -/
theorem end_l0 (n : Int) (E : List S45) (l : List S51) (hl : (l.length : Int) ≤ 8796093022208) (d : Nat) : ∀ (i x : Int), 0 ≤ i → i + d = (l.length : Int) → ∃ r : Int × Int,
    Evl (fun k => euler_End.l0 k x l (l.length : Int) i n E) r ∧ Evl (fun k => compassref09_End.l0 k (l.map conv) x i n E) r ∧
    (r.2 = 0 → ∀ j, i ≤ j → j < (l.length : Int) → 0 ≤ (rd_T51 l j).f0 ∧ (rd_T51 l j).f0 < (E.length : Int)) := by
  induction d with
  | zero =>
    intro i x i0 hi
    exact ⟨(x, 0), Evl.here fun k => by rw [euler_End.l0, if_neg (by omega)], Evl.here fun k => by rw [compassref09_End.l0, if_neg (by rw [List.length_map]; omega)], fun _ j a b => by omega⟩
  | succ d ih =>
    intro i x i0 hi
    have i1 : i < (l.length : Int) := by omega
    have w := w1 (i := i) (by omega) (by omega)
    have hm : i < ((l.map conv).length : Int) := by rw [List.length_map]; exact i1
    have rc := rd_conv l i i0 i1
    by_cases c0 : (rd_T51 l i).f0 < 0
    · refine ⟨(0, 32), ?_, ?_, fun h => by simp at h⟩
      · refine (Evl.here (r := ((0 : Int), (32 : Int))) (g := fun k => euler_End.j2 k x l (l.length : Int) i true n E (rd_T51 l i).f0 (rd_T51 l i).f1) fun k => by rw [euler_End.j2, if_pos rfl]).step fun k => ?_
        rw [euler_End.l0, if_pos i1, if_pos i0, if_pos i1, if_pos c0]
      · refine (Evl.here (r := ((0 : Int), (32 : Int))) (g := fun k => compassref09_End.j1 k (l.map conv) x i (rd_T65 (l.map conv) i).f0 true n E) fun k => by rw [compassref09_End.j1, if_pos rfl]).step fun k => ?_
        rw [compassref09_End.l0, if_pos hm, if_pos i0, if_pos (by rw [rc]; exact c0)]
    · by_cases c1 : (rd_T51 l i).f0 ≥ (E.length : Int)
      · refine ⟨(0, 32), ?_, ?_, fun h => by simp at h⟩
        · refine (Evl.here (r := ((0 : Int), (32 : Int))) (g := fun k => euler_End.j2 k x l (l.length : Int) i true n E (rd_T51 l i).f0 (rd_T51 l i).f1) fun k => by rw [euler_End.j2, if_pos rfl]).step fun k => ?_
          rw [euler_End.l0, if_pos i1, if_pos i0, if_pos i1, if_neg c0, decide_eq_true c1]
        · refine (Evl.here (r := ((0 : Int), (32 : Int))) (g := fun k => compassref09_End.j1 k (l.map conv) x i (rd_T65 (l.map conv) i).f0 true n E) fun k => by rw [compassref09_End.j1, if_pos rfl]).step fun k => ?_
          rw [compassref09_End.l0, if_pos hm, if_pos i0, if_neg (by rw [rc]; exact c0), decide_eq_true (show (rd_T65 (l.map conv) i).f0 ≥ (E.length : Int) by rw [rc]; exact c1)]
      · have g0 : 0 ≤ (rd_T51 l i).f0 := by omega
        have g1 : (rd_T51 l i).f0 < (E.length : Int) := by omega
        -- what the two come to behind the bounds
        have both : ∀ r : Int × Int, Evl (fun k => euler_End.j2 k x l (l.length : Int) i false n E (rd_T51 l i).f0 (rd_T51 l i).f1) r → Evl (fun k => compassref09_End.j1 k (l.map conv) x i (rd_T65 (l.map conv) i).f0 false n E) r →
            Evl (fun k => euler_End.l0 k x l (l.length : Int) i n E) r ∧ Evl (fun k => compassref09_End.l0 k (l.map conv) x i n E) r := fun r A B =>
          ⟨A.step fun k => by rw [euler_End.l0, if_pos i1, if_pos i0, if_pos i1, if_neg c0, decide_eq_false c1],
           B.step fun k => by rw [compassref09_End.l0, if_pos hm, if_pos i0, if_neg (by rw [rc]; exact c0), decide_eq_false (show ¬ (rd_T65 (l.map conv) i).f0 ≥ (E.length : Int) by rw [rc]; exact c1)]⟩
        have f0e : (rd_T65 (l.map conv) i).f0 = (rd_T51 l i).f0 := by rw [rc]; rfl
        have f1e : (rd_T65 (l.map conv) i).f1 = (rd_T51 l i).f1 := by rw [rc]; rfl
        by_cases bk : (rd_T51 l i).f1 = true
        · by_cases at_ : (rd_T45 E (rd_T51 l i).f0).f1 = x
          · obtain ⟨r, A, B, hr⟩ := ih (i + 1) (rd_T45 E (rd_T51 l i).f0).f0 (by omega) (by omega)
            obtain ⟨A', B'⟩ := both r (A.step fun k => by rw [euler_End.j2, if_neg (by simp), if_pos g0, if_pos g1, if_pos bk, if_pos at_, w]) (B.step fun k => by
              rw [compassref09_End.j1, if_neg (by simp), if_pos i0, if_pos hm, if_pos (by rw [f1e]; exact bk), f0e, if_pos g0, if_pos g1, if_pos at_, w])
            refine ⟨r, A', B', fun h j a b => ?_⟩
            by_cases e : j = i
            · subst e; exact ⟨g0, g1⟩
            · exact hr h j (by omega) b
          · obtain ⟨A', B'⟩ := both (0, 91) (Evl.here fun k => by rw [euler_End.j2, if_neg (by simp), if_pos g0, if_pos g1, if_pos bk, if_neg at_]) (Evl.here fun k => by
              rw [compassref09_End.j1, if_neg (by simp), if_pos i0, if_pos hm, if_pos (by rw [f1e]; exact bk), f0e, if_pos g0, if_pos g1, if_neg at_])
            exact ⟨_, A', B', fun h => by simp at h⟩
        · by_cases at_ : (rd_T45 E (rd_T51 l i).f0).f0 = x
          · obtain ⟨r, A, B, hr⟩ := ih (i + 1) (rd_T45 E (rd_T51 l i).f0).f1 (by omega) (by omega)
            obtain ⟨A', B'⟩ := both r (A.step fun k => by rw [euler_End.j2, if_neg (by simp), if_pos g0, if_pos g1, if_neg bk, if_pos at_, w]) (B.step fun k => by
              rw [compassref09_End.j1, if_neg (by simp), if_pos i0, if_pos hm, if_neg (by rw [f1e]; exact bk), f0e, if_pos g0, if_pos g1, if_pos at_, w])
            refine ⟨r, A', B', fun h j a b => ?_⟩
            by_cases e : j = i
            · subst e; exact ⟨g0, g1⟩
            · exact hr h j (by omega) b
          · obtain ⟨A', B'⟩ := both (0, 91) (Evl.here fun k => by rw [euler_End.j2, if_neg (by simp), if_pos g0, if_pos g1, if_neg bk, if_neg at_]) (Evl.here fun k => by
              rw [compassref09_End.j1, if_neg (by simp), if_pos i0, if_pos hm, if_neg (by rw [f1e]; exact bk), f0e, if_pos g0, if_pos g1, if_neg at_])
            exact ⟨_, A', B', fun h => by simp at h⟩

theorem end_f (n : Int) (E : List S45) (s : Int) (l : List S51) (hl : (l.length : Int) ≤ 8796093022208) : ∃ r : Int × Int, Evl (fun k => euler_End.f k n E s l) r ∧ Evl (fun k => compassref09_End.f k n E s (l.map conv)) r ∧
    (r.2 = 0 → Right n E ∧ ∀ j, 0 ≤ j → j < (l.length : Int) → 0 ≤ (rd_T51 l j).f0 ∧ (rd_T51 l j).f0 < (E.length : Int)) := by
  obtain ⟨c, a, C1, C2, hz, -, -⟩ := check_f n E
  have prog : ∀ r, Evl (fun k => if c = 0 then (if s < 0 then euler_End.j0 k s true n E s l else euler_End.j0 k s (decide (s ≥ n)) n E s l) else some (0, c)) r → Evl (fun k => euler_End.f k n E s l) r := fun r H =>
    (Evl.bind C1 (h := fun k bt => if bt.1 = 0 then (if s < 0 then euler_End.j0 k s true n E s l else euler_End.j0 k s (decide (s ≥ n)) n E s l) else some (0, bt.1)) H).congr fun k => rfl
  have doc : ∀ (t : Int) (r : Int × Int), Evl (fun k => compassref04_Wrong.f k n E s) t → Evl (fun k => if t = 0 then compassref09_End.l0 k (l.map conv) s 0 n E else some (0, t)) r → Evl (fun k => compassref09_End.f k n E s (l.map conv)) r := fun t r W H =>
    (Evl.bind W (h := fun k t => if t = 0 then compassref09_End.l0 k (l.map conv) s 0 n E else some (0, t)) H).congr fun k => rfl
  have wrong : ∀ t : Int, (if c = 0 then (if s < 0 then (30 : Int) else (if s ≥ n then 30 else c)) else c) = t → Evl (fun k => compassref04_Wrong.f k n E s) t := fun t e =>
    (Evl.bind C2 (h := fun k bt => if bt.1 = 0 then (if s < 0 then some 30 else if s ≥ n then some 30 else some bt.1) else some bt.1) (Evl.pure.congr fun k => by
      rw [← e]; show (if c = 0 then (if s < 0 then some 30 else if s ≥ n then some 30 else some c) else some c) = _
      split
      · split
        · rfl
        · split <;> rfl
      · rfl)).congr fun k => rfl
  have bad : Evl (fun k => euler_End.j0 k s true n E s l) (0, 30) := Evl.here fun k => by rw [euler_End.j0, if_pos rfl]
  by_cases hc : c = 0
  · by_cases h0 : s < 0
    · exact ⟨(0, 30), prog _ (bad.congr fun k => by rw [if_pos hc, if_pos h0]), doc 30 _ (wrong 30 (by rw [if_pos hc, if_pos h0])) (Evl.pure.congr fun k => by rw [if_neg (by decide)]), fun h => by simp at h⟩
    · by_cases h1 : s ≥ n
      · exact ⟨(0, 30), prog _ (bad.congr fun k => by rw [if_pos hc, if_neg h0, decide_eq_true h1]), doc 30 _ (wrong 30 (by rw [if_pos hc, if_neg h0, if_pos h1])) (Evl.pure.congr fun k => by rw [if_neg (by decide)]), fun h => by simp at h⟩
      · obtain ⟨r, A, B, hr⟩ := end_l0 n E l hl l.length 0 s (Int.le_refl 0) (by omega)
        refine ⟨r, prog _ ((A.step (g := fun k => euler_End.j0 k s false n E s l) fun k => by rw [euler_End.j0, if_neg (by simp)]).congr fun k => by rw [if_pos hc, if_neg h0, decide_eq_false h1]), doc 0 _ (wrong 0 (by rw [if_pos hc, if_neg h0, if_neg h1, hc])) (B.congr fun k => by rw [if_pos rfl]), fun h => ⟨(hz hc).2, hr h⟩⟩
  · exact ⟨(0, c), prog _ (Evl.pure.congr fun k => by rw [if_neg hc]), doc c _ (wrong c (by rw [if_neg hc])) (Evl.pure.congr fun k => by rw [if_neg hc]), fun h => absurd h hc⟩

/-- No step goes back, where none may. -/
def NoBack (l : List S51) (d : Bool) : Prop := d = true → ∀ j, 0 ≤ j → j < (l.length : Int) → (rd_T51 l j).f1 = false
/-- No edge is taken twice. -/
def Apart (l : List S51) : Prop := ∀ j k, 0 ≤ j → j < k → k < (l.length : Int) → (rd_T51 l j).f0 ≠ (rd_T51 l k).f0

open Classical in
theorem cov_l0 (m : Int) (l : List S51) (hl : (l.length : Int) ≤ 8796093022208) (d : Bool) (hr : ∀ j, 0 ≤ j → j < (l.length : Int) → 0 ≤ (rd_T51 l j).f0 ∧ (rd_T51 l j).f0 < m) (q : Nat) : ∀ (i : Int) (B : List Bool), 0 ≤ i → i + q = (l.length : Int) → (B.length : Int) = m →
    (∀ v, 0 ≤ v → v < m → (rdOf false B v = true ↔ ∃ j, 0 ≤ j ∧ j < i ∧ (rd_T51 l j).f0 = v)) → (∀ j k, 0 ≤ j → j < k → k < i → (rd_T51 l j).f0 ≠ (rd_T51 l k).f0) → (d = true → ∀ j, 0 ≤ j → j < i → (rd_T51 l j).f1 = false) →
    Evl (fun k => euler_Covers.l0 k d B l (l.length : Int) i) (decide (Apart l ∧ NoBack l d)) := by
  induction q with
  | zero =>
    intro i B i0 hi hB hb ha hn
    have : Apart l ∧ NoBack l d := ⟨fun j k a b c => ha j k a b (by omega), fun h j a b => hn h j a (by omega)⟩
    rw [decide_eq_true this]
    exact Evl.here fun k => by rw [euler_Covers.l0, if_neg (by omega)]
  | succ q ih =>
    intro i B i0 hi hB hb ha hn
    have i1 : i < (l.length : Int) := by omega
    obtain ⟨r0, r1⟩ := hr i i0 i1
    have w := w1 (i := i) (by omega) (by omega)
    by_cases s : rdOf false B (rd_T51 l i).f0 = true
    · obtain ⟨j, j0, j1, ej⟩ := (hb _ r0 r1).mp s
      have : ¬ (Apart l ∧ NoBack l d) := fun h => h.1 j i j0 j1 i1 ej
      rw [decide_eq_false this]
      exact Evl.here fun k => by rw [euler_Covers.l0, if_pos i1, if_pos i0, if_pos i1, if_pos r0, if_pos (by omega), if_pos s]
    · have go : (d = true → (rd_T51 l i).f1 = false) → Evl (fun k => euler_Covers.l0 k d (B.set (rd_T51 l i).f0.toNat true) l (l.length : Int) (i + 1)) (decide (Apart l ∧ NoBack l d)) := fun hb' =>
        ih (i + 1) _ (by omega) (by omega) (by rw [List.length_set]; exact hB) (fun v v0 v1 => by
          rw [rdOf_set _ _ _ _ _ r0 (by omega) v0]
          by_cases e : v = (rd_T51 l i).f0
          · rw [if_pos e]; exact ⟨fun _ => ⟨i, i0, by omega, e.symm⟩, fun _ => rfl⟩
          · rw [if_neg e, hb v v0 v1]
            exact ⟨fun ⟨j, a, b, c⟩ => ⟨j, a, by omega, c⟩, fun ⟨j, a, b, c⟩ => ⟨j, a, by
              by_cases q : j = i
              · rw [q] at c; exact absurd c.symm e
              · omega, c⟩⟩) (fun j k a b c => by
          by_cases e : k = i
          · rw [e]; intro h; exact s ((hb _ r0 r1).mpr ⟨j, a, by omega, h⟩)
          · exact ha j k a b (by omega)) (fun h j a b => by
          by_cases e : j = i
          · rw [e]; exact hb' h
          · exact hn h j a (by omega))
      by_cases hd : d = true
      · by_cases bk : (rd_T51 l i).f1 = true
        · have : ¬ (Apart l ∧ NoBack l d) := fun h => by have := h.2 hd i i0 i1; rw [bk] at this; cases this
          rw [decide_eq_false this]
          exact Evl.here fun k => by rw [euler_Covers.l0, if_pos i1, if_pos i0, if_pos i1, if_pos r0, if_pos (by omega), if_neg s, if_pos hd, if_pos bk]
        · exact (go fun _ => by simpa using bk).step fun k => by rw [euler_Covers.l0, if_pos i1, if_pos i0, if_pos i1, if_pos r0, if_pos (by omega), if_neg s, if_pos hd, if_neg bk, w]
      · exact (go fun h => absurd h hd).step fun k => by rw [euler_Covers.l0, if_pos i1, if_pos i0, if_pos i1, if_pos r0, if_pos (by omega), if_neg s, if_neg hd, w]

/-- How often an edge is taken. -/
def times (l : List S51) (x : Int) : Nat := (l.map S51.f0).count x
theorem take_count (l : List S51) (x : Int) (j : Nat) (h : j < l.length) : ((l.take (j + 1)).map S51.f0).count x = ((l.take j).map S51.f0).count x + if (rd_T51 l (j : Int)).f0 = x then 1 else 0 := by
  have e : rd_T51 l (j : Int) = l[j] := by
    unfold rd_T51
    rw [Int.toNat_natCast, List.getD_eq_getElem?_getD, List.getElem?_eq_getElem h]; rfl
  rw [List.take_add_one, List.map_append, List.count_append, List.getElem?_eq_getElem h, e]
  show _ + ([l[j]].map S51.f0).count x = _
  rw [List.map_cons, List.map_nil, List.count_singleton]
  congr 1
  by_cases q : l[j].f0 = x
  · rw [if_pos q, if_pos (by simpa using q)]
  · rw [if_neg q, if_neg (by simpa using q)]

theorem ref_l1 (n : Int) (E : List S45) (l : List S51) (hl : (l.length : Int) ≤ 8796093022208) (d : Bool) (x : Int) (q : Nat) : ∀ j : Nat, j + q = l.length →
    ((d = true ∧ ∃ i, (j : Int) ≤ i ∧ i < (l.length : Int) ∧ (rd_T51 l i).f1 = true) → Evl (fun k => compassref09_Covers.l1 k (l.map conv) d x (((l.take j).map S51.f0).count x : Nat) (j : Int) n E) false) ∧
    ((d = true → ∀ i, (j : Int) ≤ i → i < (l.length : Int) → (rd_T51 l i).f1 = false) → ∀ r, Evl (fun k => if (times l x : Int) = 1 then compassref09_Covers.l0 k (l.map conv) d (wrap64 (x + 1)) n E else some false) r →
      Evl (fun k => compassref09_Covers.l1 k (l.map conv) d x (((l.take j).map S51.f0).count x : Nat) (j : Int) n E) r) := by
  have hm : ((l.map conv).length : Int) = l.length := by rw [List.length_map]
  induction q with
  | zero =>
    intro j hj
    obtain rfl : j = l.length := by omega
    refine ⟨fun ⟨_, i, a, b, _⟩ => by omega, fun _ r H => H.step fun k => ?_⟩
    rw [compassref09_Covers.l1, if_neg (by omega), List.take_length]
    rfl
  | succ q ih =>
    intro j hj
    have hlt : j < l.length := by omega
    have w := w1 (i := (j : Int)) (by omega) (by omega)
    have rc := rd_conv l (j : Int) (by omega) (by omega)
    have f0e : (rd_T65 (l.map conv) (j : Int)).f0 = (rd_T51 l (j : Int)).f0 := by rw [rc]; rfl
    have f1e : (rd_T65 (l.map conv) (j : Int)).f1 = (rd_T51 l (j : Int)).f1 := by rw [rc]; rfl
    have cle : ((l.take j).map S51.f0).count x ≤ j := by
      have := List.count_le_length (a := x) (l := (l.take j).map S51.f0)
      rw [List.length_map, List.length_take] at this; omega
    have tc := take_count l x j hlt
    have wc := w1 (i := ((((l.take j).map S51.f0).count x : Nat) : Int)) (by omega) (by omega)
    obtain ⟨ih1, ih2⟩ := ih (j + 1) (by omega)
    have st : ¬ (d = true ∧ (rd_T51 l (j : Int)).f1 = true) → ∀ k, compassref09_Covers.l1 (k + 1) (l.map conv) d x (((l.take j).map S51.f0).count x : Nat) (j : Int) n E = compassref09_Covers.l1 k (l.map conv) d x (((l.take (j + 1)).map S51.f0).count x : Nat) ((j + 1 : Nat) : Int) n E := fun h k => by
      rw [compassref09_Covers.l1, if_pos (by omega), if_pos (by omega), f0e, f1e, tc]
      by_cases e : (rd_T51 l (j : Int)).f0 = x
      · rw [if_pos e, if_pos e, wc, w]
        by_cases hd : d = true
        · rw [if_pos hd, if_neg (fun b => h ⟨hd, b⟩)]; rfl
        · rw [if_neg hd]; rfl
      · rw [if_neg e, if_neg e, w]
        by_cases hd : d = true
        · rw [if_pos hd, if_neg (fun b => h ⟨hd, b⟩)]; rfl
        · rw [if_neg hd]; rfl
    constructor
    · rintro ⟨hd, i, a, b, c⟩
      by_cases bk : (rd_T51 l (j : Int)).f1 = true
      · refine Evl.here fun k => ?_
        rw [compassref09_Covers.l1, if_pos (by omega), if_pos (by omega), f0e, f1e]
        by_cases e : (rd_T51 l (j : Int)).f0 = x
        · rw [if_pos e, if_pos hd, if_pos bk]
        · rw [if_neg e, if_pos hd, if_pos bk]
      · refine (ih1 ⟨hd, i, ?_, b, c⟩).step (st fun h => bk h.2)
        have : i ≠ (j : Int) := fun e => bk (by rw [← e]; exact c)
        omega
    · intro hn r H
      refine (ih2 (fun hd i a b => hn hd i (by omega) b) r H).step (st fun h => ?_)
      have := hn h.1 (j : Int) (Int.le_refl _) (by omega)
      rw [h.2] at this; cases this

open Classical in
theorem ref_l0 (n : Int) (E : List S45) (hE : (E.length : Int) ≤ 4096) (l : List S51) (hl : (l.length : Int) ≤ 8796093022208) (d : Bool) (q : Nat) : ∀ x : Int, 0 ≤ x → x + q = (E.length : Int) → (∀ y, 0 ≤ y → y < x → times l y = 1) → (0 < x → NoBack l d) → ((E.length : Int) = 0 → NoBack l d) →
    Evl (fun k => compassref09_Covers.l0 k (l.map conv) d x n E) (decide ((∀ y, 0 ≤ y → y < (E.length : Int) → times l y = 1) ∧ NoBack l d)) := by
  induction q with
  | zero =>
    intro x x0 hx h1 h2 h3
    have : (∀ y, 0 ≤ y → y < (E.length : Int) → times l y = 1) ∧ NoBack l d := ⟨fun y a b => h1 y a (by omega), by
      by_cases z : 0 < x
      · exact h2 z
      · exact h3 (by omega)⟩
    rw [decide_eq_true this]
    exact Evl.here fun k => by rw [compassref09_Covers.l0, if_neg (by omega)]
  | succ q ih =>
    intro x x0 hx h1 h2 h3
    have x1 : x < (E.length : Int) := by omega
    obtain ⟨r1, r2⟩ := ref_l1 n E l hl d x l.length 0 (by omega)
    have st : ∀ k, compassref09_Covers.l0 (k + 1) (l.map conv) d x n E = compassref09_Covers.l1 k (l.map conv) d x (((l.take 0).map S51.f0).count x : Nat) ((0 : Nat) : Int) n E := fun k => by
      rw [compassref09_Covers.l0, if_pos x1]; rfl
    by_cases nb : NoBack l d
    · by_cases t : times l x = 1
      · have H := ih (x + 1) (by omega) (by omega) (fun y a b => by
          by_cases e : y = x
          · rw [e]; exact t
          · exact h1 y a (by omega)) (fun _ => nb) h3
        refine (r2 (fun hd i a b => nb hd i (by omega) b) _ (H.congr fun k => by rw [if_pos (by omega), w1 (by omega) (by omega)])).step st
      · have : ¬ ((∀ y, 0 ≤ y → y < (E.length : Int) → times l y = 1) ∧ NoBack l d) := fun h => t (h.1 x x0 x1)
        rw [decide_eq_false this]
        exact (r2 (fun hd i a b => nb hd i (by omega) b) _ (Evl.pure.congr fun k => by rw [if_neg (by omega)])).step st
    · have : ¬ ((∀ y, 0 ≤ y → y < (E.length : Int) → times l y = 1) ∧ NoBack l d) := fun h => nb h.2
      rw [decide_eq_false this]
      refine (r1 (Classical.byContradiction fun h => nb fun hd i a b => ?_)).step st
      by_cases bk : (rd_T51 l i).f1 = true
      · exact absurd ⟨hd, i, by omega, b, bk⟩ h
      · simpa using bk

/-- So many steps as edges, each of an edge that is there: no edge twice just if each is taken once. -/
theorem once_iff (m : Nat) (l : List S51) (hlen : l.length = m) (hr : ∀ j, 0 ≤ j → j < (l.length : Int) → 0 ≤ (rd_T51 l j).f0 ∧ (rd_T51 l j).f0 < (m : Int)) : Apart l ↔ ∀ y, 0 ≤ y → y < (m : Int) → times l y = 1 := by
  have hget : ∀ j (h : j < l.length), (l.map S51.f0)[j]'(by rw [List.length_map]; exact h) = (rd_T51 l (j : Int)).f0 := fun j h => by
    rw [List.getElem_map]
    unfold rd_T51
    rw [Int.toNat_natCast, List.getD_eq_getElem?_getD, List.getElem?_eq_getElem h]; rfl
  have hnd : Apart l ↔ (l.map S51.f0).Nodup := by
    constructor
    · intro h
      refine List.pairwise_iff_getElem.mpr fun i j hi hj hij => ?_
      rw [List.length_map] at hi hj
      rw [hget i hi, hget j hj]
      exact h i j (by omega) (by omega) (by omega)
    · intro h j k j0 jk k1 e
      have := List.pairwise_iff_getElem.mp h j.toNat k.toNat (by rw [List.length_map]; omega) (by rw [List.length_map]; omega) (by omega)
      rw [hget _ (by omega), hget _ (by omega), show ((j.toNat : Nat) : Int) = j by omega, show ((k.toNat : Nat) : Int) = k by omega] at this
      exact this e
  have hin : ∀ x ∈ l.map S51.f0, 0 ≤ x ∧ x < (m : Int) := fun x hx => by
    obtain ⟨j, hj, e⟩ := List.mem_iff_getElem.mp hx
    rw [List.length_map] at hj
    rw [← e, hget j hj]
    exact hr j (by omega) (by omega)
  rw [hnd]
  constructor
  · intro h y y0 y1
    have hmem : y ∈ l.map S51.f0 := Classical.byContradiction fun hy => by
      have := nodup_len m (y :: l.map S51.f0) (List.nodup_cons.mpr ⟨hy, h⟩) (fun x hx => by
        rcases List.mem_cons.mp hx with rfl | hx
        · exact ⟨y0, y1⟩
        · exact hin x hx)
      rw [List.length_cons, List.length_map] at this; omega
    have h1 := List.nodup_iff_count.mp h y
    have h2 := List.count_pos_iff.mpr hmem
    unfold times; omega
  · intro h
    refine List.nodup_iff_count.mpr fun y => ?_
    by_cases hy : y ∈ l.map S51.f0
    · obtain ⟨a, b⟩ := hin y hy
      have := h y a b
      unfold times at this; omega
    · rw [List.count_eq_zero.mpr hy]; omega

open Classical in
/-- Both tell the same of a walk. -/
theorem covers_f (n : Int) (E : List S45) (s : Int) (l : List S51) (hl : (l.length : Int) ≤ 8796093022208) (d : Bool) : ∃ b : Bool, Evl (fun k => euler_Covers.f k n E s l d) b ∧ Evl (fun k => compassref09_Covers.f k n E s (l.map conv) d) b := by
  obtain ⟨r, A, B, hr⟩ := end_f n E s l hl
  have hm : ((l.map conv).length : Int) = l.length := by rw [List.length_map]
  have p0 : Evl (fun k => euler_Covers.j0 k d true n E s l) false := Evl.here fun k => by rw [euler_Covers.j0, if_pos rfl]
  have q0 : Evl (fun k => compassref09_Covers.j0 k (l.map conv) d true n E) false := Evl.here fun k => by rw [compassref09_Covers.j0, if_pos rfl]
  have prog : ∀ b, Evl (fun k => if r.2 = 0 then (if r.1 = s then euler_Covers.j0 k d ((l.length : Int) != (E.length : Int)) n E s l else euler_Covers.j0 k d true n E s l) else euler_Covers.j0 k d true n E s l) b → Evl (fun k => euler_Covers.f k n E s l d) b := fun b H =>
    (Evl.bind A (h := fun k bt => if bt.2 = 0 then (if bt.1 = s then euler_Covers.j0 k d ((l.length : Int) != (E.length : Int)) n E s l else euler_Covers.j0 k d true n E s l) else euler_Covers.j0 k d true n E s l) H).congr fun k => rfl
  have doc : ∀ b, Evl (fun k => if r.2 = 0 then (if r.1 = s then compassref09_Covers.j0 k (l.map conv) d (((l.map conv).length : Int) != (E.length : Int)) n E else compassref09_Covers.j0 k (l.map conv) d true n E) else compassref09_Covers.j0 k (l.map conv) d true n E) b → Evl (fun k => compassref09_Covers.f k n E s (l.map conv) d) b := fun b H =>
    (Evl.bind B (h := fun k bt => if bt.2 = 0 then (if bt.1 = s then compassref09_Covers.j0 k (l.map conv) d (((l.map conv).length : Int) != (E.length : Int)) n E else compassref09_Covers.j0 k (l.map conv) d true n E) else compassref09_Covers.j0 k (l.map conv) d true n E) H).congr fun k => rfl
  by_cases c0 : r.2 = 0
  · by_cases c1 : r.1 = s
    · by_cases c2 : (l.length : Int) = (E.length : Int)
      · obtain ⟨hR, hin⟩ := hr c0
        have m1 := hR.m1
        have ne : ((l.length : Int) != (E.length : Int)) = false := by simpa using c2
        have H1 := cov_l0 (E.length : Int) l hl d hin l.length 0 (List.replicate E.length false) (Int.le_refl 0) (by omega) (by rw [List.length_replicate]) (fun v a b => by
          rw [rdOf_replicate _ _ _ _ a b]; exact ⟨fun h => by simp at h, fun ⟨j, x, y, _⟩ => by omega⟩) (fun j k a b c => by omega) (fun _ j a b => by omega)
        have H2 := ref_l0 n E m1 l hl d E.length 0 (Int.le_refl 0) (by omega) (fun y a b => by omega) (fun h => by omega) (fun h => fun _ j a b => by omega)
        have iff := once_iff E.length l (by omega) hin
        have same : decide (Apart l ∧ NoBack l d) = decide ((∀ y, 0 ≤ y → y < (E.length : Int) → times l y = 1) ∧ NoBack l d) := decide_eq_decide.mpr ⟨fun h => ⟨iff.mp h.1, h.2⟩, fun h => ⟨iff.mpr h.1, h.2⟩⟩
        rw [← same] at H2
        refine ⟨_, prog _ ((H1.step (g := fun k => euler_Covers.j0 k d false n E s l) fun k => ?_).congr fun k => by rw [if_pos c0, if_pos c1, ne]), doc _ ((H2.step (g := fun k => compassref09_Covers.j0 k (l.map conv) d false n E) fun k => by rw [compassref09_Covers.j0, if_neg (by simp)]).congr fun k => by rw [if_pos c0, if_pos c1, hm, ne])⟩
        rw [euler_Covers.j0, if_neg (by simp), if_pos (by omega), if_pos (by omega), Int.toNat_natCast]
      · have ne : ((l.length : Int) != (E.length : Int)) = true := by simpa using c2
        exact ⟨false, prog _ (p0.congr fun k => by rw [if_pos c0, if_pos c1, ne]), doc _ (q0.congr fun k => by rw [if_pos c0, if_pos c1, hm, ne])⟩
    · exact ⟨false, prog _ (p0.congr fun k => by rw [if_pos c0, if_neg c1]), doc _ (q0.congr fun k => by rw [if_pos c0, if_neg c1])⟩
  · exact ⟨false, prog _ (p0.congr fun k => by rw [if_neg c0]), doc _ (q0.congr fun k => by rw [if_neg c0])⟩
end Go.Proofs.Ytplbkggdnonfbaa.G
