/- A net that is edited and asked in any order answers as the document's list of edges does, and is that list in the end: at every graph and script. Written by genPL.py out of the chapter's other laws. -/
import Derived.Test.YtpmclhkednehhaaQ10
import Derived.Test.YtpmclhkednehhaaQ11
import Derived.Test.YtpmclhkednehhaaQ24
import Derived.Test.YtpmclhkednehhaaQ26
import Derived.Test.YtpmclhkednehhaaQ27
import Derived.Test.YtpmclhkednehhaaQ3
import Derived.Test.YtpmclhkednehhaaQ46
import Derived.KernelRfl
import Derived.Test.YtpmclhkednehhaaG
namespace Go.Proofs.Ytpmclhkednehhaa.Pure
open Go.RowKit Go.Proofs.Ytpmclhkednehhaa.Q Go.Proofs.Ytpmclhkednehhaa.G Go.Proofs.YtpmclhkednehhaaW.PrintWords Go.Proofs.YtpmclhkednehhaaW.PrintLast
set_option linter.unusedVariables false
theorem reverse_f (n : Int) (E : List S39) (hm : (E.length : Int) ≤ 4398046510976) : Evl (fun k => compassref03_Reverse.f k n E) (n, E.map swp) := by
  have loop : ∀ (d i : Nat), i + d = E.length → Evl (fun k => compassref03_Reverse.l0 k (i : Int) n E n ((E.take i).map swp)) (n, E.map swp) := by
    intro d
    induction d with
    | zero =>
      intro i hi
      refine Evl.here fun k => ?_
      rw [compassref03_Reverse.l0, if_neg (by omega), List.take_of_length_le (by omega)]
    | succ d ih =>
      intro i hi
      have w : wrap64 ((i : Int) + 1) = ((i + 1 : Nat) : Int) := by rw [w1 (by omega) (by omega)]; rfl
      have e : (E.take (i + 1)).map swp = (E.take i).map swp ++ [swp (rd_T39 E (i : Int))] := by
        have hlt : i < E.length := by omega
        rw [List.take_succ_eq_append_getElem hlt, List.map_append]
        unfold rd_T39
        rw [List.getD_eq_getElem?_getD, Int.toNat_natCast, List.getElem?_eq_getElem hlt]; rfl
      have nx := ih (i + 1) (by omega)
      rw [e] at nx
      refine nx.step fun k => ?_
      rw [compassref03_Reverse.l0, if_pos (by omega), if_pos (by omega), if_pos (by rw [List.length_map, List.length_take]; omega), w]
      rfl
  exact (loop E.length 0 (by omega)).congr fun k => rfl
/-- A graph is the same as itself. -/
theorem same_f (n : Int) (E : List S39) (hm : (E.length : Int) ≤ 4398046510976) : Evl (fun k => compassref03_Same.f k n E n E) true := by
  have loop : ∀ (d i : Nat), i + d = E.length → Evl (fun k => compassref03_Same.l0 k (i : Int) n E n E) true := by
    intro d
    induction d with
    | zero =>
      intro i hi
      refine Evl.here fun k => ?_
      rw [compassref03_Same.l0, if_neg (by omega)]
    | succ d ih =>
      intro i hi
      have w : wrap64 ((i : Int) + 1) = ((i + 1 : Nat) : Int) := by rw [w1 (by omega) (by omega)]; rfl
      refine (ih (i + 1) (by omega)).step fun k => ?_
      rw [compassref03_Same.l0, if_pos (by omega), if_pos (by omega), if_pos (by omega), if_neg (by simp), w]
  refine Evl.congr (Evl.step (h := fun k => compassref03_Same.l0 k 0 n E n E) (g := fun k => compassref03_Same.j0 k false n E n E) (loop E.length 0 (by omega)) fun k => ?_) fun k => ?_
  · rw [compassref03_Same.j0, if_neg (by decide)]
  · rw [compassref03_Same.f, if_pos rfl]
    simp
/-- Rounds that are enough for both. -/
theorem Evl.both {α β : Type} {g : Nat → Option α} {h : Nat → Option β} {a : α} {b : β} (G : Evl g a) (H : Evl h b) : ∃ K, ∀ k, K ≤ k → g k = some a ∧ h k = some b := by
  obtain ⟨K, p⟩ := G
  obtain ⟨L, q⟩ := H
  exact ⟨K + L, fun k hk => ⟨p k (by omega), q k (by omega)⟩⟩

theorem copy_f (n : Int) (E : List S39) (hm : (E.length : Int) ≤ 4398046510976) : Evl (fun k => compassref03_Copy.f k n E) (n, E) := by
  have loop : ∀ (d i : Nat), i + d = E.length → Evl (fun k => compassref03_Copy.l0 k (i : Int) n E n (E.take i)) (n, E) := by
    intro d
    induction d with
    | zero =>
      intro i hi
      refine Evl.here fun k => ?_
      rw [compassref03_Copy.l0, if_neg (by omega), List.take_of_length_le (by omega)]
    | succ d ih =>
      intro i hi
      have w : wrap64 ((i : Int) + 1) = ((i + 1 : Nat) : Int) := by rw [w1 (by omega) (by omega)]; rfl
      have hlt : i < E.length := by omega
      have e : E.take (i + 1) = E.take i ++ [rd_T39 E (i : Int)] := by
        rw [List.take_succ_eq_append_getElem hlt]
        unfold rd_T39
        rw [List.getD_eq_getElem?_getD, Int.toNat_natCast, List.getElem?_eq_getElem hlt]; rfl
      have nx := ih (i + 1) (by omega)
      rw [e] at nx
      refine nx.step fun k => ?_
      rw [compassref03_Copy.l0, if_pos (by omega), if_pos (by omega), if_pos (by rw [List.length_take]; omega), w]
  exact (loop E.length 0 (by omega)).congr fun k => rfl
theorem swp_swp (e : S39) : swp (swp e) = e := rfl
theorem map_swp (E : List S39) : (E.map swp).map swp = E := by
  rw [List.map_map]
  exact (List.map_congr_left (fun e _ => swp_swp e)).trans (List.map_id _)
theorem rd_swp (E : List S39) (i : Nat) (h : i < E.length) : rd_T39 (E.map swp) (i : Int) = swp (rd_T39 E (i : Int)) := by
  unfold rd_T39
  rw [List.getD_eq_getElem?_getD, List.getD_eq_getElem?_getD, Int.toNat_natCast, List.getElem?_map, List.getElem?_eq_getElem h]
  rfl
theorem turn_f (v : Int) (E : List S39) : outs v E = ins v (E.map swp) := by
  unfold outs ins pick
  rw [List.length_map]
  congr 1
  refine List.filter_congr fun i hi => ?_
  rw [rd_swp E i (List.mem_range.mp hi)]
  rfl
structure Rt (s : Int × List S39) : Prop where
  n0 : 0 ≤ s.1
  n1 : s.1 ≤ 1024
  len : s.2.length ≤ 4096
  e : ∀ x ∈ s.2, RightE s.1 x
theorem Rt.of {n : Int} {E : List S39} (h : Right n E) : Rt (n, E) := by
  refine ⟨h.n0, h.n1, by have := h.m1; show E.length ≤ 4096; omega, fun x hx => ?_⟩
  obtain ⟨i, hi, rfl⟩ := List.mem_iff_getElem.mp hx
  rw [← rd_nat E i hi]
  exact h.e (i : Int) (by omega) (by have : i < E.length := hi; omega)
theorem Rt.right {s : Int × List S39} (h : Rt s) : Right s.1 s.2 := by
  refine ⟨h.n0, h.n1, by have := h.len; omega, fun i i0 i1 => ?_⟩
  obtain ⟨j, rfl⟩ := Int.eq_ofNat_of_zero_le i0
  have hj : j < s.2.length := by omega
  have := h.e s.2[j] (List.getElem_mem hj)
  rw [← rd_nat s.2 j hj] at this
  exact this
theorem fit_right {n : Int} {e : S39} (h : fitE n e = 0) : RightE n e := by
  unfold fitE at h
  by_cases a : 0 ≤ e.f0 ∧ e.f0 < n ∧ 0 ≤ e.f1 ∧ e.f1 < n
  · rw [if_pos a] at h
    by_cases b : 0 ≤ e.f2 ∧ e.f2 ≤ 1048576 ∧ -1048576 ≤ e.f3 ∧ e.f3 ≤ 1048576
    · exact ⟨a.1, a.2.1, a.2.2.1, a.2.2.2, b.1, b.2.1, b.2.2.1, b.2.2.2⟩
    · rw [if_neg b] at h; exact absurd h (by decide)
  · rw [if_neg a] at h; exact absurd h (by decide)
theorem edit_right (o : S53) (s : Int × List S39) (h : Rt s) : Rt (editI o s).2 := by
  obtain ⟨n, E⟩ := s
  have n0 : 0 ≤ n := h.n0
  have n1 : n ≤ 1024 := h.n1
  have len : E.length ≤ 4096 := h.len
  have he : ∀ x ∈ E, RightE n x := h.e
  unfold editI
  by_cases h0 : o.kd = 0
  · rw [if_pos h0]
    unfold nodeI
    by_cases a : n = 1024
    · simp only [if_pos a]; exact h
    · simp only [if_neg a]
      exact ⟨by show 0 ≤ n + 1; omega, by show n + 1 ≤ 1024; omega, len, fun x hx => by have := he x hx; exact ⟨this.a0, by have := this.a1; show x.f0 < n + 1; omega, this.b0, by have := this.b1; show x.f1 < n + 1; omega, this.c0, this.c1, this.d0, this.d1⟩⟩
  · rw [if_neg h0]
    by_cases h1 : o.kd = 1
    · rw [if_pos h1]
      unfold addI
      by_cases a : E.length = 4096
      · simp only [if_pos a]; exact h
      · by_cases b : fitE n o.e = 0
        · simp only [if_neg a, if_pos b]
          refine ⟨n0, n1, by show (E ++ [o.e]).length ≤ 4096; rw [List.length_append, List.length_singleton]; omega, fun x hx => ?_⟩
          rcases List.mem_append.mp hx with hx | hx
          · exact he x hx
          · rw [List.mem_singleton.mp hx]; exact fit_right b
        · simp only [if_neg a, if_neg b]; exact h
    · rw [if_neg h1]
      by_cases h2 : o.kd = 2
      · rw [if_pos h2]
        unfold setI
        by_cases a : 0 ≤ o.pos ∧ o.pos < (E.length : Int)
        · by_cases b : fitE n o.e = 0
          · simp only [if_pos a, if_pos b]
            refine ⟨n0, n1, by show (E.set o.pos.toNat o.e).length ≤ 4096; rw [List.length_set]; exact len, fun x hx => ?_⟩
            rcases List.mem_or_eq_of_mem_set hx with hx | hx
            · exact he x hx
            · rw [hx]; exact fit_right b
          · simp only [if_pos a, if_neg b]; exact h
        · simp only [if_neg a]; exact h
      · rw [if_neg h2]
        by_cases h3 : o.kd = 3
        · rw [if_pos h3]
          unfold cutI
          by_cases a : 0 ≤ o.pos ∧ o.pos < (E.length : Int)
          · simp only [if_pos a]
            exact ⟨n0, n1, Nat.le_trans (List.length_eraseIdx_le _ _) len, fun x hx => he x (List.mem_of_mem_eraseIdx hx)⟩
          · simp only [if_neg a]; exact h
        · rw [if_neg h3]
          by_cases h4 : o.kd = 4
          · rw [if_pos h4]
            unfold cutN
            by_cases a : 0 ≤ o.pos ∧ o.pos < n
            · simp only [if_pos a]
              refine ⟨by show 0 ≤ n - 1; omega, by show n - 1 ≤ 1024; omega, ?_, fun x hx => ?_⟩
              · show ((E.filter (stays o.pos)).map (decE o.pos)).length ≤ 4096
                rw [List.length_map]
                exact Nat.le_trans (List.length_filter_le _ _) len
              · obtain ⟨y, hy, rfl⟩ := List.mem_map.mp hx
                obtain ⟨hy1, hy2⟩ := List.mem_filter.mp hy
                have r := he y hy1
                unfold stays ends at hy2
                simp only [Bool.not_eq_true', Bool.or_eq_false_iff, beq_eq_false_iff_ne] at hy2
                have a0 := r.a0
                have a1 := r.a1
                have b0 := r.b0
                have b1 := r.b1
                have k1 := hy2.1
                have k2 := hy2.2
                have d0 : ∀ z : Int, 0 ≤ z → z < n → z ≠ o.pos → 0 ≤ decv o.pos z ∧ decv o.pos z < n - 1 := fun z z0 z1 z2 => by
                  unfold decv
                  by_cases q : z > o.pos
                  · rw [if_pos q]; omega
                  · rw [if_neg q]; omega
                exact ⟨(d0 _ a0 a1 k1).1, (d0 _ a0 a1 k1).2, (d0 _ b0 b1 k2).1, (d0 _ b0 b1 k2).2, r.c0, r.c1, r.d0, r.d1⟩
            · simp only [if_neg a]; exact h
          · rw [if_neg h4]; exact h
theorem edit_keep (o : S53) (s : Int × List S39) (h : (editI o s).1 ≠ 0) : (editI o s).2 = s := by
  obtain ⟨n, E⟩ := s
  unfold editI nodeI addI setI cutI cutN at *
  by_cases h0 : o.kd = 0
  · simp only [if_pos h0] at *
    by_cases a : n = 1024
    · simp only [if_pos a]
    · simp only [if_neg a] at h; exact absurd rfl h
  · simp only [if_neg h0] at *
    by_cases h1 : o.kd = 1
    · simp only [if_pos h1] at *
      by_cases a : E.length = 4096
      · simp only [if_pos a]
      · simp only [if_neg a] at *
        by_cases b : fitE n o.e = 0
        · simp only [if_pos b] at h; exact absurd rfl h
        · simp only [if_neg b]
    · simp only [if_neg h1] at *
      by_cases h2 : o.kd = 2
      · simp only [if_pos h2] at *
        by_cases a : 0 ≤ o.pos ∧ o.pos < (E.length : Int)
        · simp only [if_pos a] at *
          by_cases b : fitE n o.e = 0
          · simp only [if_pos b] at h; exact absurd rfl h
          · simp only [if_neg b]
        · simp only [if_neg a]
      · simp only [if_neg h2] at *
        by_cases h3 : o.kd = 3
        · simp only [if_pos h3] at *
          by_cases a : 0 ≤ o.pos ∧ o.pos < (E.length : Int)
          · simp only [if_pos a] at h; exact absurd rfl h
          · simp only [if_neg a]
        · simp only [if_neg h3] at *
          by_cases h4 : o.kd = 4
          · simp only [if_pos h4] at *
            by_cases a : 0 ≤ o.pos ∧ o.pos < n
            · simp only [if_pos a] at h; exact absurd rfl h
            · simp only [if_neg a]
          · simp only [if_neg h4] at h; exact absurd rfl h
theorem st_right (S : List S53) (n : Int) (E : List S39) (h : Rt (n, E)) (i : Nat) : Rt (stI S n E i) := by
  induction i with
  | zero => exact h
  | succ i ih => exact edit_right _ _ ih
theorem fine_of (s : Int × List S39) (h : Rt s) : ∃ K, ∀ k, K ≤ k → Fine k s := by
  obtain ⟨c, a, C1, -, hz, -, hr⟩ := check_f s.1 s.2
  obtain rfl := hr h.right
  obtain rfl := (hz rfl).1
  have len := h.len
  obtain ⟨K, hK⟩ := Evl.both C1 (same_f s.1 s.2 (by omega))
  exact ⟨K, fun k hk => ⟨h.n0, h.n1, h.len, fun x hx => by have := h.e x hx; exact ⟨this.a0, this.a1, this.b0, this.b1⟩, (hK k hk).1, (hK k hk).2⟩⟩
theorem fine_all (S : List S53) (n : Int) (E : List S39) (h : Rt (n, E)) (m : Nat) : ∃ K, ∀ k, K ≤ k → ∀ i : Nat, i ≤ m → Fine k (stI S n E i) := by
  induction m with
  | zero =>
    obtain ⟨K, hK⟩ := fine_of _ (st_right S n E h 0)
    exact ⟨K, fun k hk i hi => by obtain rfl : i = 0 := by omega
                                  exact hK k hk⟩
  | succ m ih =>
    obtain ⟨K, hK⟩ := ih
    obtain ⟨L, hL⟩ := fine_of _ (st_right S n E h (m + 1))
    refine ⟨K + L, fun k hk i hi => ?_⟩
    by_cases e : i = m + 1
    · subst e; exact hL k (by omega)
    · exact hK k (by omega) i (by omega)
theorem fit_bad (n : Int) (e : S39) : badE n e = fitE n e := by
  unfold badE fitE
  by_cases h : 0 ≤ e.f0 ∧ e.f0 < n ∧ 0 ≤ e.f1 ∧ e.f1 < n
  · rw [if_pos h, if_neg (by omega)]
  · rw [if_neg h, if_pos (by omega)]
theorem askd_of (s : Int × List S39) (h : Rt s) (e : S39) : ∃ K, ∀ k, K ≤ k → Askd k s.1 s.2 e := by
  have len := h.len
  have B := bad_f s.1 e
  rw [fit_bad] at B
  obtain ⟨K1, h1⟩ := Evl.both (copy_f s.1 s.2 (by omega)) B
  obtain ⟨K2, h2⟩ := reverse_f s.1 s.2 (by omega)
  exact ⟨K1 + K2, fun k hk => ⟨(h1 k (by omega)).1, (h1 k (by omega)).2, ⟨s.2.map swp, h2 k (by omega), by rw [List.length_map]; exact len, fun v => by rw [turn_f v (s.2.map swp), map_swp]⟩⟩⟩
theorem askd_all (S : List S53) (n : Int) (E : List S39) (h : Rt (n, E)) (m : Nat) : ∃ K, ∀ k, K ≤ k → ∀ i : Nat, i < m → Askd k (stI S n E i).1 (stI S n E i).2 (rd_T53 S (i : Int)).e := by
  induction m with
  | zero => exact ⟨0, fun k hk i hi => absurd hi (Nat.not_lt_zero _)⟩
  | succ m ih =>
    obtain ⟨K, hK⟩ := ih
    obtain ⟨L, hL⟩ := askd_of _ (st_right S n E h m) (rd_T53 S (m : Int)).e
    refine ⟨K + L, fun k hk i hi => ?_⟩
    by_cases e : i = m
    · subst e; exact hL k (by omega)
    · exact hK k (by omega) i (by omega)
theorem GraphPlays (n : Int) (E : List S39) (S : List S53) (hm : (E.length : Int) ≤ 4398046510976) (hs : S.length ≤ 9223372036854775807) : ∃ k, compasslaw03_GraphPlays.f k n E S := by
  obtain ⟨c, a, C1, C2, hz, -, -⟩ := check_f n E
  obtain ⟨c', a', D1, -, -, -, hr⟩ := check_f 2 []
  have R2 : Right 2 [] := ⟨by decide, by decide, by decide, fun i i0 i1 => absurd i1 (by simp only [List.length_nil]; omega)⟩
  obtain rfl := hr R2
  obtain ⟨k1, h1⟩ := Evl.both C1 D1
  obtain ⟨k3, h3⟩ := C2
  by_cases z : c = 0
  · have R := Rt.of (hz z).2
    obtain ⟨k2, h2⟩ := fine_all S n E R S.length
    obtain ⟨k4, h4⟩ := askd_all S n E R S.length
    have m1 := h1 (k1 + k2 + k3 + k4) (by omega)
    exact ⟨k1 + k2 + k3 + k4, c, a, a', c, a, ⟨⟨by omega, by omega, m1.2, rfl, m1.1, fun e => (hz e).1, fun _ => h2 _ (by omega), fun _ i _ hne => edit_keep _ _ hne⟩, h3 _ (by omega), fun e => e, fun _ => h4 _ (by omega)⟩⟩
  · have m1 := h1 (k1 + k3) (by omega)
    exact ⟨k1 + k3, c, a, a', c, a, ⟨⟨by omega, by omega, m1.2, rfl, m1.1, fun e => absurd e z, fun e => absurd e z, fun e => absurd e z⟩, h3 _ (by omega), fun e => e, fun e => absurd e z⟩⟩
end Go.Proofs.Ytpmclhkednehhaa.Pure
