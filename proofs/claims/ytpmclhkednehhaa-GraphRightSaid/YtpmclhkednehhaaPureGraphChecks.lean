/- Raw graphs are right, or wrong at their first wrong edge: at every graph. -/
import Derived.Test.YtpmclhkednehhaaQ40
import Derived.KernelRfl
import Derived.Test.YtpmclhkednehhaaG
namespace Go.Proofs.Ytpmclhkednehhaa.Pure
open Go.RowKit Go.Proofs.Ytpmclhkednehhaa.Q Go.Proofs.Ytpmclhkednehhaa.G Go.Proofs.YtpmclhkednehhaaW.PrintWords Go.Proofs.YtpmclhkednehhaaW.PrintLast
set_option linter.unusedVariables false

theorem reverse_f (n : Int) (E : List S39) (hm : (E.length : Int) ≤ 4398046510976) : Evl (fun k => compassref03_Reverse.f k n E) (n, E.map swp) := by
  have loop : ∀ (d i : Nat), i + d = E.length → Evl (fun k => compassref03_Reverse.l0 k (i : Int) n E n ((E.take i).map swp)) (n, E.map swp) := by
    intro d
    induction d with
    | zero =>
      intro i hi
      refine Evl.here fun k => ?_
      rw [compassref03_Reverse.l0, if_neg (by omega), List.take_of_length_le (by omega)]
    | succ d ih =>
      intro i hi
      have w : wrap64 ((i : Int) + 1) = ((i + 1 : Nat) : Int) := by rw [w1 (by omega) (by omega)]; rfl
      have e : (E.take (i + 1)).map swp = (E.take i).map swp ++ [swp (rd_T39 E (i : Int))] := by
        have hlt : i < E.length := by omega
        rw [List.take_succ_eq_append_getElem hlt, List.map_append]
        unfold rd_T39
        rw [List.getD_eq_getElem?_getD, Int.toNat_natCast, List.getElem?_eq_getElem hlt]; rfl
      have nx := ih (i + 1) (by omega)
      rw [e] at nx
      refine nx.step fun k => ?_
      rw [compassref03_Reverse.l0, if_pos (by omega), if_pos (by omega), if_pos (by rw [List.length_map, List.length_take]; omega), w]
      rfl
  exact (loop E.length 0 (by omega)).congr fun k => rfl
/-- A graph is the same as itself. -/
theorem same_f (n : Int) (E : List S39) (hm : (E.length : Int) ≤ 4398046510976) : Evl (fun k => compassref03_Same.f k n E n E) true := by
  have loop : ∀ (d i : Nat), i + d = E.length → Evl (fun k => compassref03_Same.l0 k (i : Int) n E n E) true := by
    intro d
    induction d with
    | zero =>
      intro i hi
      refine Evl.here fun k => ?_
      rw [compassref03_Same.l0, if_neg (by omega)]
    | succ d ih =>
      intro i hi
      have w : wrap64 ((i : Int) + 1) = ((i + 1 : Nat) : Int) := by rw [w1 (by omega) (by omega)]; rfl
      refine (ih (i + 1) (by omega)).step fun k => ?_
      rw [compassref03_Same.l0, if_pos (by omega), if_pos (by omega), if_pos (by omega), if_neg (by simp), w]
  refine Evl.congr (Evl.step (h := fun k => compassref03_Same.l0 k 0 n E n E) (g := fun k => compassref03_Same.j0 k false n E n E) (loop E.length 0 (by omega)) fun k => ?_) fun k => ?_
  · rw [compassref03_Same.j0, if_neg (by decide)]
  · rw [compassref03_Same.f, if_pos rfl]
    simp
/-- Rounds that are enough for both. -/
theorem Evl.both {α β : Type} {g : Nat → Option α} {h : Nat → Option β} {a : α} {b : β} (G : Evl g a) (H : Evl h b) : ∃ K, ∀ k, K ≤ k → g k = some a ∧ h k = some b := by
  obtain ⟨K, p⟩ := G
  obtain ⟨L, q⟩ := H
  exact ⟨K + L, fun k hk => ⟨p k (by omega), q k (by omega)⟩⟩

theorem GraphChecks (n : Int) (E : List S39) (hm : (E.length : Int) ≤ 4398046510976) : ∃ k, compasslaw03_GraphChecks.f k n E := by
  obtain ⟨c, a, C1, C2, hz, -, -⟩ := check_f n E
  obtain ⟨c', a', D1, -, -, -, hr⟩ := check_f 2 []
  have R2 : Right 2 [] := ⟨by decide, by decide, by decide, fun i i0 i1 => absurd i1 (by simp only [List.length_nil]; omega)⟩
  obtain rfl := hr R2
  obtain ⟨k1, h1⟩ := Evl.both C1 C2
  obtain ⟨k2, h2⟩ := Evl.both D1 (reverse_f n E hm)
  obtain ⟨k3, h3⟩ := same_f n (E.map swp) (by rw [List.length_map]; exact hm)
  have m1 := h1 (k1 + k2 + k3) (by omega)
  have m2 := h2 (k1 + k2 + k3) (by omega)
  have m3 := h3 (k1 + k2 + k3) (by omega)
  exact ⟨_, E.map swp, c, a, a', ⟨by omega, m2.1, rfl, m1.1, m1.2, fun e => (hz e).1, m2.2, by unfold graph_Reverse.f; rw [if_pos (by omega)], m3⟩⟩
end Go.Proofs.Ytpmclhkednehhaa.Pure
