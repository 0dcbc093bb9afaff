/- What is handed in is left as it was and not kept, and answers are new memory: at every graph. -/
import Derived.Test.YtpmclhkednehhaaQ43
import Derived.KernelRfl
import Derived.Test.YtpmclhkednehhaaPureGraphChecks
namespace Go.Proofs.Ytpmclhkednehhaa.Pure
open Go.RowKit Go.Proofs.Ytpmclhkednehhaa.Q Go.Proofs.Ytpmclhkednehhaa.G Go.Proofs.YtpmclhkednehhaaW.PrintWords Go.Proofs.YtpmclhkednehhaaW.PrintLast
set_option linter.unusedVariables false
/-- The document's copy. -/
theorem copy_f (n : Int) (E : List S39) (hm : (E.length : Int) ≤ 4398046510976) : Evl (fun k => compassref03_Copy.f k n E) (n, E) := by
  have loop : ∀ (d i : Nat), i + d = E.length → Evl (fun k => compassref03_Copy.l0 k (i : Int) n E n (E.take i)) (n, E) := by
    intro d
    induction d with
    | zero =>
      intro i hi
      refine Evl.here fun k => ?_
      rw [compassref03_Copy.l0, if_neg (by omega), List.take_of_length_le (by omega)]
    | succ d ih =>
      intro i hi
      have w : wrap64 ((i : Int) + 1) = ((i + 1 : Nat) : Int) := by rw [w1 (by omega) (by omega)]; rfl
      have hlt : i < E.length := by omega
      have e : E.take (i + 1) = E.take i ++ [rd_T39 E (i : Int)] := by
        rw [List.take_succ_eq_append_getElem hlt]
        unfold rd_T39
        rw [List.getD_eq_getElem?_getD, Int.toNat_natCast, List.getElem?_eq_getElem hlt]; rfl
      have nx := ih (i + 1) (by omega)
      rw [e] at nx
      refine nx.step fun k => ?_
      rw [compassref03_Copy.l0, if_pos (by omega), if_pos (by omega), if_pos (by rw [List.length_take]; omega), w]
  exact (loop E.length 0 (by omega)).congr fun k => rfl
theorem GraphKeeps (n : Int) (E : List S39) (hm : (E.length : Int) ≤ 4398046510976) : ∃ k, compasslaw03_GraphKeeps.f k n E := by
  obtain ⟨c, a, C1, -, hz, -, -⟩ := check_f n E
  obtain ⟨c', a', D1, -, -, -, hr⟩ := check_f 2 []
  have R2 : Right 2 [] := ⟨by decide, by decide, by decide, fun i i0 i1 => absurd i1 (by simp only [List.length_nil]; omega)⟩
  obtain rfl := hr R2
  obtain ⟨k1, h1⟩ := Evl.both C1 (copy_f n E hm)
  obtain ⟨k2, h2⟩ := Evl.both D1 (reverse_f n E hm)
  obtain ⟨k3, h3⟩ := Evl.both (same_f n E hm) (same_f n (E.map swp) (by rw [List.length_map]; exact hm))
  have m1 := h1 (k1 + k2 + k3) (by omega)
  have m2 := h2 (k1 + k2 + k3) (by omega)
  have m3 := h3 (k1 + k2 + k3) (by omega)
  exact ⟨_, E.map swp, c, a, a', ⟨by omega, m2.1, rfl, m1.2, m1.1, fun e => (hz e).1, fun e => by have := (hz e).2.m1; omega, by unfold graph_Reverse.f; rw [if_pos (by omega)], m2.2, m3.1, m3.2⟩⟩
end Go.Proofs.Ytpmclhkednehhaa.Pure
