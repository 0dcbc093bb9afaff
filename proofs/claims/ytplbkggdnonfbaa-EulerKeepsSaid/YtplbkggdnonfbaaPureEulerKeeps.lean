/- What is handed in is left as it was, and answers are new memory: at every graph, directed or not. -/
import Derived.Test.YtplbkggdnonfbaaQ34
import Derived.KernelRfl
import Derived.Test.YtplbkggdnonfbaaEven
import Derived.Test.YtplbkggdnonfbaaWalks
namespace Go.Proofs.Ytplbkggdnonfbaa.Pure
open Go.RowKit Go.Proofs.Ytplbkggdnonfbaa.Q Go.Proofs.Ytplbkggdnonfbaa.G Go.Proofs.YtplbkggdnonfbaaW.PrintWords Go.Proofs.YtplbkggdnonfbaaW.PrintLast
set_option linter.unusedVariables false

theorem keeps_awake : Evl (fun k => compasslaw09_awake.f k) true := Evl.mono (k0 := 100) (by kernel_rfl) (fun k => compasslaw09_awake.mono k)
/-- The document's copy. -/
theorem copy_f (n : Int) (E : List S45) (hm : (E.length : Int) ≤ 4398046510976) : Evl (fun k => compassref03_Copy.f k n E) (n, E) := by
  have loop : ∀ (d i : Nat), i + d = E.length → Evl (fun k => compassref03_Copy.l0 k (i : Int) n E n (E.take i)) (n, E) := by
    intro d
    induction d with
    | zero =>
      intro i hi
      refine Evl.here fun k => ?_
      rw [compassref03_Copy.l0, if_neg (by omega), List.take_of_length_le (by omega)]
    | succ d ih =>
      intro i hi
      have w : wrap64 ((i : Int) + 1) = ((i + 1 : Nat) : Int) := by rw [w1 (by omega) (by omega)]; rfl
      have hlt : i < E.length := by omega
      have e : E.take (i + 1) = E.take i ++ [rd_T45 E (i : Int)] := by
        rw [List.take_succ_eq_append_getElem hlt]
        unfold rd_T45
        rw [List.getD_eq_getElem?_getD, Int.toNat_natCast, List.getElem?_eq_getElem hlt]; rfl
      have nx := ih (i + 1) (by omega)
      rw [e] at nx
      refine nx.step fun k => ?_
      rw [compassref03_Copy.l0, if_pos (by omega), if_pos (by omega), if_pos (by rw [List.length_take]; omega), w]
  exact (loop E.length 0 (by omega)).congr fun k => rfl
/-- A graph is the same as itself. -/
theorem same_f (n : Int) (E : List S45) (hm : (E.length : Int) ≤ 4398046510976) : Evl (fun k => compassref03_Same.f k n E n E) true := by
  have loop : ∀ (d i : Nat), i + d = E.length → Evl (fun k => compassref03_Same.l0 k (i : Int) n E n E) true := by
    intro d
    induction d with
    | zero =>
      intro i hi
      refine Evl.here fun k => ?_
      rw [compassref03_Same.l0, if_neg (by omega)]
    | succ d ih =>
      intro i hi
      have w : wrap64 ((i : Int) + 1) = ((i + 1 : Nat) : Int) := by rw [w1 (by omega) (by omega)]; rfl
      refine (ih (i + 1) (by omega)).step fun k => ?_
      rw [compassref03_Same.l0, if_pos (by omega), if_pos (by omega), if_pos (by omega), if_neg (by simp), w]
  refine Evl.congr (Evl.step (h := fun k => compassref03_Same.l0 k 0 n E n E) (g := fun k => compassref03_Same.j0 k false n E n E) (loop E.length 0 (by omega)) fun k => ?_) fun k => ?_
  · rw [compassref03_Same.j0, if_neg (by decide)]
  · rw [compassref03_Same.f, if_pos rfl]
    simp
/-- Rounds that are enough for both. -/
theorem Evl.both {α β : Type} {g : Nat → Option α} {h : Nat → Option β} {a : α} {b : β} (G : Evl g a) (H : Evl h b) : ∃ K, ∀ k, K ≤ k → g k = some a ∧ h k = some b := by
  obtain ⟨K, p⟩ := G
  obtain ⟨L, q⟩ := H
  exact ⟨K + L, fun k hk => ⟨p k (by omega), q k (by omega)⟩⟩
theorem EulerKeeps (n : Int) (E : List S45) (d : Bool) (hm : (E.length : Int) ≤ 4398046510976) : ∃ k, compasslaw09_EulerKeeps.f k n E d := by
  obtain ⟨st, L, v, c, T1, hc⟩ := tour_f n E d
  have hL : (L.length : Int) ≤ 1000000 ∧ (c = 0 → n ≠ 0 → Right n E ∧ Go.Proofs.Ytplbkggdnonfbaa.G.Good n E d st L) := by
    rcases hc with ⟨-, c0, -, -, rfl, -⟩ | ⟨-, rfl, rfl, -⟩ | ⟨-, rfl, rfl, -⟩ | ⟨R, rfl, -, G, -, p, -, -, -, hz⟩
    · exact ⟨by simp, fun h => absurd h c0⟩
    · exact ⟨by simp, fun h => absurd h (by decide)⟩
    · exact ⟨by simp, fun h => absurd h (by decide)⟩
    · have n0 := R.n0
      have m1 := R.m1
      refine ⟨?_, fun _ h => ⟨R, G (by omega)⟩⟩
      by_cases hn : 0 < n
      · have := (G hn).len
        omega
      · by_cases he : (E.length : Int) = 0
        · rw [hz he]; simp
        · have e := R.e 0 (Int.le_refl 0) (by omega)
          have a0 := e.a0
          have a1 := e.a1
          omega
  obtain ⟨b, B1, -⟩ := covers_f n E st L (by omega) d
  have hb : c = 0 → n ≠ 0 → b = true := fun h h' => by
    obtain ⟨R, G⟩ := hL.2 h h'
    exact B1.eq (covers_true n E R d d st L G (fun h => h))
  obtain ⟨k1, h1⟩ := Evl.both keeps_awake (copy_f n E hm)
  obtain ⟨k2, h2⟩ := Evl.both T1 B1
  obtain ⟨k3, h3⟩ := same_f n E hm
  have m1 := h1 (k1 + k2 + k3) (by omega)
  have m2 := h2 (k1 + k2 + k3) (by omega)
  have m3 := h3 (k1 + k2 + k3) (by omega)
  exact ⟨_, st, L, v, c, b, ⟨by omega, m1.1, m1.2, m2.1, m2.2, m3, hb, by omega⟩⟩
end Go.Proofs.Ytplbkggdnonfbaa.Pure
