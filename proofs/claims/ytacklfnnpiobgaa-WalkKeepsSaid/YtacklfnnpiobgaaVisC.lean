/- What the visit computes, told by rounds; typed by hand. -/
import Derived.Test.YtacklfnnpiobgaaQ3
import Derived.Test.YtacklfnnpiobgaaQ4
import Derived.Test.YtacklfnnpiobgaaQ5
import Derived.Test.YtacklfnnpiobgaaVisB
set_option linter.unusedVariables false
set_option linter.unusedSimpArgs false
namespace Go.Proofs.Ytacklfnnpiobgaa.Q
open Go.RowKit Go.Proofs.YtacklfnnpiobgaaW.PrintWords Go.Proofs.YtacklfnnpiobgaaW.PrintLast Go.Proofs.YtacklfnnpiobgaaW.PrintMore
mutual
def walk_Visit.l0 : Nat → Int → List S41 → List (List Int) → Int → List Int → List Int → Int → List Fr → Option (List Int × List Int × Int)
  | 0, _, _, _, _, _, _, _, _ => none
  | k + 1, n, E, O, s, P, Q, c, S => if s < n then (if 0 ≤ s ∧ s < (P.length : Int) ∧ 0 ≤ c ∧ c ≤ 100000 ∧ (S.length : Int) ≤ 100000 then (if rd P s ≥ 0 then walk_Visit.l0 k n E O (s + 1) P Q c S else walk_Visit.l1 k n E O s (P.set s.toNat c) Q (c + 1) (S ++ [⟨s, 0⟩])) else none) else some (P, Q, 0)
def walk_Visit.l1 : Nat → Int → List S41 → List (List Int) → Int → List Int → List Int → Int → List Fr → Option (List Int × List Int × Int)
  | 0, _, _, _, _, _, _, _, _ => none
  | k + 1, n, E, O, s, P, Q, c, S => if (S.length : Int) > 0 then (if 0 ≤ c ∧ c ≤ 100000 ∧ (S.length : Int) ≤ 100000 then walk_Visit.l2 k n E O s P Q c S else none) else walk_Visit.l0 k n E O (s + 1) P Q c S
def walk_Visit.l2 : Nat → Int → List S41 → List (List Int) → Int → List Int → List Int → Int → List Fr → Option (List Int × List Int × Int)
  | 0, _, _, _, _, _, _, _, _ => none
  | k + 1, n, E, O, s, P, Q, c, S => if (0 ≤ (rd_Fr S ((S.length : Int) - 1)).nd ∧ (rd_Fr S ((S.length : Int) - 1)).nd < (O.length : Int) ∧ (rd_Fr S ((S.length : Int) - 1)).nd < (Q.length : Int) ∧ 0 ≤ (rd_Fr S ((S.length : Int) - 1)).nx ∧ (rd_Fr S ((S.length : Int) - 1)).nx ≤ 100000) ∧ 0 ≤ c ∧ c ≤ 100000 ∧ 0 < (S.length : Int) ∧ (S.length : Int) ≤ 100000 then
      (if (rd_Fr S ((S.length : Int) - 1)).nx < ((rd_L2 O (rd_Fr S ((S.length : Int) - 1)).nd).length : Int) then
        (if (0 ≤ rd (rd_L2 O (rd_Fr S ((S.length : Int) - 1)).nd) (rd_Fr S ((S.length : Int) - 1)).nx ∧ rd (rd_L2 O (rd_Fr S ((S.length : Int) - 1)).nd) (rd_Fr S ((S.length : Int) - 1)).nx < (E.length : Int)) ∧ 0 ≤ (rd_T41 E (rd (rd_L2 O (rd_Fr S ((S.length : Int) - 1)).nd) (rd_Fr S ((S.length : Int) - 1)).nx)).f1 ∧ (rd_T41 E (rd (rd_L2 O (rd_Fr S ((S.length : Int) - 1)).nd) (rd_Fr S ((S.length : Int) - 1)).nx)).f1 < (P.length : Int) then
          (if rd P (rd_T41 E (rd (rd_L2 O (rd_Fr S ((S.length : Int) - 1)).nd) (rd_Fr S ((S.length : Int) - 1)).nx)).f1 < 0 then
            walk_Visit.l1 k n E O s (P.set (rd_T41 E (rd (rd_L2 O (rd_Fr S ((S.length : Int) - 1)).nd) (rd_Fr S ((S.length : Int) - 1)).nx)).f1.toNat c) Q (c + 1) (S.set ((S.length : Int) - 1).toNat ⟨(rd_Fr S ((S.length : Int) - 1)).nd, (rd_Fr S ((S.length : Int) - 1)).nx + 1⟩ ++ [⟨(rd_T41 E (rd (rd_L2 O (rd_Fr S ((S.length : Int) - 1)).nd) (rd_Fr S ((S.length : Int) - 1)).nx)).f1, 0⟩])
          else walk_Visit.l2 k n E O s P Q c (S.set ((S.length : Int) - 1).toNat ⟨(rd_Fr S ((S.length : Int) - 1)).nd, (rd_Fr S ((S.length : Int) - 1)).nx + 1⟩))
        else none)
      else walk_Visit.l1 k n E O s P (Q.set (rd_Fr S ((S.length : Int) - 1)).nd.toNat c) (c + 1) (S.take (S.length - 1)))
    else none
end
def walk_Visit.f (k : Nat) (a0_0 : Int) (l0_1 : List S41) : Option (List Int × List Int × Int) := (graph_Check.f k a0_0 l0_1).bind fun bt => if bt.1 = 0 then (if 0 ≤ a0_0 ∧ a0_0 ≤ 100000 then ((walk_outs.f k a0_0 l0_1).bind fun O => ((walk_filled.f k a0_0 (-1)).bind fun P => walk_Visit.l0 k a0_0 l0_1 O 0 P P 0 [])) else none) else some (([] : List Int), ([] : List Int), bt.1)
theorem walk_Visit.mono_l : ∀ k, (∀ n E O s P Q c S, LeO (walk_Visit.l0 k n E O s P Q c S) (walk_Visit.l0 (k + 1) n E O s P Q c S)) ∧ (∀ n E O s P Q c S, LeO (walk_Visit.l1 k n E O s P Q c S) (walk_Visit.l1 (k + 1) n E O s P Q c S)) ∧ (∀ n E O s P Q c S, LeO (walk_Visit.l2 k n E O s P Q c S) (walk_Visit.l2 (k + 1) n E O s P Q c S))
  | 0 => ⟨fun _ _ _ _ _ _ _ _ r h => by simp [walk_Visit.l0] at h, fun _ _ _ _ _ _ _ _ r h => by simp [walk_Visit.l1] at h, fun _ _ _ _ _ _ _ _ r h => by simp [walk_Visit.l2] at h⟩
  | k + 1 => by
    obtain ⟨ih0, ih1, ih2⟩ := walk_Visit.mono_l k
    refine ⟨?_, ?_, ?_⟩
    · intro n E O s P Q c S
      unfold walk_Visit.l0
      refine LeO.ite (LeO.ite (LeO.ite (ih0 _ _ _ _ _ _ _ _) (ih1 _ _ _ _ _ _ _ _)) (LeO.none _)) (LeO.refl _)
    · intro n E O s P Q c S
      unfold walk_Visit.l1
      refine LeO.ite (LeO.ite (ih2 _ _ _ _ _ _ _ _) (LeO.none _)) (ih0 _ _ _ _ _ _ _ _)
    · intro n E O s P Q c S
      unfold walk_Visit.l2
      refine LeO.ite (LeO.ite (LeO.ite (LeO.ite (ih1 _ _ _ _ _ _ _ _) (ih2 _ _ _ _ _ _ _ _)) (LeO.none _)) (ih1 _ _ _ _ _ _ _ _)) (LeO.none _)
theorem walk_Visit.mono : ∀ a0 a1 k, LeO (walk_Visit.f k a0 a1) (walk_Visit.f (k + 1) a0 a1) := by
  intro a0 a1 k
  unfold walk_Visit.f
  exact LeO.bind (graph_Check.mono _ _ _) fun _ => LeO.ite (LeO.ite (LeO.bind (walk_outs.mono _ _ _) fun _ => LeO.bind (walk_filled.mono _ _ _) fun _ => (walk_Visit.mono_l k).1 _ _ _ _ _ _ _ _) (LeO.none _)) (LeO.refl _)
end Go.Proofs.Ytacklfnnpiobgaa.Q
