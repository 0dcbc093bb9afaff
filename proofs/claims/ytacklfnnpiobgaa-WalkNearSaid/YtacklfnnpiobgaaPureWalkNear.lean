/- Along each edge the level grows by one at most, each node that is reached but the first is one edge behind a level less, and no edge leads from what is reached to what isn't: at every graph and node. -/
import Derived.Test.YtacklfnnpiobgaaQ19
import Derived.Test.YtacklfnnpiobgaaQ8
import Derived.KernelRfl
import Derived.Test.YtacklfnnpiobgaaDist
namespace Go.Proofs.Ytacklfnnpiobgaa.Pure
open Go.RowKit Go.Proofs.Ytacklfnnpiobgaa.Q Go.Proofs.Ytacklfnnpiobgaa.G Go.Proofs.YtacklfnnpiobgaaW.PrintWords Go.Proofs.YtacklfnnpiobgaaW.PrintLast
set_option linter.unusedVariables false

theorem awake_f : Evl (fun k => compasslaw04_awake.f k) true := Evl.mono (k0 := 60) (by kernel_rfl) (fun k => compasslaw04_awake.mono k)

theorem near_l1 (n : Int) (E : List S41) (hR : Right n E) (s : Int) (L : List Int) (D : Dist n E s L) (B : List Bool) (hB : (B.length : Int) = n)
    (hb : ∀ i, 0 ≤ i → i < (E.length : Int) → 0 ≤ rd L (rd_T41 E i).f0 → rd L (rd_T41 E i).f1 = rd L (rd_T41 E i).f0 + 1 → rdOf false B (rd_T41 E i).f1 = true) (m : Nat) :
    ∀ v : Int, 0 ≤ v → v + m = n → Evl (fun k => compasslaw04_WalkNear.l1 k s B L (L.length : Int) v) true := by
  have n1 := hR.n1
  have hl := D.g.len
  induction m with
  | zero => intro v v0 hv; exact Evl.here fun k => by rw [compasslaw04_WalkNear.l1, if_neg (by omega)]
  | succ m ih =>
    intro v v0 hv
    have low := D.g.low v v0 (by omega)
    refine (ih (v + 1) (by omega) (by omega)).step fun k => ?_
    rw [compasslaw04_WalkNear.l1, if_pos (by omega), if_pos v0, if_pos (by omega), if_neg (by omega), w1 (by omega) (by omega)]
    by_cases z : rd L v = 0
    · rw [if_pos z, if_pos (D.g.zero v v0 (by omega) z), if_neg (by omega)]
    · rw [if_neg z]
      by_cases p : rd L v > 0
      · obtain ⟨i, i0, i1, e, g0, g1⟩ := D.g.back v v0 (by omega) p
        have := hb i i0 i1 g0 (by rw [e]; omega)
        rw [e] at this
        rw [if_pos p, if_pos (by omega), if_pos this]
      · rw [if_neg p]

theorem near_l0 (n : Int) (E : List S41) (hR : Right n E) (s : Int) (L : List Int) (D : Dist n E s L) (m : Nat) :
    ∀ (i : Int) (B : List Bool), 0 ≤ i → i + m = (E.length : Int) → (B.length : Int) = n → (∀ j, 0 ≤ j → j < i → 0 ≤ rd L (rd_T41 E j).f0 → rd L (rd_T41 E j).f1 = rd L (rd_T41 E j).f0 + 1 → rdOf false B (rd_T41 E j).f1 = true) →
    Evl (fun k => compasslaw04_WalkNear.l0 k s L B E (E.length : Int) i) true := by
  have n1 := hR.n1
  have n0 := hR.n0
  have m1 := hR.m1
  have hl := D.g.len
  induction m with
  | zero =>
    intro i B i0 hi hB hb
    refine (near_l1 n E hR s L D B hB (fun j a b => hb j a (by omega)) n.toNat 0 (Int.le_refl 0) (by omega)).step fun k => ?_
    rw [compasslaw04_WalkNear.l0, if_neg (by omega)]
  | succ m ih =>
    intro i B i0 hi hB hb
    have i1 : i < (E.length : Int) := by omega
    obtain ⟨a0, a1, b0, b1, -, -, -, -⟩ := hR.e i i0 i1
    have w := w1 (i := i) (by omega) (by omega)
    have la := D.g.cap _ a0 a1
    have lo := D.g.low _ a0 a1
    have ng := negs_nonneg L
    have w' := w1 (i := rd L (rd_T41 E i).f0) (by omega) (by omega)
    have go : ∀ b : Bool, b = false → Evl (fun k => compasslaw04_WalkNear.j2 k s L B (rd L (rd_T41 E i).f0) (rd L (rd_T41 E i).f1) E (E.length : Int) i b (rd_T41 E i).f0 (rd_T41 E i).f1 (rd_T41 E i).f2 (rd_T41 E i).f3) true := by
      intro b hbf
      subst hbf
      by_cases p : rd L (rd_T41 E i).f0 ≥ 0
      · by_cases q : rd L (rd_T41 E i).f1 = rd L (rd_T41 E i).f0 + 1
        · refine (ih (i + 1) (B.set (rd_T41 E i).f1.toNat true) (by omega) (by omega) (by rw [List.length_set]; exact hB) (fun j j0 j1 h0 h1 => by
            rw [rdOf_set _ _ _ _ _ b0 (by omega) (hR.e j j0 (by omega)).b0]
            by_cases e : (rd_T41 E j).f1 = (rd_T41 E i).f1
            · rw [if_pos e]
            · rw [if_neg e]
              refine hb j j0 ?_ h0 h1
              by_cases e2 : j = i
              · rw [e2] at e; exact absurd rfl e
              · omega)).step fun k => ?_
          rw [compasslaw04_WalkNear.j2, if_neg (by simp), if_pos p, w', if_pos q, if_pos b0, if_pos (by omega), w]
        · refine (ih (i + 1) B (by omega) (by omega) hB (fun j j0 j1 h0 h1 => by
            by_cases e2 : j = i
            · rw [e2] at h1; exact absurd h1 q
            · exact hb j j0 (by omega) h0 h1)).step fun k => ?_
          rw [compasslaw04_WalkNear.j2, if_neg (by simp), if_pos p, w', if_neg q, w]
      · refine (ih (i + 1) B (by omega) (by omega) hB (fun j j0 j1 h0 h1 => by
          by_cases e2 : j = i
          · rw [e2] at h0; omega
          · exact hb j j0 (by omega) h0 h1)).step fun k => ?_
        rw [compasslaw04_WalkNear.j2, if_neg (by simp), if_neg p, w]
    by_cases p : rd L (rd_T41 E i).f0 ≥ 0
    · have f := D.fwd i i0 i1 p
      refine (go (decide (rd L (rd_T41 E i).f1 > wrap64 (rd L (rd_T41 E i).f0 + 1))) (decide_eq_false (by rw [w']; omega))).step fun k => ?_
      rw [compasslaw04_WalkNear.l0, if_pos i1, if_pos i0, if_pos i1, if_pos a0, if_pos (by omega), if_pos b0, if_pos (by omega), if_pos p, if_neg (by omega)]
    · refine (go false rfl).step fun k => ?_
      rw [compasslaw04_WalkNear.l0, if_pos i1, if_pos i0, if_pos i1, if_pos a0, if_pos (by omega), if_pos b0, if_pos (by omega), if_neg p]

theorem WalkNear (n : Int) (E : List S41) (s : Int) : ∃ k, compasslaw04_WalkNear.f k n E s = some true := by
  obtain ⟨L, c, H1, -, hz, hn⟩ := levels_f n E s
  refine Evl.at (r := true) (g := fun k => compasslaw04_WalkNear.f k n E s) ?_
  refine (Evl.bind awake_f (h := fun k t312 => (if t312 = true then ((walk_Levels.f k n E s).bind fun bt313 => (if bt313.2 = 0 then (if (bt313.1.length : Int) = n then (if 0 ≤ s then (if s < (bt313.1.length : Int) then (compasslaw04_WalkNear.j0 k s bt313.1 ((rd bt313.1 s) != 0) n E) else (none)) else (none)) else (compasslaw04_WalkNear.j0 k s bt313.1 true n E)) else (some ((bt313.1.length : Int) == 0)))) else (some false))) ?_).congr fun k => rfl
  refine Evl.congr (Evl.bind H1 (h := fun k bt313 => (if bt313.2 = 0 then (if (bt313.1.length : Int) = n then (if 0 ≤ s then (if s < (bt313.1.length : Int) then (compasslaw04_WalkNear.j0 k s bt313.1 ((rd bt313.1 s) != 0) n E) else (none)) else (none)) else (compasslaw04_WalkNear.j0 k s bt313.1 true n E)) else (some ((bt313.1.length : Int) == 0)))) ?_) (fun k => by rw [if_pos rfl])
  by_cases e : c = 0
  · obtain ⟨hR, s0, s1, D⟩ := hz e
    have hl := D.g.len
    have n0 := hR.n0
    have n1 := hR.n1
    have hs : (rd L s != 0) = false := by rw [D.g.src]; rfl
    have H := near_l0 n E hR s L D E.length 0 (List.replicate n.toNat false) (Int.le_refl 0) (by omega) (by rw [List.length_replicate]; omega) (fun j a b => by omega)
    refine (H.step (g := fun k => compasslaw04_WalkNear.j0 k s L false n E) fun k => ?_).congr fun k => ?_
    · rw [compasslaw04_WalkNear.j0, if_neg (by simp), if_pos n0, if_pos (by omega)]
    · show (if c = 0 then (if (L.length : Int) = n then (if 0 ≤ s then (if s < (L.length : Int) then compasslaw04_WalkNear.j0 k s L (rd L s != 0) n E else none) else none) else compasslaw04_WalkNear.j0 k s L true n E) else some ((L.length : Int) == 0)) = _
      rw [if_pos e, if_pos hl, if_pos s0, if_pos (by omega), hs]
  · refine Evl.pure.congr fun k => ?_
    show (if c = 0 then _ else _) = _
    rw [if_neg e, hn e]; rfl
end Go.Proofs.Ytacklfnnpiobgaa.Pure
