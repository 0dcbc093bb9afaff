-- PRINTED by print.py (a twelfth state) out of the translation. Not trusted: Lean checks it.
import Derived.Test.YtacklfnnpiobgaaQ0
import Derived.Test.YtacklfnnpiobgaaQ4
import Derived.Test.YtacklfnnpiobgaaQ5
import Derived.Test.YtacklfnnpiobgaaQ16
import Derived.Test.YtacklfnnpiobgaaVisD
import Derived.Test.YtacklfnnpiobgaaRev
namespace Go.Proofs.Ytacklfnnpiobgaa.Q
open Go.RowKit Go.Proofs.YtacklfnnpiobgaaW.PrintWords Go.Proofs.YtacklfnnpiobgaaW.PrintLast Go.Proofs.YtacklfnnpiobgaaW.PrintMore
attribute [local go_sem] max2_int min2_int max_two min_two max_three min_three max_four min_four   -- for this text's walks alone
set_option linter.unusedVariables false
set_option linter.unusedSimpArgs false

/-! ### walk_Strong: function 21 -/
mutual
def walk_Strong.l0 : Nat → List Int → List Int → Int → Int → Int → List (S41) → Option (List Int × Int)
  | 0, _, _, _, _, _, _ => none
  | k + 1, x7, x33, x34, x35, x338000, x338001 => if x35 < x34 then (if 0 ≤ x35 then (if x35 < (x33.length : Int) then (if 0 ≤ (rd x33 x35) then (if (rd x33 x35) < (x7.length : Int) then (walk_Strong.l0 k (x7.set ((rd x33 x35) : Int).toNat (wrap64 (x35 + 1))) x33 x34 (wrap64 (x35 + 1)) x338000 x338001) else (none)) else (none)) else (none)) else (none)) else ((graph_Reverse.f k x338000 x338001).bind fun bt350 => ((walk_outs.f k bt350.1 bt350.2).bind fun t355 => ((walk_filled.f k x338000 (-1)).bind fun t358 => (walk_Strong.l1 k x7 t355 t358 (wrap64 ((x7.length : Int) - 1)) bt350.1 bt350.2))))
def walk_Strong.l1 : Nat → List Int → List (List Int) → List Int → Int → Int → List (S41) → Option (List Int × Int)
  | 0, _, _, _, _, _, _ => none
  | k + 1, x7, x11, x12, x13, x355000, x355001 => if x13 ≥ 0 then (if 0 ≤ x13 then (if x13 < (x7.length : Int) then (if (wrap64 ((rd x7 x13) - 1)) < 0 then (walk_Strong.j2 k x7 x11 x12 x13 (wrap64 ((rd x7 x13) - 1)) true x355000 x355001) else (if 0 ≤ (wrap64 ((rd x7 x13) - 1)) then (if (wrap64 ((rd x7 x13) - 1)) < (x12.length : Int) then (walk_Strong.j2 k x7 x11 x12 x13 (wrap64 ((rd x7 x13) - 1)) (decide ((rd x12 (wrap64 ((rd x7 x13) - 1))) ≥ 0)) x355000 x355001) else (none)) else (none))) else (none)) else (none)) else ((walk_numbered.f k x12).bind fun t361 => (some (t361, 0)))
def walk_Strong.j2 : Nat → List Int → List (List Int) → List Int → Int → Int → Bool → Int → List (S41) → Option (List Int × Int)
  | 0, _, _, _, _, _, _, _, _ => none
  | k + 1, x7, x11, x12, x13, x14, x73, x355000, x355001 => if x73 = true then (walk_Strong.l1 k x7 x11 x12 (wrap64 (x13 - 1)) x355000 x355001) else (if 0 ≤ x14 then (if x14 < (x12.length : Int) then (walk_Strong.l2 k x7 x11 (x12.set (x14 : Int).toNat x14) x13 x14 (([x14] : List Int)) x355000 x355001) else (none)) else (none))
def walk_Strong.l2 : Nat → List Int → List (List Int) → List Int → Int → Int → List Int → Int → List (S41) → Option (List Int × Int)
  | 0, _, _, _, _, _, _, _, _ => none
  | k + 1, x7, x11, x12, x13, x14, x15, x355000, x355001 => if (x15.length : Int) > 0 then (if 0 ≤ (wrap64 ((x15.length : Int) - 1)) then (if (wrap64 ((x15.length : Int) - 1)) < (x15.length : Int) then (if (wrap64 ((x15.length : Int) - 1)) ≤ (x15.length : Int) then (if 0 ≤ (rd x15 (wrap64 ((x15.length : Int) - 1))) then (if (rd x15 (wrap64 ((x15.length : Int) - 1))) < (x11.length : Int) then (walk_Strong.l3 k x7 x11 x12 x13 x14 (x15.take ((wrap64 ((x15.length : Int) - 1)) : Int).toNat) (rd_L2 x11 (rd x15 (wrap64 ((x15.length : Int) - 1)))) ((rd_L2 x11 (rd x15 (wrap64 ((x15.length : Int) - 1)))).length : Int) 0 x355000 x355001) else (none)) else (none)) else (none)) else (none)) else (none)) else (walk_Strong.l1 k x7 x11 x12 (wrap64 (x13 - 1)) x355000 x355001)
def walk_Strong.l3 : Nat → List Int → List (List Int) → List Int → Int → Int → List Int → List Int → Int → Int → Int → List (S41) → Option (List Int × Int)
  | 0, _, _, _, _, _, _, _, _, _, _, _ => none
  | k + 1, x7, x11, x12, x13, x14, x15, x97, x98, x99, x355000, x355001 => if x99 < x98 then (if 0 ≤ x99 then (if x99 < (x97.length : Int) then (if 0 ≤ (rd x97 x99) then (if (rd x97 x99) < (x355001.length : Int) then (if 0 ≤ ((rd_T41 x355001 (rd x97 x99)).f1) then (if ((rd_T41 x355001 (rd x97 x99)).f1) < (x12.length : Int) then (if (rd x12 ((rd_T41 x355001 (rd x97 x99)).f1)) < 0 then (if x15.length < 17592186044416 then (walk_Strong.l3 k x7 x11 (x12.set (((rd_T41 x355001 (rd x97 x99)).f1) : Int).toNat x14) x13 x14 (x15 ++ [(rd_T41 x355001 (rd x97 x99)).f1]) x97 x98 (wrap64 (x99 + 1)) x355000 x355001) else (none)) else (walk_Strong.l3 k x7 x11 x12 x13 x14 x15 x97 x98 (wrap64 (x99 + 1)) x355000 x355001)) else (none)) else (none)) else (none)) else (none)) else (none)) else (none)) else (walk_Strong.l2 k x7 x11 x12 x13 x14 x15 x355000 x355001)
end
def walk_Strong.f (k : Nat) (a0_0 : Int) (l0_1 : List (S41)) : Option (List Int × Int) := (walk_Visit.f k a0_0 l0_1).bind fun bt338 => (if bt338.2.2 = 0 then (if 0 ≤ (wrap64 (2 * a0_0)) then (if (wrap64 (2 * a0_0) : Int).toNat ≤ 35184372088832 then (walk_Strong.l0 k (List.replicate (wrap64 (2 * a0_0) : Int).toNat 0) bt338.2.1 (bt338.2.1.length : Int) 0 a0_0 l0_1) else (none)) else (none)) else (some (([] : List Int), bt338.2.2)))
theorem walk_Strong.mono_l : ∀ k, (∀ y0 y1 y2 y3 y4 y5, LeO (walk_Strong.l0 k y0 y1 y2 y3 y4 y5) (walk_Strong.l0 (k + 1) y0 y1 y2 y3 y4 y5)) ∧ (∀ y0 y1 y2 y3 y4 y5, LeO (walk_Strong.l1 k y0 y1 y2 y3 y4 y5) (walk_Strong.l1 (k + 1) y0 y1 y2 y3 y4 y5)) ∧ (∀ y0 y1 y2 y3 y4 y5 y6 y7, LeO (walk_Strong.j2 k y0 y1 y2 y3 y4 y5 y6 y7) (walk_Strong.j2 (k + 1) y0 y1 y2 y3 y4 y5 y6 y7)) ∧ (∀ y0 y1 y2 y3 y4 y5 y6 y7, LeO (walk_Strong.l2 k y0 y1 y2 y3 y4 y5 y6 y7) (walk_Strong.l2 (k + 1) y0 y1 y2 y3 y4 y5 y6 y7)) ∧ (∀ y0 y1 y2 y3 y4 y5 y6 y7 y8 y9 y10, LeO (walk_Strong.l3 k y0 y1 y2 y3 y4 y5 y6 y7 y8 y9 y10) (walk_Strong.l3 (k + 1) y0 y1 y2 y3 y4 y5 y6 y7 y8 y9 y10))
  | 0 => ⟨fun _ _ _ _ _ _ r h => by simp [walk_Strong.l0] at h, fun _ _ _ _ _ _ r h => by simp [walk_Strong.l1] at h, fun _ _ _ _ _ _ _ _ r h => by simp [walk_Strong.j2] at h, fun _ _ _ _ _ _ _ _ r h => by simp [walk_Strong.l2] at h, fun _ _ _ _ _ _ _ _ _ _ _ r h => by simp [walk_Strong.l3] at h⟩
  | k + 1 => by
    obtain ⟨ih0, ih1, ih2, ih3, ih4⟩ := walk_Strong.mono_l k
    refine ⟨?_, ?_, ?_, ?_, ?_⟩
    · intro y0 y1 y2 y3 y4 y5
      unfold walk_Strong.l0
      repeat' first
      | (with_reducible exact ih0 _ _ _ _ _ _)
      | (with_reducible exact ih1 _ _ _ _ _ _)
      | (with_reducible exact ih2 _ _ _ _ _ _ _ _)
      | (with_reducible exact ih3 _ _ _ _ _ _ _ _)
      | (with_reducible exact ih4 _ _ _ _ _ _ _ _ _ _ _)
      | (with_reducible exact graph_Reverse.mono _ _ _)
      | (with_reducible exact walk_Visit.mono _ _ _)
      | (with_reducible exact walk_filled.mono _ _ _)
      | (with_reducible exact walk_numbered.mono _ _)
      | (with_reducible exact walk_outs.mono _ _ _)
      | (with_reducible exact LeO.refl _)
      | (with_reducible exact LeO.none _)
      | (with_reducible refine LeO.ite ?_ ?_)
      | (with_reducible refine LeO.bind ?_ (fun _ => ?_))
      | exact ih0 _ _ _ _ _ _
      | exact ih1 _ _ _ _ _ _
      | exact ih2 _ _ _ _ _ _ _ _
      | exact ih3 _ _ _ _ _ _ _ _
      | exact ih4 _ _ _ _ _ _ _ _ _ _ _
      | exact graph_Reverse.mono _ _ _
      | exact walk_Visit.mono _ _ _
      | exact walk_filled.mono _ _ _
      | exact walk_numbered.mono _ _
      | exact walk_outs.mono _ _ _
      | exact LeO.none _
      | refine LeO.ite ?_ ?_
      | refine LeO.bind ?_ (fun _ => ?_)
    · intro y0 y1 y2 y3 y4 y5
      unfold walk_Strong.l1
      repeat' first
      | (with_reducible exact ih0 _ _ _ _ _ _)
      | (with_reducible exact ih1 _ _ _ _ _ _)
      | (with_reducible exact ih2 _ _ _ _ _ _ _ _)
      | (with_reducible exact ih3 _ _ _ _ _ _ _ _)
      | (with_reducible exact ih4 _ _ _ _ _ _ _ _ _ _ _)
      | (with_reducible exact graph_Reverse.mono _ _ _)
      | (with_reducible exact walk_Visit.mono _ _ _)
      | (with_reducible exact walk_filled.mono _ _ _)
      | (with_reducible exact walk_numbered.mono _ _)
      | (with_reducible exact walk_outs.mono _ _ _)
      | (with_reducible exact LeO.refl _)
      | (with_reducible exact LeO.none _)
      | (with_reducible refine LeO.ite ?_ ?_)
      | (with_reducible refine LeO.bind ?_ (fun _ => ?_))
      | exact ih0 _ _ _ _ _ _
      | exact ih1 _ _ _ _ _ _
      | exact ih2 _ _ _ _ _ _ _ _
      | exact ih3 _ _ _ _ _ _ _ _
      | exact ih4 _ _ _ _ _ _ _ _ _ _ _
      | exact graph_Reverse.mono _ _ _
      | exact walk_Visit.mono _ _ _
      | exact walk_filled.mono _ _ _
      | exact walk_numbered.mono _ _
      | exact walk_outs.mono _ _ _
      | exact LeO.none _
      | refine LeO.ite ?_ ?_
      | refine LeO.bind ?_ (fun _ => ?_)
    · intro y0 y1 y2 y3 y4 y5 y6 y7
      unfold walk_Strong.j2
      repeat' first
      | (with_reducible exact ih0 _ _ _ _ _ _)
      | (with_reducible exact ih1 _ _ _ _ _ _)
      | (with_reducible exact ih2 _ _ _ _ _ _ _ _)
      | (with_reducible exact ih3 _ _ _ _ _ _ _ _)
      | (with_reducible exact ih4 _ _ _ _ _ _ _ _ _ _ _)
      | (with_reducible exact graph_Reverse.mono _ _ _)
      | (with_reducible exact walk_Visit.mono _ _ _)
      | (with_reducible exact walk_filled.mono _ _ _)
      | (with_reducible exact walk_numbered.mono _ _)
      | (with_reducible exact walk_outs.mono _ _ _)
      | (with_reducible exact LeO.refl _)
      | (with_reducible exact LeO.none _)
      | (with_reducible refine LeO.ite ?_ ?_)
      | (with_reducible refine LeO.bind ?_ (fun _ => ?_))
      | exact ih0 _ _ _ _ _ _
      | exact ih1 _ _ _ _ _ _
      | exact ih2 _ _ _ _ _ _ _ _
      | exact ih3 _ _ _ _ _ _ _ _
      | exact ih4 _ _ _ _ _ _ _ _ _ _ _
      | exact graph_Reverse.mono _ _ _
      | exact walk_Visit.mono _ _ _
      | exact walk_filled.mono _ _ _
      | exact walk_numbered.mono _ _
      | exact walk_outs.mono _ _ _
      | exact LeO.none _
      | refine LeO.ite ?_ ?_
      | refine LeO.bind ?_ (fun _ => ?_)
    · intro y0 y1 y2 y3 y4 y5 y6 y7
      unfold walk_Strong.l2
      repeat' first
      | (with_reducible exact ih0 _ _ _ _ _ _)
      | (with_reducible exact ih1 _ _ _ _ _ _)
      | (with_reducible exact ih2 _ _ _ _ _ _ _ _)
      | (with_reducible exact ih3 _ _ _ _ _ _ _ _)
      | (with_reducible exact ih4 _ _ _ _ _ _ _ _ _ _ _)
      | (with_reducible exact graph_Reverse.mono _ _ _)
      | (with_reducible exact walk_Visit.mono _ _ _)
      | (with_reducible exact walk_filled.mono _ _ _)
      | (with_reducible exact walk_numbered.mono _ _)
      | (with_reducible exact walk_outs.mono _ _ _)
      | (with_reducible exact LeO.refl _)
      | (with_reducible exact LeO.none _)
      | (with_reducible refine LeO.ite ?_ ?_)
      | (with_reducible refine LeO.bind ?_ (fun _ => ?_))
      | exact ih0 _ _ _ _ _ _
      | exact ih1 _ _ _ _ _ _
      | exact ih2 _ _ _ _ _ _ _ _
      | exact ih3 _ _ _ _ _ _ _ _
      | exact ih4 _ _ _ _ _ _ _ _ _ _ _
      | exact graph_Reverse.mono _ _ _
      | exact walk_Visit.mono _ _ _
      | exact walk_filled.mono _ _ _
      | exact walk_numbered.mono _ _
      | exact walk_outs.mono _ _ _
      | exact LeO.none _
      | refine LeO.ite ?_ ?_
      | refine LeO.bind ?_ (fun _ => ?_)
    · intro y0 y1 y2 y3 y4 y5 y6 y7 y8 y9 y10
      unfold walk_Strong.l3
      repeat' first
      | (with_reducible exact ih0 _ _ _ _ _ _)
      | (with_reducible exact ih1 _ _ _ _ _ _)
      | (with_reducible exact ih2 _ _ _ _ _ _ _ _)
      | (with_reducible exact ih3 _ _ _ _ _ _ _ _)
      | (with_reducible exact ih4 _ _ _ _ _ _ _ _ _ _ _)
      | (with_reducible exact graph_Reverse.mono _ _ _)
      | (with_reducible exact walk_Visit.mono _ _ _)
      | (with_reducible exact walk_filled.mono _ _ _)
      | (with_reducible exact walk_numbered.mono _ _)
      | (with_reducible exact walk_outs.mono _ _ _)
      | (with_reducible exact LeO.refl _)
      | (with_reducible exact LeO.none _)
      | (with_reducible refine LeO.ite ?_ ?_)
      | (with_reducible refine LeO.bind ?_ (fun _ => ?_))
      | exact ih0 _ _ _ _ _ _
      | exact ih1 _ _ _ _ _ _
      | exact ih2 _ _ _ _ _ _ _ _
      | exact ih3 _ _ _ _ _ _ _ _
      | exact ih4 _ _ _ _ _ _ _ _ _ _ _
      | exact graph_Reverse.mono _ _ _
      | exact walk_Visit.mono _ _ _
      | exact walk_filled.mono _ _ _
      | exact walk_numbered.mono _ _
      | exact walk_outs.mono _ _ _
      | exact LeO.none _
      | refine LeO.ite ?_ ?_
      | refine LeO.bind ?_ (fun _ => ?_)
theorem walk_Strong.mono : ∀ a0 a1 k, LeO (walk_Strong.f k a0 a1) (walk_Strong.f (k + 1) a0 a1) := by
  intro a0 a1 k
  obtain ⟨ih0, ih1, ih2, ih3, ih4⟩ := walk_Strong.mono_l k
  unfold walk_Strong.f
  repeat' first
      | (with_reducible exact ih0 _ _ _ _ _ _)
      | (with_reducible exact ih1 _ _ _ _ _ _)
      | (with_reducible exact ih2 _ _ _ _ _ _ _ _)
      | (with_reducible exact ih3 _ _ _ _ _ _ _ _)
      | (with_reducible exact ih4 _ _ _ _ _ _ _ _ _ _ _)
      | (with_reducible exact graph_Reverse.mono _ _ _)
      | (with_reducible exact walk_Visit.mono _ _ _)
      | (with_reducible exact walk_filled.mono _ _ _)
      | (with_reducible exact walk_numbered.mono _ _)
      | (with_reducible exact walk_outs.mono _ _ _)
      | (with_reducible exact LeO.refl _)
      | (with_reducible exact LeO.none _)
      | (with_reducible refine LeO.ite ?_ ?_)
      | (with_reducible refine LeO.bind ?_ (fun _ => ?_))
      | exact ih0 _ _ _ _ _ _
      | exact ih1 _ _ _ _ _ _
      | exact ih2 _ _ _ _ _ _ _ _
      | exact ih3 _ _ _ _ _ _ _ _
      | exact ih4 _ _ _ _ _ _ _ _ _ _ _
      | exact graph_Reverse.mono _ _ _
      | exact walk_Visit.mono _ _ _
      | exact walk_filled.mono _ _ _
      | exact walk_numbered.mono _ _
      | exact walk_outs.mono _ _ _
      | exact LeO.none _
      | refine LeO.ite ?_ ?_
      | refine LeO.bind ?_ (fun _ => ?_)
set_option maxHeartbeats 8000000 in
set_option maxRecDepth 100000 in
theorem walk_Strong.calls (k : Nat) (a0_0 : Int) (A0_1 : Option Addr) (c0_1 : Nat) (l0_1 : List (S41)) (r1 : List Int) (r2 : Int) (w : World) (hr0_1 : Kd.C k41 w A0_1 l0_1.length l0_1) (hc0_1 : l0_1.length ≤ c0_1) (h : walk_Strong.f k a0_0 l0_1 = some (r1, r2)) :
    Calls Try.prog 21 #[.agg #[.int .i64 a0_0, .slice A0_1 l0_1.length c0_1]] w fun e w' => ∃ v0_ : Value, e = .returned (.tuple #[v0_, .int .i64 r2]) ∧ Kd.R (Kd.int .i64) 3 w' w.heap.size (fun _ => True) v0_ r1 ∧ Below w.heap.size w w' := by
 have hu24 := Try.underlying24
 have HR0_1 := ak hr0_1
 have HC0_1 := ak hc0_1
 clear hr0_1 hc0_1
 have HB := ak (Below.refl w.heap.size w)
 have H : ((walk_Visit.f k a0_0 l0_1).bind fun bt338 => (if bt338.2.2 = 0 then (if 0 ≤ (wrap64 (2 * a0_0)) then (if (wrap64 (2 * a0_0) : Int).toNat ≤ 35184372088832 then (walk_Strong.l0 k (List.replicate (wrap64 (2 * a0_0) : Int).toNat 0) bt338.2.1 (bt338.2.1.length : Int) 0 a0_0 l0_1) else (none)) else (none)) else (some (([] : List Int), bt338.2.2)))) = some (r1, r2) := h
 clear h
 replace H := Option.bind_eq_some_iff.mp H
 obtain ⟨⟨t338, t341, t344⟩, A20, H⟩ := H
 replace H : (if t344 = 0 then (if 0 ≤ (wrap64 (2 * a0_0)) then (if (wrap64 (2 * a0_0) : Int).toNat ≤ 35184372088832 then (walk_Strong.l0 k (List.replicate (wrap64 (2 * a0_0) : Int).toNat 0) t341 (t341.length : Int) 0 a0_0 l0_1) else (none)) else (none)) else (some (([] : List Int), t344))) = some (r1, r2) := H
 have A2 := ak A20
 clear A20
 by_cases c3 : t344 = 0
 ·
  rw [if_pos c3] at H
  have c3b0 : (t344 == 0) = true := beq_iff_eq.mpr c3
  have c3b1 : (t344 != 0) = false := bne_eq_false_iff_eq.mpr c3
  clear c3
  obtain ⟨ji4, hji4⟩ : ∃ j_ : Int, (wrap64 (2 * a0_0)) = j_ := ⟨_, rfl⟩
  replace H : (if 0 ≤ (ji4) then (if (ji4 : Int).toNat ≤ 35184372088832 then (walk_Strong.l0 k (List.replicate (ji4 : Int).toNat 0) t341 (t341.length : Int) 0 a0_0 l0_1) else (none)) else (none)) = some (r1, r2) := by first | (rw [hji4] at H; exact H) | (simp only [hji4] at H ⊢; exact H)
  (try rw [hji4] at A2)
  have hji4w : (IntKind.i64.wrap (2 * a0_0)) = ji4 := (i64_w _).trans hji4
  by_cases c5 : 0 ≤ (ji4)
  rotate_left
  ·
   rw [if_neg c5] at H
   exact absurd H (by simp)
  rw [if_pos c5] at H
  have c5b0 := eq_true c5
  have c5b1 : decide (0 ≤ (ji4)) = true := decide_eq_true c5
  clear c5
  by_cases c6 : (ji4 : Int).toNat ≤ 35184372088832
  rotate_left
  ·
   rw [if_neg c6] at H
   exact absurd H (by simp)
  rw [if_pos c6] at H
  have c6b0 := eq_true c6
  have c6b1 : decide ((ji4 : Int).toNat ≤ 35184372088832) = true := decide_eq_true c6
  clear c6
  obtain ⟨y345, hy345⟩ : ∃ y_ : List Int, y_ = (List.replicate (ji4 : Int).toNat 0) := ⟨_, rfl⟩
  replace H : (walk_Strong.l0 k y345 t341 (t341.length : Int) 0 a0_0 l0_1) = some (r1, r2) := by first | (rw [hy345]; exact H) | exact H
  have Ny345 := ak hy345
  clear hy345
  have H' := ak H
  clear H
  go_enter Try.func21, Try.ntmps21
  go_wp2_with (first | ((with_reducible refine gate_dst (N := 1) rfl ?_); refine box_event ?hg (N := 1) ?hd (cs := #[.int .i64 a0_0, .slice A0_1 l0_1.length c0_1]) (t := 24) ?hr ?_; (case hd => rfl); (case hg => rfl); (case hr => first | (go_simp; done) | (go_simp; rfl)); intro gb337 hg w7 hbox hb; have n0_ := ak (below_step lb hb); have n1_ := ak (hbox); have n2_ := ak ((by rw [hg]; exact (below_size lb) : w.heap.size ≤ gb337)); have n3_ := ak ((by rw [hg]; exact (below_size lb) : w.heap.size ≤ gb337)); clear HB; have HB := n0_; have BK337 := n1_; have GW337 := n2_; have GE337 := n3_; clear n0_ n1_ n2_ n3_; clear hb hbox hg; have hcz8_0 : w7.cell? ⟨gb337, 0, none⟩ = some (.int .i64 a0_0) := (blk_cell BK337.out 0).trans rfl; have hcz8_1 : w7.cell? ⟨gb337, 1, none⟩ = some (.slice A0_1 l0_1.length c0_1) := (blk_cell BK337.out 1).trans rfl; have hfz8_0 := blk_frozen BK337.out 0; have hfz8_1 := blk_frozen BK337.out 1) | ((with_reducible refine gate_callee (f := 19) rfl ?_); refine goesL_ (some 22) rfl rfl Try.func19 (by kernel_rfl) rfl #[.agg #[.int .i64 a0_0, .slice A0_1 l0_1.length c0_1]] rfl (by (try simp only [List.map_toArray, List.map_cons, List.map_nil]); first | done | rfl | (simp only [List.length_drop, List.length_take]; rfl)) ?_; (with_reducible refine (walk_Visit.calls k a0_0 _ _ l0_1 t338 t341 t344 _ ?side1 ?side2 A2.out).mono ?_); (case side1 => repeat (first | exact (Kd.C_below HR0_1.out HB.out) | (with_reducible refine Kd.C_alloc ?_ _) | (with_reducible refine Kd.C_drewN ?_ _) | (with_reducible refine Kd.C_drew ?_))); (case side2 => exact HC0_1.out); rintro e w9 ⟨v339, v342, rfl, ho0, ho1, hb⟩; refine ⟨_, rfl, ?_⟩; have n0_ := ak (Kd.R_lower ho0 (below_size lb)); have n1_ := ak (Kd.R_lower ho1 (below_size lb)); have n2_ := ak (blk_below (bx BK337.out) hb); have n3_ := ak (below_step lb hb); clear BK337; clear HB; have HO340 := n0_; have HO343 := n1_; have BK337 := n2_; have HB := n3_; clear n0_ n1_ n2_ n3_; (try clear hb); (try clear hb2); (try clear hk); (try clear hi); (try clear ho0); (try clear ho1); have hcz10_0 : w9.cell? ⟨gb337, 0, none⟩ = some (.int .i64 a0_0) := (blk_cell BK337.out 0).trans rfl; have hcz10_1 : w9.cell? ⟨gb337, 1, none⟩ = some (.slice A0_1 l0_1.length c0_1) := (blk_cell BK337.out 1).trans rfl; have hfz10_0 := blk_frozen BK337.out 0; have hfz10_1 := blk_frozen BK337.out 1) | ((with_reducible refine gate_dst (N := 32) rfl ?_); refine Kd.R_make (Kd.int .i64) _ 3 rfl (N := 32) rfl 26 _ _ rfl ji4 rfl rfl Try.underlying26 (.int .i64 0) 8 info3 rfl (by decide) (by omega) 0 (ok := fun _ => True) (okp := fun _ => True) rfl (fun _ hk => hk) trivial (oda) (Nat.le_trans (Nat.mul_le_mul_right _ (oda : ji4.toNat ≤ 35184372088832)) (by omega)) (Below.refl _ _) (Nat.le_refl _) ?_; intro v346 w11 ho12 hb hg_ hnew_; clear hg_ hnew_; (first | rw [← Ny345.out] at ho12 | (simp only [Int.reduceToNat] at ho12; rw [← Ny345.out] at ho12)); have n0_ := ak (Kd.R_elder' (rx HO340.out) (Kd.R_base ho12) hb); have n1_ := ak (Kd.R_elder' (rx HO343.out) (Kd.R_base ho12) hb); have n2_ := ak (Kd.R_lower (Kd.R_new' (Kd.R_new' ho12 (Kd.R_lt (rx HO340.out))) (Kd.R_lt (rx HO343.out))) (below_size lb)); have n3_ := ak (blk_below (bx BK337.out) hb); have n4_ := ak (below_step lb hb); clear HO340; clear HO343; clear BK337; clear HB; have HO340 := n0_; have HO343 := n1_; have HO347 := n2_; have BK337 := n3_; have HB := n4_; clear n0_ n1_ n2_ n3_ n4_; clear hb ho12; obtain ⟨Ao13, co13, eo13⟩ := Kd.R_slice HO343.out; subst eo13))
  go_loopg [35] k (fun kq v35 w' => ∃ (x7_1 : List Int) (x35_1 : Int), v35 = .int .i64 x35_1 ∧ Aside0 (walk_Strong.l0 kq x7_1 t341 (t341.length : Int) x35_1 a0_0 l0_1 = some (r1, r2)) ∧ Aside0 (kq ≤ k) ∧ Aside0 (Kd.R (Kd.int .i64) 3 w' w.heap.size (fun k_ => some k_ ≠ ((.slice Ao13 t341.length co13) : Value).ownBlock) v346 x7_1) ∧ Aside0 (Kd.R (Kd.int .i64) 3 w' w.heap.size (fun k_ => some k_ ≠ (v346 : Value).ownBlock) (.slice Ao13 t341.length co13) t341) ∧ Aside0 (w'.heap[gb337]? = some (.cells #[.int .i64 a0_0, (.slice A0_1 l0_1.length c0_1)] 24 (0, 0))) ∧ Aside0 (Below w.heap.size w w'))
  case atStart => exact ⟨(y345), (0), (by first | rfl | (simp [*]; done)), H', ⟨Nat.le_refl _⟩, ⟨by exact rx (Kd.R_mono HO347.out (fun _ hk => hk.2))⟩, ⟨by exact rx (Kd.R_mono HO343.out (fun _ hk => hk.2))⟩, ⟨bx BK337.out⟩, ⟨lb⟩⟩
  case round =>
   clear H'
   try clear c1; try clear c2; try clear p2; try clear c3; try clear c3b0; try clear c3b1; try clear c5; try clear c5b0; try clear c5b1; try clear c6; try clear c6b0; try clear c6b1; try clear p6; try clear hcz10_0; try clear hcz10_1; try clear hcz8_0; try clear hcz8_1; try clear hfz10_0; try clear hfz10_1; try clear hfz8_0; try clear hfz8_1
   obtain ⟨x7_1, x35_1, rfl, HA, HK1, HO_7, HO_33, BK337, HB⟩ := hrel
   cases gk with
   | zero => exact absurd HA.out (by simp [walk_Strong.l0])
   | succ k1 =>
    have H := HA.out
    clear HA
    simp only [walk_Strong.l0] at H
    by_cases c14 : x35_1 < (t341.length : Int)
    ·
     rw [if_pos c14] at H
     have c14b0 : decide (x35_1 < (t341.length : Int)) = true := decide_eq_true c14
     clear c14
     by_cases c15 : 0 ≤ x35_1
     rotate_left
     ·
      rw [if_neg c15] at H
      exact absurd H (by simp)
     rw [if_pos c15] at H
     have c15b0 : decide (0 ≤ x35_1) = true := decide_eq_true c15
     clear c15
     by_cases c16 : x35_1 < (t341.length : Int)
     rotate_left
     ·
      rw [if_neg c16] at H
      exact absurd H (by simp)
     rw [if_pos c16] at H
     have c16b0 : decide (x35_1 < (t341.length : Int)) = true := decide_eq_true c16
     clear c16
     by_cases c17 : 0 ≤ (rd t341 x35_1)
     rotate_left
     ·
      rw [if_neg c17] at H
      exact absurd H (by simp)
     rw [if_pos c17] at H
     have c17b0 : decide (0 ≤ (rd t341 x35_1)) = true := decide_eq_true c17
     clear c17
     by_cases c18 : (rd t341 x35_1) < (x7_1.length : Int)
     rotate_left
     ·
      rw [if_neg c18] at H
      exact absurd H (by simp)
     rw [if_pos c18] at H
     have c18b0 : decide ((rd t341 x35_1) < (x7_1.length : Int)) = true := decide_eq_true c18
     clear c18
     obtain ⟨y349, hy349⟩ : ∃ y_ : List Int, y_ = (x7_1.set ((rd t341 x35_1) : Int).toNat (wrap64 (x35_1 + 1))) := ⟨_, rfl⟩
     replace H : (walk_Strong.l0 k1 y349 t341 (t341.length : Int) (wrap64 (x35_1 + 1)) a0_0 l0_1) = some (r1, r2) := by first | (rw [hy349]; exact H) | exact H
     have Ny349 := ak hy349
     clear hy349
     have H' := ak H
     clear H
     have p348 : 0 ≤ (x35_1 : Int) := oda
     have q348 : x35_1 < (t341.length : Int) := oda
     obtain ⟨ad348, e348, hx348_0⟩ := Kd.at_int (Kd.R_reads' HO_33.out).2.2 x35_1 p348 q348
     cases e348
     replace p348 := eq_true p348
     replace q348 := eq_true q348
     have p19 : 0 ≤ ((rd t341 x35_1) : Int) := oda
     have q19 : ((rd t341 x35_1) : Int) < ((x7_1.length : Int) : Int) := oda
     obtain ⟨go19, co19, eo19, gb19, gl19, cl19, HG19⟩ := Kd.R_form HO_7.out (by omega)
     (first | cases eo19 | (injection eo19 with ea_ en_ ec_; (first | subst ea_ | (injection ea_ with ea_; subst ea_)); subst ec_; clear en_))
     have GB19 := ak gb19
     have GG19 := ak HG19
     clear gb19 gl19 HG19
     obtain ⟨hx19_0, hf19_0⟩ := Kd.R_celln 0 HO_7.out ((rd t341 x35_1) : Int) p19 q19
     replace p19 := eq_true p19
     replace q19 := eq_true q19
     have HP20 := Kd.R_putg HO_7.out ((rd t341 x35_1) : Int) (wrap64 (x35_1 + 1))
     go_wp2_with (first | ((with_reducible refine gate_store (t := 3) (p := 44) rfl ?_); refine store_event (t := 3) (p := 44) (v := ?vo_w21) (w1 := (wr.setCell ⟨go19, ((rd t341 x35_1) : Int).toNat, none⟩ (.int .i64 (wrap64 (x35_1 + 1))))) ?hg ?ho ?hn ?hr ?_; (case ho => rfl); (case hg => rfl); (case hn => rfl); (case hr => first | (go_simp; done) | (go_simp; rfl)); intro w21 hw; have hg : wr.grownBy w21 (some go19) := (by rw [hw]; exact HP20.2); have hp_ : Kd.R (Kd.int .i64) 3 w21 w.heap.size (fun k_ => some k_ ≠ (.slice (some ad348) t341.length co13 : Value).ownBlock) (.slice (some ⟨go19, 0, none⟩) x7_1.length co19) y349 := (by rw [hw, Ny349.out]; exact HP20.1); clear HP20; have n0_ := ak (hp_); have n1_ := ak (Kd.R_after (v := (.slice (some ⟨go19, 0, none⟩) x7_1.length co19)) (v1 := (.slice (some ⟨go19, 0, none⟩) x7_1.length co19)) (ok := (fun _ => True)) (by exact rx (Kd.R_mono HO_33.out (fun _ hk => ⟨trivial, hk⟩))) hg (.inl rfl)); have n2_ := ak (blk_grown (bx BK337.out) hg (Kd.R_ne HO_7.out BK337.out (by decide))); have n3_ := ak ((by rw [hw]; exact below_set (HB.out) GB19.out : Below w.heap.size w w21)); clear HO_7; clear HO_33; clear BK337; clear HB; have HO_7 := n0_; have HO_33 := n1_; have BK337 := n2_; have HB := n3_; clear n0_ n1_ n2_ n3_; clear hg hw hp_))
     go_roundg k1
     case measure => have := HK1.out; omega
     case rel => exact ⟨(y349), (wrap64 (x35_1 + 1)), (by first | rfl | (simp [*]; done)), H', ⟨by have := HK1.out; omega⟩, ⟨rx HO_7.out⟩, ⟨by exact rx (Kd.R_mono HO_33.out (fun _ hk => hk.2))⟩, ⟨bx BK337.out⟩, ⟨lb⟩⟩
    ·
     rw [if_neg c14] at H
     have c14b0 : decide (x35_1 < (t341.length : Int)) = false := decide_eq_false c14
     clear c14
     replace H := Option.bind_eq_some_iff.mp H
     obtain ⟨⟨t350, t351⟩, A220, H⟩ := H
     replace H : ((walk_outs.f k1 t350 t351).bind fun t355 => ((walk_filled.f k1 a0_0 (-1)).bind fun t358 => (walk_Strong.l1 k1 x7_1 t355 t358 (wrap64 ((x7_1.length : Int) - 1)) t350 t351))) = some (r1, r2) := H
     have A22 := ak A220
     clear A220
     replace H := Option.bind_eq_some_iff.mp H
     obtain ⟨t355, A230, H⟩ := H
     replace H : ((walk_filled.f k1 a0_0 (-1)).bind fun t358 => (walk_Strong.l1 k1 x7_1 t355 t358 (wrap64 ((x7_1.length : Int) - 1)) t350 t351)) = some (r1, r2) := H
     have A23 := ak A230
     clear A230
     replace H := Option.bind_eq_some_iff.mp H
     obtain ⟨t358, A240, H⟩ := H
     replace H : (walk_Strong.l1 k1 x7_1 t355 t358 (wrap64 ((x7_1.length : Int) - 1)) t350 t351) = some (r1, r2) := H
     have A24 := ak A240
     clear A240
     have H' := ak H
     clear H
     have hcz25_0 : wr.cell? ⟨gb337, 0, none⟩ = some (.int .i64 a0_0) := (blk_cell BK337.out 0).trans rfl
     have hcz25_1 : wr.cell? ⟨gb337, 1, none⟩ = some (.slice A0_1 l0_1.length c0_1) := (blk_cell BK337.out 1).trans rfl
     have hfz25_0 := blk_frozen BK337.out 0
     have hfz25_1 := blk_frozen BK337.out 1
     go_wp2_with (first | ((with_reducible refine gate_callee (f := 38) rfl ?_); refine goesL_ (some 47) rfl rfl Try.func38 (by kernel_rfl) rfl #[.agg #[.int .i64 a0_0, .slice A0_1 l0_1.length c0_1]] rfl (by (try simp only [List.map_toArray, List.map_cons, List.map_nil]); first | done | rfl | (simp only [List.length_drop, List.length_take]; rfl)) ?_; (with_reducible refine (graph_Reverse.calls k1 a0_0 _ _ l0_1 t350 t351 _ ?side1 ?side2 A22.out).mono ?_); (case side1 => repeat (first | exact (Kd.C_below HR0_1.out HB.out) | (with_reducible refine Kd.C_alloc ?_ _) | (with_reducible refine Kd.C_drewN ?_ _) | (with_reducible refine Kd.C_drew ?_))); (case side2 => exact HC0_1.out); rintro e w26 ⟨v352, rfl, ho0, hb⟩; refine ⟨_, rfl, ?_⟩; have n0_ := ak (Kd.R_below (rx HO_7.out) hb); have n1_ := ak (Kd.R_below (rx HO_33.out) hb); have n2_ := ak (Kd.R_lower ho0 (below_size lb)); have n3_ := ak (blk_below (bx BK337.out) hb); have n4_ := ak (below_step lb hb); clear HO_7; clear HO_33; clear BK337; clear HB; have HO_7 := n0_; have HO_33 := n1_; have HO353 := n2_; have BK337 := n3_; have HB := n4_; clear n0_ n1_ n2_ n3_ n4_; (try clear hb); (try clear hb2); (try clear hk); (try clear hi); (try clear ho0)) | ((with_reducible refine gate_dst (N := 10) rfl ?_); refine box_event ?hg (N := 10) ?hd (cs := #[.int .i64 0, .slice none 0 0]) (t := 24) ?hr ?_; (case hd => rfl); (case hg => rfl); (case hr => first | (go_simp; done) | (go_simp; rfl)); intro gb354 hg w27 hbox hb; have n0_ := ak (Kd.R_below (rx HO_7.out) hb); have n1_ := ak (Kd.R_below (rx HO_33.out) hb); have n2_ := ak (Kd.R_below (rx HO353.out) hb); have n3_ := ak (blk_below (bx BK337.out) hb); have n4_ := ak (below_step lb hb); have n5_ := ak (hbox); have n6_ := ak ((by rw [hg]; exact (below_size lb) : w.heap.size ≤ gb354)); have n7_ := ak ((by rw [hg]; exact (below_size lb) : w.heap.size ≤ gb354)); have n8_ := ak ((by rw [hg]; exact Nat.ne_of_lt (blk_lt (g := gb337) (o := .cells #[.int .i64 a0_0, .slice A0_1 l0_1.length c0_1] 24 (0, 0)) (bx BK337.out)) : gb337 ≠ gb354)); have n9_ := ak ((by rw [hg]; exact Nat.ne_of_gt (blk_lt (g := gb337) (o := .cells #[.int .i64 a0_0, .slice A0_1 l0_1.length c0_1] 24 (0, 0)) (bx BK337.out)) : gb354 ≠ gb337)); clear HO_7; clear HO_33; clear HO353; clear BK337; clear HB; have HO_7 := n0_; have HO_33 := n1_; have HO353 := n2_; have BK337 := n3_; have HB := n4_; have BK354 := n5_; have GW354 := n6_; have GE354 := n7_; have NB337_354 := n8_; have NB354_337 := n9_; clear n0_ n1_ n2_ n3_ n4_ n5_ n6_ n7_ n8_ n9_; clear hb hbox hg; have hnb28 := NB354_337.out; have hnc28 := NB337_354.out; have hcz29_0 : w27.cell? ⟨gb354, 0, none⟩ = some (.int .i64 0) := (blk_cell BK354.out 0).trans rfl; have hcz29_1 : w27.cell? ⟨gb354, 1, none⟩ = some (.slice none 0 0) := (blk_cell BK354.out 1).trans rfl; have hfz29_0 := blk_frozen BK354.out 0; have hfz29_1 := blk_frozen BK354.out 1; obtain ⟨Ao30, co30, eo30⟩ := Kd.R_slice HO353.out; subst eo30) | ((with_reducible refine gate_callee (f := 30) rfl ?_); refine goesL_ (some 49) rfl rfl Try.func30 (by kernel_rfl) rfl #[.agg #[.int .i64 t350, .slice Ao30 t351.length co30]] rfl (by (try simp only [List.map_toArray, List.map_cons, List.map_nil]); first | done | rfl | (simp only [List.length_drop, List.length_take]; rfl)) ?_; (with_reducible refine (walk_outs.calls k1 t350 _ _ t351 t355 _ ?side1 ?side2 A23.out).mono ?_); (case side1 => refine (Kd.R_reads' (e := 41) (base := w.heap.size) (ok := fun k_ => True) (n := t351.length) (c := co30) ?_).2.2; exact (by (with_reducible repeat (first | apply Kd.R_alloc | apply Kd.R_drewN | apply Kd.R_drew)); exact (Kd.R_mono (Kd.R_far (p := ⟨gb354, 1, none⟩) (Kd.R_far (p := ⟨gb354, 0, none⟩) (Kd.R_types HO353.out BK354.out (by decide)) (fun _ hk => hk.2) (.int .i64 t350)) (fun _ hk => hk.2) (.slice Ao30 t351.length co30)) (fun _ h_ => h_.1)))); (case side2 => exact (Kd.R_reads' HO353.out).2.1); rintro e w31 ⟨v356, rfl, ho0, hb⟩; refine ⟨_, rfl, ?_⟩; have n0_ := ak (Kd.R_below (by (with_reducible repeat (first | apply Kd.R_alloc | apply Kd.R_drewN | apply Kd.R_drew)); exact (Kd.R_mono (Kd.R_far (p := ⟨gb354, 1, none⟩) (Kd.R_far (p := ⟨gb354, 0, none⟩) (Kd.R_types HO_7.out BK354.out (by decide)) (fun _ hk => hk.2) (.int .i64 t350)) (fun _ hk => hk.2) (.slice Ao30 t351.length co30)) (fun _ h_ => h_.1))) hb); have n1_ := ak (Kd.R_below (by (with_reducible repeat (first | apply Kd.R_alloc | apply Kd.R_drewN | apply Kd.R_drew)); exact (Kd.R_mono (Kd.R_far (p := ⟨gb354, 1, none⟩) (Kd.R_far (p := ⟨gb354, 0, none⟩) (Kd.R_types HO_33.out BK354.out (by decide)) (fun _ hk => hk.2) (.int .i64 t350)) (fun _ hk => hk.2) (.slice Ao30 t351.length co30)) (fun _ h_ => h_.1))) hb); have n2_ := ak (Kd.R_below (by (with_reducible repeat (first | apply Kd.R_alloc | apply Kd.R_drewN | apply Kd.R_drew)); exact (Kd.R_mono (Kd.R_far (p := ⟨gb354, 1, none⟩) (Kd.R_far (p := ⟨gb354, 0, none⟩) (Kd.R_types HO353.out BK354.out (by decide)) (fun _ hk => hk.2) (.int .i64 t350)) (fun _ hk => hk.2) (.slice Ao30 t351.length co30)) (fun _ h_ => h_.1))) hb); have n3_ := ak (Kd.S_lower (Kd.S_new' (Kd.S_new' ho0 (Kd.R_lt (by (with_reducible repeat (first | apply Kd.R_alloc | apply Kd.R_drewN | apply Kd.R_drew)); exact (Kd.R_mono (Kd.R_far (p := ⟨gb354, 1, none⟩) (Kd.R_far (p := ⟨gb354, 0, none⟩) (Kd.R_types HO_7.out BK354.out (by decide)) (fun _ hk => hk.2) (.int .i64 t350)) (fun _ hk => hk.2) (.slice Ao30 t351.length co30)) (fun _ h_ => h_.1))))) (Kd.R_lt (by (with_reducible repeat (first | apply Kd.R_alloc | apply Kd.R_drewN | apply Kd.R_drew)); exact (Kd.R_mono (Kd.R_far (p := ⟨gb354, 1, none⟩) (Kd.R_far (p := ⟨gb354, 0, none⟩) (Kd.R_types HO_33.out BK354.out (by decide)) (fun _ hk => hk.2) (.int .i64 t350)) (fun _ hk => hk.2) (.slice Ao30 t351.length co30)) (fun _ h_ => h_.1))))) (below_size lb)); have n4_ := ak (blk_below (g := gb337) (o := .cells #[.int .i64 a0_0, .slice A0_1 l0_1.length c0_1] 24 (0, 0)) (by (with_reducible repeat (first | refine blk_drewN ?_ _ | refine blk_drew ?_ | refine blk_alloc ?_ _)); refine blk_far ?_ NB337_354.out _; (with_reducible repeat (first | refine blk_drewN ?_ _ | refine blk_drew ?_ | refine blk_alloc ?_ _)); refine blk_far ?_ NB337_354.out _; exact bx BK337.out) hb); have n5_ := ak (blk_below (g := gb354) (o := .cells #[.int .i64 t350, .slice Ao30 t351.length co30] 24 (0, 0)) (by (with_reducible repeat (first | refine blk_drewN ?_ _ | refine blk_drew ?_ | refine blk_alloc ?_ _)); refine blk_put (cs := #[.int .i64 t350, .slice none 0 0]) ?_ 1 _ rfl; (with_reducible repeat (first | refine blk_drewN ?_ _ | refine blk_drew ?_ | refine blk_alloc ?_ _)); refine blk_put (cs := #[.int .i64 0, .slice none 0 0]) ?_ 0 _ rfl; exact bx BK354.out) hb); have n6_ := ak (below_step lb hb); clear HO_7; clear HO_33; clear HO353; clear BK337; clear BK354; clear HB; have HO_7 := n0_; have HO_33 := n1_; have HO353 := n2_; have HO357 := n3_; have BK337 := n4_; have BK354 := n5_; have HB := n6_; clear n0_ n1_ n2_ n3_ n4_ n5_ n6_; (try clear hb); (try clear hb2); (try clear hk); (try clear hi); (try clear ho0); have hcz32_0 : w31.cell? ⟨gb337, 0, none⟩ = some (.int .i64 a0_0) := (blk_cell BK337.out 0).trans rfl; have hcz32_1 : w31.cell? ⟨gb337, 1, none⟩ = some (.slice A0_1 l0_1.length c0_1) := (blk_cell BK337.out 1).trans rfl; have hfz32_0 := blk_frozen BK337.out 0; have hfz32_1 := blk_frozen BK337.out 1) | ((with_reducible refine gate_callee (f := 31) rfl ?_); refine goesL_ (some 52) rfl rfl Try.func31 (by kernel_rfl) rfl #[.int .i64 a0_0, .int .i64 (-1)] rfl (by (try simp only [List.map_toArray, List.map_cons, List.map_nil]); first | done | rfl | (simp only [List.length_drop, List.length_take]; rfl)) ?_; (with_reducible refine (walk_filled.calls k1 a0_0 (-1) t358 _ A24.out).mono ?_); rintro e w33 ⟨v359, rfl, ho0, hb⟩; refine ⟨_, rfl, ?_⟩; have n0_ := ak (Kd.R_elder' (rx HO_7.out) (Kd.R_base ho0) hb); have n1_ := ak (Kd.R_elder' (rx HO_33.out) (Kd.R_base ho0) hb); have n2_ := ak (Kd.R_below (rx HO353.out) hb); have n3_ := ak (Kd.S_elder' (sx HO357.out) (Kd.R_base ho0) hb); have n4_ := ak (Kd.R_lower (Kd.R_new' (Kd.R_new' ho0 (Kd.R_lt (rx HO_7.out))) (Kd.R_lt (rx HO_33.out))) (below_size lb)); have n5_ := ak (blk_below (bx BK337.out) hb); have n6_ := ak (blk_below (bx BK354.out) hb); have n7_ := ak (below_step lb hb); clear HO_7; clear HO_33; clear HO353; clear HO357; clear BK337; clear BK354; clear HB; have HO_7 := n0_; have HO_33 := n1_; have HO353 := n2_; have HO357 := n3_; have HO360 := n4_; have BK337 := n5_; have BK354 := n6_; have HB := n7_; clear n0_ n1_ n2_ n3_ n4_ n5_ n6_ n7_; (try clear hb); (try clear hb2); (try clear hk); (try clear hi); (try clear ho0); obtain ⟨Ao34, co34, eo34⟩ := Kd.R_slice HO_7.out; subst eo34))
     go_loopg [13] k1 (fun kq v13 w' => ∃ (x12_2 : List Int) (x13_2 : Int), v13 = .int .i64 x13_2 ∧ Aside0 (walk_Strong.l1 kq x7_1 t355 x12_2 x13_2 t350 t351 = some (r1, r2)) ∧ Aside0 (kq ≤ k1) ∧ Aside0 (Kd.R (Kd.int .i64) 3 w' w.heap.size (fun k_ => some k_ ≠ (v359 : Value).ownBlock) (.slice Ao34 x7_1.length co34) x7_1) ∧ Aside0 (Kd.S (Kd.slice 3 (Kd.int .i64)) 26 w' w.heap.size (fun k_ => some k_ ≠ ((.slice Ao34 x7_1.length co34) : Value).ownBlock ∧ some k_ ≠ (v359 : Value).ownBlock) v356 t355) ∧ Aside0 (Kd.R (Kd.int .i64) 3 w' w.heap.size (fun k_ => some k_ ≠ ((.slice Ao34 x7_1.length co34) : Value).ownBlock) v359 x12_2) ∧ Aside0 (Kd.R k41 41 w' w.heap.size (fun _ => True) (.slice Ao30 t351.length co30) t351) ∧ Aside0 (w'.heap[gb337]? = some (.cells #[.int .i64 a0_0, (.slice A0_1 l0_1.length c0_1)] 24 (0, 0))) ∧ Aside0 (w'.heap[gb354]? = some (.cells #[.int .i64 t350, (.slice Ao30 t351.length co30)] 24 (0, 0))) ∧ Aside0 (Below w.heap.size w w'))
     case atStart => exact ⟨(t358), (wrap64 ((x7_1.length : Int) - 1)), (by first | rfl | (simp [*]; done)), H', ⟨Nat.le_refl _⟩, ⟨by exact rx (Kd.R_mono HO_7.out (fun _ hk => hk.2))⟩, ⟨by exact sx (Kd.S_mono HO357.out (fun _ hk => ⟨hk.1.1.2, hk.2⟩))⟩, ⟨by exact rx (Kd.R_mono HO360.out (fun _ hk => hk.1.2))⟩, ⟨rx HO353.out⟩, ⟨bx BK337.out⟩, ⟨bx BK354.out⟩, ⟨lb⟩⟩
     case round =>
      clear H'
      try clear c1; try clear p1; try clear q1; try clear hx1; try clear hf1; try clear c2; try clear p2; try clear c3; try clear c3b0; try clear c3b1; try clear p3; try clear q3; try clear hx3; try clear c5; try clear c5b0; try clear c5b1; try clear c6; try clear c6b0; try clear c6b1; try clear p6; try clear c14; try clear c14b0; try clear c15; try clear c15b0; try clear c16; try clear c16b0; try clear c17; try clear c17b0; try clear c18; try clear c18b0; try clear c19; try clear p19; try clear q19; try clear hx19; try clear hf19; try clear c21; try clear c28; try clear c30; try clear c31; try clear p34; try clear q34; try clear hx34; try clear hcz10_0; try clear hcz10_1; try clear hcz25_0; try clear hcz25_1; try clear hcz29_0; try clear hcz29_1; try clear hcz32_0; try clear hcz32_1; try clear hcz8_0; try clear hcz8_1; try clear hfz10_0; try clear hfz10_1; try clear hfz25_0; try clear hfz25_1; try clear hfz29_0; try clear hfz29_1; try clear hfz32_0; try clear hfz32_1; try clear hfz8_0; try clear hfz8_1; try clear hx19_0; try clear hx348_0; try clear p19; try clear p2; try clear p348; try clear p6; try clear q19; try clear q348
      obtain ⟨x12_2, x13_2, rfl, HA, HK2, HO_7, HO_11, HO_12, HO_355001, BK337, BK354, HB⟩ := hrel
      cases gk with
      | zero => exact absurd HA.out (by simp [walk_Strong.l1])
      | succ k2 =>
       have H := HA.out
       clear HA
       simp only [walk_Strong.l1] at H
       by_cases c35 : x13_2 ≥ 0
       ·
        rw [if_pos c35] at H
        have c35b0 : decide (0 ≤ x13_2) = true := decide_eq_true c35
        clear c35
        by_cases c36 : 0 ≤ x13_2
        rotate_left
        ·
         rw [if_neg c36] at H
         exact absurd H (by simp)
        rw [if_pos c36] at H
        have c36b0 : decide (0 ≤ x13_2) = true := decide_eq_true c36
        clear c36
        by_cases c37 : x13_2 < (x7_1.length : Int)
        rotate_left
        ·
         rw [if_neg c37] at H
         exact absurd H (by simp)
        rw [if_pos c37] at H
        have c37b0 : decide (x13_2 < (x7_1.length : Int)) = true := decide_eq_true c37
        clear c37
        have HC38 := ak H
        clear H
        have p364 : 0 ≤ (x13_2 : Int) := oda
        have q364 : x13_2 < (x7_1.length : Int) := oda
        obtain ⟨ad364, e364, hx364_0⟩ := Kd.at_int (Kd.R_reads' HO_7.out).2.2 x13_2 p364 q364
        cases e364
        replace p364 := eq_true p364
        replace q364 := eq_true q364
        go_upto_region 17 with (fail)
        go_cut [73] (fun v73 wc => ∃ (kq : Nat) (x73_37 : Bool), v73 = .bool x73_37 ∧ Aside0 (walk_Strong.j2 kq x7_1 t355 x12_2 x13_2 (wrap64 ((rd x7_1 x13_2) - 1)) x73_37 t350 t351 = some (r1, r2)) ∧ Aside0 (kq ≤ k2) ∧ Aside0 (Kd.R (Kd.int .i64) 3 wc w.heap.size (fun k_ => some k_ ≠ (v359 : Value).ownBlock) (.slice (some ad364) x7_1.length co34) x7_1) ∧ Aside0 (Kd.S (Kd.slice 3 (Kd.int .i64)) 26 wc w.heap.size (fun k_ => some k_ ≠ ((.slice (some ad364) x7_1.length co34) : Value).ownBlock ∧ some k_ ≠ (v359 : Value).ownBlock) v356 t355) ∧ Aside0 (Kd.R (Kd.int .i64) 3 wc w.heap.size (fun k_ => some k_ ≠ ((.slice (some ad364) x7_1.length co34) : Value).ownBlock) v359 x12_2) ∧ Aside0 (Kd.R k41 41 wc w.heap.size (fun _ => True) (.slice Ao30 t351.length co30) t351) ∧ Aside0 (wc.heap[gb337]? = some (.cells #[.int .i64 a0_0, (.slice A0_1 l0_1.length c0_1)] 24 (0, 0))) ∧ Aside0 (wc.heap[gb354]? = some (.cells #[.int .i64 t350, (.slice Ao30 t351.length co30)] 24 (0, 0))) ∧ Aside0 (Below w.heap.size w wc))
        case first =>
         have H := HC38.out
         clear HC38
         by_cases c39 : (wrap64 ((rd x7_1 x13_2) - 1)) < 0
         ·
          rw [if_pos c39] at H
          have c39b0 : decide ((wrap64 ((rd x7_1 x13_2) - 1)) < 0) = true := decide_eq_true c39
          clear c39
          (first | rw [c39b0] | (simp only [i64_w, i32_w]; rw [c39b0]) | skip)
          have H' := ak H
          clear H
          go_wp2
          go_meet
          case rel => exact ⟨_, (true), (by first | rfl | (simp [*]; done)), H', ⟨by have := HK1.out; have := HK2.out; first | omega | exact Nat.le_refl _⟩, ⟨rx HO_7.out⟩, ⟨sx HO_11.out⟩, ⟨rx HO_12.out⟩, ⟨rx HO_355001.out⟩, ⟨bx BK337.out⟩, ⟨bx BK354.out⟩, ⟨lb⟩⟩
         ·
          rw [if_neg c39] at H
          have c39b0 : decide ((wrap64 ((rd x7_1 x13_2) - 1)) < 0) = false := decide_eq_false c39
          clear c39
          (first | rw [c39b0] | (simp only [i64_w, i32_w]; rw [c39b0]) | skip)
          obtain ⟨ji40, hji40⟩ : ∃ j_ : Int, (wrap64 ((rd x7_1 x13_2) - 1)) = j_ := ⟨_, rfl⟩
          replace H : (if 0 ≤ (ji40) then (if (ji40) < (x12_2.length : Int) then (walk_Strong.j2 k2 x7_1 t355 x12_2 x13_2 ji40 (decide ((rd x12_2 (ji40)) ≥ 0)) t350 t351) else (none)) else (none)) = some (r1, r2) := by first | (rw [hji40] at H; exact H) | (simp only [hji40] at H ⊢; exact H)
          (try rw [hji40] at c39b0)
          have hji40w : (IntKind.i64.wrap ((rd x7_1 x13_2) - 1)) = ji40 := (i64_w _).trans hji40
          by_cases c41 : 0 ≤ (ji40)
          rotate_left
          ·
           rw [if_neg c41] at H
           exact absurd H (by simp)
          rw [if_pos c41] at H
          have c41b0 : decide (0 ≤ (ji40)) = true := decide_eq_true c41
          clear c41
          by_cases c42 : (ji40) < (x12_2.length : Int)
          rotate_left
          ·
           rw [if_neg c42] at H
           exact absurd H (by simp)
          rw [if_pos c42] at H
          have c42b0 : decide ((ji40) < (x12_2.length : Int)) = true := decide_eq_true c42
          clear c42
          have H' := ak H
          clear H
          obtain ⟨Ao43, co43, eo43⟩ := Kd.R_slice HO_12.out
          subst eo43
          have p365 : 0 ≤ ((ji40) : Int) := oda
          have q365 : (ji40) < (x12_2.length : Int) := oda
          obtain ⟨ad365, e365, hx365_0⟩ := Kd.at_int (Kd.R_reads' HO_12.out).2.2 (ji40) p365 q365
          cases e365
          replace p365 := eq_true p365
          replace q365 := eq_true q365
          go_wp2
          go_meet
          case rel => exact ⟨_, (decide ((rd x12_2 (ji40)) ≥ 0)), (by first | rfl | (simp; done) | (simp only [← hji40] <;> (first | rfl | simp)) | (simp [*]; done)), (by first | exact H' | (rw [hji40]; exact H')), ⟨by have := HK1.out; have := HK2.out; first | omega | exact Nat.le_refl _⟩, ⟨rx HO_7.out⟩, ⟨sx HO_11.out⟩, ⟨rx HO_12.out⟩, ⟨rx HO_355001.out⟩, ⟨bx BK337.out⟩, ⟨bx BK354.out⟩, ⟨lb⟩⟩
        case rest =>
         clear HC38
         try clear c1; try clear p1; try clear q1; try clear hx1; try clear hf1; try clear c2; try clear p2; try clear c3; try clear c3b0; try clear c3b1; try clear p3; try clear q3; try clear hx3; try clear c4; try clear c5; try clear c5b0; try clear c5b1; try clear c6; try clear c6b0; try clear c6b1; try clear p6; try clear c14; try clear c14b0; try clear c15; try clear c15b0; try clear c16; try clear c16b0; try clear c17; try clear c17b0; try clear c18; try clear c18b0; try clear c19; try clear p19; try clear q19; try clear hx19; try clear hf19; try clear c21; try clear c28; try clear c30; try clear c31; try clear p34; try clear q34; try clear hx34; try clear c35; try clear c35b0; try clear c36; try clear c36b0; try clear p36; try clear q36; try clear hx36; try clear c37; try clear c37b0; try clear c38; try clear c39; try clear c39b0; try clear c41; try clear c41b0; try clear c42; try clear c42b0; try clear hcz10_0; try clear hcz10_1; try clear hcz25_0; try clear hcz25_1; try clear hcz29_0; try clear hcz29_1; try clear hcz32_0; try clear hcz32_1; try clear hcz8_0; try clear hcz8_1; try clear hfz10_0; try clear hfz10_1; try clear hfz25_0; try clear hfz25_1; try clear hfz29_0; try clear hfz29_1; try clear hfz32_0; try clear hfz32_1; try clear hfz8_0; try clear hfz8_1; try clear hx19_0; try clear hx348_0; try clear hx364_0; try clear hx365_0; try clear p1; try clear p19; try clear p2; try clear p3; try clear p34; try clear p348; try clear p364; try clear p365; try clear p6; try clear q1; try clear q19; try clear q3; try clear q34; try clear q348; try clear q364; try clear q365
         obtain ⟨kq, x73_37, rfl, HA, HJ37, HO_7, HO_11, HO_12, HO_355001, BK337, BK354, HB⟩ := hcut
         cases kq with
         | zero => exact absurd HA.out (by simp [walk_Strong.j2])
         | succ kj37 =>
          have H := HA.out
          clear HA
          simp only [walk_Strong.j2] at H
          by_cases c44 : x73_37 = true
          ·
           subst c44
           have H1 : (walk_Strong.l1 kj37 x7_1 t355 x12_2 (wrap64 (x13_2 - 1)) t350 t351) = some (r1, r2) := by rw [if_pos rfl] at H; exact H
           clear H
           have H := H1
           clear H1
           have H' := ak H
           clear H
           go_wp2
           go_roundg kj37
           case measure => have := HK1.out; have := HK2.out; have := HJ37.out; omega
           case rel => exact ⟨(x12_2), (wrap64 (x13_2 - 1)), (by first | rfl | (simp [*]; done)), H', ⟨by have := HK1.out; have := HK2.out; have := HJ37.out; omega⟩, ⟨rx HO_7.out⟩, ⟨sx HO_11.out⟩, ⟨rx HO_12.out⟩, ⟨rx HO_355001.out⟩, ⟨bx BK337.out⟩, ⟨bx BK354.out⟩, ⟨lb⟩⟩
          ·
           replace c44 := Bool.eq_false_iff.mpr c44
           subst c44
           have H1 : (if 0 ≤ (wrap64 ((rd x7_1 x13_2) - 1)) then (if (wrap64 ((rd x7_1 x13_2) - 1)) < (x12_2.length : Int) then (walk_Strong.l2 kj37 x7_1 t355 (x12_2.set ((wrap64 ((rd x7_1 x13_2) - 1)) : Int).toNat (wrap64 ((rd x7_1 x13_2) - 1))) x13_2 (wrap64 ((rd x7_1 x13_2) - 1)) (([(wrap64 ((rd x7_1 x13_2) - 1))] : List Int)) t350 t351) else (none)) else (none)) = some (r1, r2) := by rw [if_neg (show ¬ (false = true) by decide)] at H; exact H
           clear H
           have H := H1
           clear H1
           obtain ⟨ji45, hji45⟩ : ∃ j_ : Int, (wrap64 ((rd x7_1 x13_2) - 1)) = j_ := ⟨_, rfl⟩
           replace H : (if 0 ≤ (ji45) then (if (ji45) < (x12_2.length : Int) then (walk_Strong.l2 kj37 x7_1 t355 (x12_2.set ((ji45) : Int).toNat (ji45)) x13_2 (ji45) (([(ji45)] : List Int)) t350 t351) else (none)) else (none)) = some (r1, r2) := by first | (rw [hji45] at H; exact H) | (simp only [hji45] at H ⊢; exact H)
           have hji45w : (IntKind.i64.wrap ((rd x7_1 x13_2) - 1)) = ji45 := (i64_w _).trans hji45
           by_cases c46 : 0 ≤ (ji45)
           rotate_left
           ·
            rw [if_neg c46] at H
            exact absurd H (by simp)
           rw [if_pos c46] at H
           have c46b0 : decide (0 ≤ (ji45)) = true := decide_eq_true c46
           clear c46
           by_cases c47 : (ji45) < (x12_2.length : Int)
           rotate_left
           ·
            rw [if_neg c47] at H
            exact absurd H (by simp)
           rw [if_pos c47] at H
           have c47b0 : decide ((ji45) < (x12_2.length : Int)) = true := decide_eq_true c47
           clear c47
           obtain ⟨y366, hy366⟩ : ∃ y_ : List Int, y_ = (x12_2.set ((ji45) : Int).toNat (ji45)) := ⟨_, rfl⟩
           replace H : (walk_Strong.l2 kj37 x7_1 t355 y366 x13_2 (ji45) (([(ji45)] : List Int)) t350 t351) = some (r1, r2) := by first | (rw [hy366]; exact H) | exact H
           have Ny366 := ak hy366
           clear hy366
           obtain ⟨y367, hy367⟩ : ∃ y_ : List Int, y_ = (([(ji45)] : List Int)) := ⟨_, rfl⟩
           replace H : (walk_Strong.l2 kj37 x7_1 t355 y366 x13_2 (ji45) y367 t350 t351) = some (r1, r2) := by first | (rw [hy367]; exact H) | exact H
           have Ny367 := ak hy367
           clear hy367
           have H' := ak H
           clear H
           have p48 : 0 ≤ ((ji45) : Int) := oda
           have q48 : ((ji45) : Int) < ((x12_2.length : Int) : Int) := oda
           obtain ⟨go48, co48, eo48, gb48, gl48, cl48, HG48⟩ := Kd.R_form HO_12.out (by omega)
           (first | cases eo48 | (injection eo48 with ea_ en_ ec_; (first | subst ea_ | (injection ea_ with ea_; subst ea_)); subst ec_; clear en_))
           have GB48 := ak gb48
           have GG48 := ak HG48
           clear gb48 gl48 HG48
           obtain ⟨hx48_0, hf48_0⟩ := Kd.R_celln 0 HO_12.out ((ji45) : Int) p48 q48
           replace p48 := eq_true p48
           replace q48 := eq_true q48
           have HP49 := Kd.R_putg HO_12.out ((ji45) : Int) (ji45)
           go_wp2_with (first | ((with_reducible refine gate_store (t := 3) (p := 77) rfl ?_); refine store_event (t := 3) (p := 77) (v := ?vo_w50) (w1 := (wc.setCell ⟨go48, ((ji45) : Int).toNat, none⟩ (.int .i64 (ji45)))) ?hg ?ho ?hn ?hr ?_; (case ho => rfl); (case hg => rfl); (case hn => rfl); (case hr => first | (go_simp; done) | (go_simp; rfl)); intro w50 hw; have hg : wc.grownBy w50 (some go48) := (by rw [hw]; exact HP49.2); have hp_ : Kd.R (Kd.int .i64) 3 w50 w.heap.size (fun k_ => some k_ ≠ (.slice (some ad364) x7_1.length co34 : Value).ownBlock) (.slice (some ⟨go48, 0, none⟩) x12_2.length co48) y366 := (by rw [hw, Ny366.out]; exact HP49.1); clear HP49; have n0_ := ak (Kd.R_after (v := (.slice (some ⟨go48, 0, none⟩) x12_2.length co48)) (v1 := (.slice (some ⟨go48, 0, none⟩) x12_2.length co48)) (ok := (fun _ => True)) (by exact rx (Kd.R_mono HO_7.out (fun _ hk => ⟨trivial, hk⟩))) hg (.inl rfl)); have n1_ := ak (Kd.S_after (v := (.slice (some ⟨go48, 0, none⟩) x12_2.length co48)) (v1 := (.slice (some ⟨go48, 0, none⟩) x12_2.length co48)) (ok := (fun k_ => some k_ ≠ (.slice (some ad364) x7_1.length co34 : Value).ownBlock)) (sx HO_11.out) hg (.inl rfl)); have n2_ := ak (hp_); have n3_ := ak (Kd.R_over' (v := (.slice (some ⟨go48, 0, none⟩) x12_2.length co48)) (rx HO_355001.out) (Kd.R_typed HO_12.out) (by decide) hg); have n4_ := ak (blk_grown (bx BK337.out) hg (Kd.R_ne HO_12.out BK337.out (by decide))); have n5_ := ak (blk_grown (bx BK354.out) hg (Kd.R_ne HO_12.out BK354.out (by decide))); have n6_ := ak ((by rw [hw]; exact below_set (HB.out) GB48.out : Below w.heap.size w w50)); clear HO_7; clear HO_11; clear HO_12; clear HO_355001; clear BK337; clear BK354; clear HB; have HO_7 := n0_; have HO_11 := n1_; have HO_12 := n2_; have HO_355001 := n3_; have BK337 := n4_; have BK354 := n5_; have HB := n6_; clear n0_ n1_ n2_ n3_ n4_ n5_ n6_; clear hg hw hp_) | ((with_reducible refine gate_dst (N := 79) rfl ?_); refine Kd.R_lit (Kd.int .i64) _ 3 ?hg (N := 79) ?hd (xs := ([(ji45)] : List Int)) (inner := [.int .i64 (ji45)]) (ok := fun _ => True) (okp := fun _ => True) ?hr ?hp (fun _ hk => hk) trivial (Below.refl _ _) (Nat.le_refl _) (by simp) ?_; (case hd => rfl); (case hg => rfl); (case hr => first | (go_simp; done) | (go_simp; rfl)); (case hp => exact (Reps.one (show Kd.M (Kd.int .i64) _ _ _ (ji45) [.int .i64 (ji45)] from rfl) (Reps.none _ _))); intro v368 w51 ho52 hb hg_ hnew_; clear hg_ hnew_; (first | rw [← Ny367.out] at ho52 | (simp only [Int.reduceToNat] at ho52; rw [← Ny367.out] at ho52)); have n0_ := ak (Kd.R_elder' (rx HO_7.out) (Kd.R_base ho52) hb); have n1_ := ak (Kd.S_elder' (sx HO_11.out) (Kd.R_base ho52) hb); have n2_ := ak (Kd.R_elder' (rx HO_12.out) (Kd.R_base ho52) hb); have n3_ := ak (Kd.R_below (rx HO_355001.out) hb); have n4_ := ak (Kd.R_lower (Kd.R_new' (Kd.R_new' ho52 (Kd.R_lt (rx HO_7.out))) (Kd.R_lt (rx HO_12.out))) (below_size lb)); have n5_ := ak (blk_below (bx BK337.out) hb); have n6_ := ak (blk_below (bx BK354.out) hb); have n7_ := ak (below_step lb hb); clear HO_7; clear HO_11; clear HO_12; clear HO_355001; clear BK337; clear BK354; clear HB; have HO_7 := n0_; have HO_11 := n1_; have HO_12 := n2_; have HO_355001 := n3_; have HO369 := n4_; have BK337 := n5_; have BK354 := n6_; have HB := n7_; clear n0_ n1_ n2_ n3_ n4_ n5_ n6_ n7_; clear hb ho52))
           go_loopg [15] kj37 (fun kq v15 w' => ∃ (x12_4 : List Int) (x15_4 : List Int), Aside0 (walk_Strong.l2 kq x7_1 t355 x12_4 x13_2 (ji45) x15_4 t350 t351 = some (r1, r2)) ∧ Aside0 (kq ≤ kj37) ∧ Aside0 (Kd.R (Kd.int .i64) 3 w' w.heap.size (fun k_ => some k_ ≠ ((.slice (some ⟨go48, 0, none⟩) x12_2.length co48) : Value).ownBlock ∧ some k_ ≠ (v15 : Value).ownBlock) (.slice (some ad364) x7_1.length co34) x7_1) ∧ Aside0 (Kd.S (Kd.slice 3 (Kd.int .i64)) 26 w' w.heap.size (fun k_ => some k_ ≠ ((.slice (some ad364) x7_1.length co34) : Value).ownBlock ∧ some k_ ≠ ((.slice (some ⟨go48, 0, none⟩) x12_2.length co48) : Value).ownBlock ∧ some k_ ≠ (v15 : Value).ownBlock) v356 t355) ∧ Aside0 (Kd.R (Kd.int .i64) 3 w' w.heap.size (fun k_ => some k_ ≠ ((.slice (some ad364) x7_1.length co34) : Value).ownBlock ∧ some k_ ≠ (v15 : Value).ownBlock) (.slice (some ⟨go48, 0, none⟩) x12_2.length co48) x12_4) ∧ Aside0 (Kd.R (Kd.int .i64) 3 w' w.heap.size (fun k_ => some k_ ≠ ((.slice (some ad364) x7_1.length co34) : Value).ownBlock ∧ some k_ ≠ ((.slice (some ⟨go48, 0, none⟩) x12_2.length co48) : Value).ownBlock) v15 x15_4) ∧ Aside0 (Kd.R k41 41 w' w.heap.size (fun _ => True) (.slice Ao30 t351.length co30) t351) ∧ Aside0 (w'.heap[gb337]? = some (.cells #[.int .i64 a0_0, (.slice A0_1 l0_1.length c0_1)] 24 (0, 0))) ∧ Aside0 (w'.heap[gb354]? = some (.cells #[.int .i64 t350, (.slice Ao30 t351.length co30)] 24 (0, 0))) ∧ Aside0 (Below w.heap.size w w'))
           case atStart => exact ⟨(y366), (y367), H', ⟨Nat.le_refl _⟩, ⟨by exact rx (Kd.R_mono HO_7.out (fun _ hk => ⟨hk.1.2, hk.2⟩))⟩, ⟨by exact sx (Kd.S_mono HO_11.out (fun _ hk => ⟨hk.1.1, ⟨hk.1.2, hk.2⟩⟩))⟩, ⟨rx HO_12.out⟩, ⟨by exact rx (Kd.R_mono HO369.out (fun _ hk => ⟨hk.1.2, hk.2⟩))⟩, ⟨rx HO_355001.out⟩, ⟨bx BK337.out⟩, ⟨bx BK354.out⟩, ⟨lb⟩⟩
           case round =>
            clear H'
            try clear c1; try clear p1; try clear q1; try clear hx1; try clear hf1; try clear c2; try clear p2; try clear c3; try clear c3b0; try clear c3b1; try clear p3; try clear q3; try clear hx3; try clear c4; try clear p4; try clear q4; try clear hx4; try clear hf4; try clear c5; try clear c5b0; try clear c5b1; try clear c6; try clear c6b0; try clear c6b1; try clear p6; try clear c14; try clear c14b0; try clear c15; try clear c15b0; try clear c16; try clear c16b0; try clear c17; try clear c17b0; try clear c18; try clear c18b0; try clear c19; try clear p19; try clear q19; try clear hx19; try clear hf19; try clear c21; try clear c28; try clear c30; try clear c31; try clear p34; try clear q34; try clear hx34; try clear c35; try clear c35b0; try clear c36; try clear c36b0; try clear p36; try clear q36; try clear hx36; try clear c37; try clear c37b0; try clear c38; try clear c39; try clear c39b0; try clear c41; try clear c41b0; try clear c42; try clear c42b0; try clear c44; try clear c46; try clear c46b0; try clear c47; try clear c47b0; try clear p48; try clear q48; try clear hx48; try clear hf48; try clear hcz10_0; try clear hcz10_1; try clear hcz25_0; try clear hcz25_1; try clear hcz29_0; try clear hcz29_1; try clear hcz32_0; try clear hcz32_1; try clear hcz8_0; try clear hcz8_1; try clear hfz10_0; try clear hfz10_1; try clear hfz25_0; try clear hfz25_1; try clear hfz29_0; try clear hfz29_1; try clear hfz32_0; try clear hfz32_1; try clear hfz8_0; try clear hfz8_1; try clear hx19_0; try clear hx348_0; try clear hx364_0; try clear hx365_0; try clear hx48_0; try clear p1; try clear p19; try clear p2; try clear p3; try clear p34; try clear p348; try clear p36; try clear p364; try clear p365; try clear p48; try clear p6; try clear q1; try clear q19; try clear q3; try clear q34; try clear q348; try clear q36; try clear q364; try clear q365; try clear q48
            obtain ⟨x12_4, x15_4, HA, HK4, HO_7, HO_11, HO_12, HO_15, HO_355001, BK337, BK354, HB⟩ := hrel
            have hl12_4 := (Kd.R_reads' HO_12.out).1
            rw [hl12_4] at HO_12
            (try simp only [hl12_4])
            (try simp only [hl12_4] at BK337)
            (try simp only [hl12_4] at BK354)
            (try simp only [hl12_4] at HO_7)
            (try simp only [hl12_4] at HO_11)
            (try simp only [hl12_4] at HO_15)
            (try simp only [hl12_4] at HO_355001)
            cases gk with
            | zero => exact absurd HA.out (by simp [walk_Strong.l2])
            | succ k4 =>
             have H := HA.out
             clear HA
             simp only [walk_Strong.l2] at H
             by_cases c53 : (x15_4.length : Int) > 0
             ·
              rw [if_pos c53] at H
              have c53b0 : decide (0 < (x15_4.length : Int)) = true := decide_eq_true c53
              have c53b1 : decide (0 < x15_4.length) = true := decide_eq_true (by omega)
              clear c53
              obtain ⟨ji54, hji54⟩ : ∃ j_ : Int, (wrap64 ((x15_4.length : Int) - 1)) = j_ := ⟨_, rfl⟩
              replace H : (if 0 ≤ (ji54) then (if (ji54) < (x15_4.length : Int) then (if (ji54) ≤ (x15_4.length : Int) then (if 0 ≤ (rd x15_4 (ji54)) then (if (rd x15_4 (ji54)) < (t355.length : Int) then (walk_Strong.l3 k4 x7_1 t355 x12_4 x13_2 (ji45) (x15_4.take ((ji54) : Int).toNat) (rd_L2 t355 (rd x15_4 (ji54))) ((rd_L2 t355 (rd x15_4 (ji54))).length : Int) 0 t350 t351) else (none)) else (none)) else (none)) else (none)) else (none)) = some (r1, r2) := by first | (rw [hji54] at H; exact H) | (simp only [hji54] at H ⊢; exact H)
              have hji54w : (IntKind.i64.wrap ((x15_4.length : Int) - 1)) = ji54 := (i64_w _).trans hji54
              by_cases c55 : 0 ≤ (ji54)
              rotate_left
              ·
               rw [if_neg c55] at H
               exact absurd H (by simp)
              rw [if_pos c55] at H
              have c55b0 : decide (0 ≤ (ji54)) = true := decide_eq_true c55
              clear c55
              by_cases c56 : (ji54) < (x15_4.length : Int)
              rotate_left
              ·
               rw [if_neg c56] at H
               exact absurd H (by simp)
              rw [if_pos c56] at H
              have c56b0 : decide ((ji54) < (x15_4.length : Int)) = true := decide_eq_true c56
              clear c56
              by_cases c57 : (ji54) ≤ (x15_4.length : Int)
              rotate_left
              ·
               rw [if_neg c57] at H
               exact absurd H (by simp)
              rw [if_pos c57] at H
              have c57b0 := eq_true c57
              have c57b1 : decide ((ji54) ≤ (x15_4.length : Int)) = true := decide_eq_true c57
              clear c57
              obtain ⟨y371, hy371⟩ : ∃ y_ : List Int, y_ = (x15_4.take ((ji54) : Int).toNat) := ⟨_, rfl⟩
              replace H : (if 0 ≤ (rd x15_4 (ji54)) then (if (rd x15_4 (ji54)) < (t355.length : Int) then (walk_Strong.l3 k4 x7_1 t355 x12_4 x13_2 (ji45) y371 (rd_L2 t355 (rd x15_4 (ji54))) ((rd_L2 t355 (rd x15_4 (ji54))).length : Int) 0 t350 t351) else (none)) else (none)) = some (r1, r2) := by first | (rw [hy371]; exact H) | exact H
              have Ny371 := ak hy371
              clear hy371
              by_cases c58 : 0 ≤ (rd x15_4 (ji54))
              rotate_left
              ·
               rw [if_neg c58] at H
               exact absurd H (by simp)
              rw [if_pos c58] at H
              have c58b0 : decide (0 ≤ (rd x15_4 (ji54))) = true := decide_eq_true c58
              clear c58
              by_cases c59 : (rd x15_4 (ji54)) < (t355.length : Int)
              rotate_left
              ·
               rw [if_neg c59] at H
               exact absurd H (by simp)
              rw [if_pos c59] at H
              have c59b0 : decide ((rd x15_4 (ji54)) < (t355.length : Int)) = true := decide_eq_true c59
              clear c59
              have H' := ak H
              clear H
              obtain ⟨Ao60, co60, eo60⟩ := Kd.R_slice HO_15.out
              subst eo60
              have p370 : 0 ≤ ((ji54) : Int) := oda
              have q370 : (ji54) < (x15_4.length : Int) := oda
              obtain ⟨ad370, e370, hx370_0⟩ := Kd.at_int (Kd.R_reads' HO_15.out).2.2 (ji54) p370 q370
              cases e370
              replace p370 := eq_true p370
              replace q370 := eq_true q370
              have q61 : ((ji54) : Int) ≤ ((x15_4.length : Int) : Int) := oda
              obtain ⟨i061, hi061, _, hsz61, _⟩ := info_parts info3
              have hcut61 := cut_to (P := Try.prog) 26 3 .i64 Try.underlying26 hi061 (some ad370) x15_4.length co60 (ji54) (oda) q61 (Kd.R_reads' HO_15.out).2.1
              have hr61 := Kd.R_take (m := ((ji54) : Int).toNat) HO_15.out (by omega)
              have hy61 : y371.length = ((ji54) : Int).toNat := (by rw [Ny371.out, List.length_take]; omega)
              rw [← Ny371.out] at hr61
              rw [← hy61] at hr61 hcut61
              clear hy61 hi061 hsz61 HO_15
              have HO373 := ak hr61
              clear hr61
              replace q61 := eq_true q61
              obtain ⟨Ao62, co62, eo62⟩ := Kd.S_slice HO_11.out
              subst eo62
              have p374 : 0 ≤ ((rd x15_4 (ji54)) : Int) := oda
              have q374 : (rd x15_4 (ji54)) < (t355.length : Int) := oda
              obtain ⟨ad374, A374_0, c374_0, e374, hx374_0, hl374_0, hi374_0⟩ := at_L2 (Kd.S_reads' HO_11.out).2.2 (rd x15_4 (ji54)) p374 q374
              cases e374
              obtain ⟨ce374, hce374, hMe374, hcc374⟩ := Kd.S_get HO_11.out [] (rd x15_4 (ji54)) p374 (by first | exact q374 | exact oda | (have e_ := (Kd.S_reads' HO_11.out).1; omega))
              obtain ⟨ve374_0, rfl, ge374_0⟩ := hMe374
              have hv374_0 := hcc374 0 _ rfl
              rw [Nat.add_zero, show ((Kd.slice 3 (Kd.int .i64))).sz = 1 from rfl, Nat.mul_one] at hv374_0
              replace hv374_0 := Option.some.inj (hv374_0.symm.trans hx374_0)
              rw [hv374_0] at ge374_0
              have HL374_0 := ak (show Kd.R (Kd.int .i64) 3 _ _ _ _ (rd_L2 t355 (rd x15_4 (ji54))) from ge374_0)
              clear hv374_0 ge374_0
              clear hcc374 hce374
              have HR374_0 := ak hi374_0
              have HC374_0 := ak hl374_0
              clear hi374_0 hl374_0
              replace p374 := eq_true p374
              replace q374 := eq_true q374
              go_wp2
              go_loopg [15, 99] k4 (fun kq v15 v99 w' => ∃ (x12_5 : List Int) (x15_5 : List Int) (x99_5 : Int), v99 = .int .i64 x99_5 ∧ Aside0 (walk_Strong.l3 kq x7_1 t355 x12_5 x13_2 (ji45) x15_5 (rd_L2 t355 (rd x15_4 (ji54))) ((rd_L2 t355 (rd x15_4 (ji54))).length : Int) x99_5 t350 t351 = some (r1, r2)) ∧ Aside0 (kq ≤ k4) ∧ Aside0 (Kd.R (Kd.int .i64) 3 w' w.heap.size (fun k_ => some k_ ≠ ((.slice (some ⟨go48, 0, none⟩) x12_4.length co48) : Value).ownBlock ∧ some k_ ≠ (v15 : Value).ownBlock) (.slice (some ad364) x7_1.length co34) x7_1) ∧ Aside0 (Kd.S (Kd.slice 3 (Kd.int .i64)) 26 w' w.heap.size (fun k_ => some k_ ≠ ((.slice (some ad364) x7_1.length co34) : Value).ownBlock ∧ some k_ ≠ ((.slice (some ⟨go48, 0, none⟩) x12_4.length co48) : Value).ownBlock ∧ some k_ ≠ (v15 : Value).ownBlock) (.slice (some ad374) t355.length co62) t355) ∧ Aside0 (Kd.R (Kd.int .i64) 3 w' w.heap.size (fun k_ => some k_ ≠ ((.slice (some ad364) x7_1.length co34) : Value).ownBlock ∧ some k_ ≠ ((.slice (some ⟨go48, 0, none⟩) x12_4.length co48) : Value).ownBlock ∧ some k_ ≠ (v15 : Value).ownBlock) (.slice A374_0 (rd_L2 t355 (rd x15_4 (ji54))).length c374_0) (rd_L2 t355 (rd x15_4 (ji54)))) ∧ Aside0 (Kd.R (Kd.int .i64) 3 w' w.heap.size (fun k_ => some k_ ≠ ((.slice (some ad364) x7_1.length co34) : Value).ownBlock ∧ some k_ ≠ (v15 : Value).ownBlock) (.slice (some ⟨go48, 0, none⟩) x12_4.length co48) x12_5) ∧ Aside0 (Kd.R (Kd.int .i64) 3 w' w.heap.size (fun k_ => some k_ ≠ ((.slice (some ad364) x7_1.length co34) : Value).ownBlock ∧ some k_ ≠ ((.slice (some ⟨go48, 0, none⟩) x12_4.length co48) : Value).ownBlock) v15 x15_5) ∧ Aside0 (Kd.R k41 41 w' w.heap.size (fun _ => True) (.slice Ao30 t351.length co30) t351) ∧ Aside0 (w'.heap[gb337]? = some (.cells #[.int .i64 a0_0, (.slice A0_1 l0_1.length c0_1)] 24 (0, 0))) ∧ Aside0 (w'.heap[gb354]? = some (.cells #[.int .i64 t350, (.slice Ao30 t351.length co30)] 24 (0, 0))) ∧ Aside0 (Below w.heap.size w w'))
              case atStart => exact ⟨(x12_4), (y371), (0), (by first | rfl | (simp [*]; done)), H', ⟨Nat.le_refl _⟩, ⟨by (try simp only [hl12_4]); exact rx HO_7.out⟩, ⟨by (try simp only [hl12_4]); exact sx HO_11.out⟩, ⟨by (try simp only [hl12_4]); (with_reducible repeat (first | apply Kd.R_alloc | apply Kd.R_drewN | apply Kd.R_drew)); exact (Kd.R_mono HL374_0.out (fun _ hk_ => hk_.1))⟩, ⟨by (try simp only [hl12_4]); exact rx HO_12.out⟩, ⟨by (try simp only [hl12_4]); exact rx HO373.out⟩, ⟨by (try simp only [hl12_4]); exact rx HO_355001.out⟩, ⟨by (try simp only [hl12_4]); exact bx BK337.out⟩, ⟨by (try simp only [hl12_4]); exact bx BK354.out⟩, ⟨lb⟩⟩
              case round =>
               clear H'
               try clear c1; try clear p1; try clear q1; try clear hx1; try clear hf1; try clear c2; try clear p2; try clear c3; try clear c3b0; try clear c3b1; try clear p3; try clear q3; try clear hx3; try clear c4; try clear p4; try clear q4; try clear hx4; try clear hf4; try clear c5; try clear c5b0; try clear c5b1; try clear c6; try clear c6b0; try clear c6b1; try clear p6; try clear q6; try clear c14; try clear c14b0; try clear c15; try clear c15b0; try clear c16; try clear c16b0; try clear c17; try clear c17b0; try clear c18; try clear c18b0; try clear c19; try clear p19; try clear q19; try clear hx19; try clear hf19; try clear c21; try clear c28; try clear c30; try clear c31; try clear p34; try clear q34; try clear hx34; try clear c35; try clear c35b0; try clear c36; try clear c36b0; try clear p36; try clear q36; try clear hx36; try clear c37; try clear c37b0; try clear p37; try clear q37; try clear hx37; try clear c38; try clear c39; try clear c39b0; try clear c41; try clear c41b0; try clear c42; try clear c42b0; try clear c44; try clear c46; try clear c46b0; try clear c47; try clear c47b0; try clear p48; try clear q48; try clear hx48; try clear hf48; try clear c53; try clear c53b0; try clear c53b1; try clear c55; try clear c55b0; try clear c56; try clear c56b0; try clear c57; try clear c57b0; try clear c57b1; try clear c58; try clear c58b0; try clear c59; try clear c59b0; try clear q61; try clear hcz10_0; try clear hcz10_1; try clear hcz25_0; try clear hcz25_1; try clear hcz29_0; try clear hcz29_1; try clear hcz32_0; try clear hcz32_1; try clear hcz8_0; try clear hcz8_1; try clear hfz10_0; try clear hfz10_1; try clear hfz25_0; try clear hfz25_1; try clear hfz29_0; try clear hfz29_1; try clear hfz32_0; try clear hfz32_1; try clear hfz8_0; try clear hfz8_1; try clear hx19_0; try clear hx348_0; try clear hx364_0; try clear hx365_0; try clear hx370_0; try clear hx374_0; try clear hx48_0; try clear p1; try clear p19; try clear p2; try clear p3; try clear p34; try clear p348; try clear p36; try clear p364; try clear p365; try clear p370; try clear p374; try clear p4; try clear p48; try clear p6; try clear q1; try clear q19; try clear q3; try clear q34; try clear q348; try clear q36; try clear q364; try clear q365; try clear q370; try clear q374; try clear q4; try clear q48; try clear q61
               obtain ⟨x12_5, x15_5, x99_5, rfl, HA, HK5, HO_7, HO_11, HL374_0, HO_12, HO_15, HO_355001, BK337, BK354, HB⟩ := hrel
               have hl12_5 := (Kd.R_reads' HO_12.out).1
               rw [hl12_5] at HO_12
               (try simp only [hl12_5])
               (try simp only [hl12_5] at BK337)
               (try simp only [hl12_5] at BK354)
               (try simp only [hl12_5] at HO_7)
               (try simp only [hl12_5] at HO_11)
               (try simp only [hl12_5] at HL374_0)
               (try simp only [hl12_5] at HO_15)
               (try simp only [hl12_5] at HO_355001)
               cases gk with
               | zero => exact absurd HA.out (by simp [walk_Strong.l3])
               | succ k5 =>
                have H := HA.out
                clear HA
                simp only [walk_Strong.l3] at H
                by_cases c63 : x99_5 < ((rd_L2 t355 (rd x15_4 (ji54))).length : Int)
                ·
                 rw [if_pos c63] at H
                 have c63b0 : decide (x99_5 < ((rd_L2 t355 (rd x15_4 (ji54))).length : Int)) = true := decide_eq_true c63
                 clear c63
                 by_cases c64 : 0 ≤ x99_5
                 rotate_left
                 ·
                  rw [if_neg c64] at H
                  exact absurd H (by simp)
                 rw [if_pos c64] at H
                 have c64b0 : decide (0 ≤ x99_5) = true := decide_eq_true c64
                 clear c64
                 by_cases c65 : x99_5 < ((rd_L2 t355 (rd x15_4 (ji54))).length : Int)
                 rotate_left
                 ·
                  rw [if_neg c65] at H
                  exact absurd H (by simp)
                 rw [if_pos c65] at H
                 have c65b0 : decide (x99_5 < ((rd_L2 t355 (rd x15_4 (ji54))).length : Int)) = true := decide_eq_true c65
                 clear c65
                 by_cases c66 : 0 ≤ (rd (rd_L2 t355 (rd x15_4 (ji54))) x99_5)
                 rotate_left
                 ·
                  rw [if_neg c66] at H
                  exact absurd H (by simp)
                 rw [if_pos c66] at H
                 have c66b0 : decide (0 ≤ (rd (rd_L2 t355 (rd x15_4 (ji54))) x99_5)) = true := decide_eq_true c66
                 clear c66
                 by_cases c67 : (rd (rd_L2 t355 (rd x15_4 (ji54))) x99_5) < (t351.length : Int)
                 rotate_left
                 ·
                  rw [if_neg c67] at H
                  exact absurd H (by simp)
                 rw [if_pos c67] at H
                 have c67b0 : decide ((rd (rd_L2 t355 (rd x15_4 (ji54))) x99_5) < (t351.length : Int)) = true := decide_eq_true c67
                 clear c67
                 by_cases c68 : 0 ≤ ((rd_T41 t351 (rd (rd_L2 t355 (rd x15_4 (ji54))) x99_5)).f1)
                 rotate_left
                 ·
                  rw [if_neg c68] at H
                  exact absurd H (by simp)
                 rw [if_pos c68] at H
                 have c68b0 : decide (0 ≤ ((rd_T41 t351 (rd (rd_L2 t355 (rd x15_4 (ji54))) x99_5)).f1)) = true := decide_eq_true c68
                 clear c68
                 by_cases c69 : ((rd_T41 t351 (rd (rd_L2 t355 (rd x15_4 (ji54))) x99_5)).f1) < (x12_5.length : Int)
                 rotate_left
                 ·
                  rw [if_neg c69] at H
                  exact absurd H (by simp)
                 rw [if_pos c69] at H
                 have c69b0 : decide (((rd_T41 t351 (rd (rd_L2 t355 (rd x15_4 (ji54))) x99_5)).f1) < (x12_5.length : Int)) = true := decide_eq_true c69
                 clear c69
                 by_cases c70 : (rd x12_5 ((rd_T41 t351 (rd (rd_L2 t355 (rd x15_4 (ji54))) x99_5)).f1)) < 0
                 ·
                  rw [if_pos c70] at H
                  have c70b0 : decide ((rd x12_5 ((rd_T41 t351 (rd (rd_L2 t355 (rd x15_4 (ji54))) x99_5)).f1)) < 0) = true := decide_eq_true c70
                  clear c70
                  obtain ⟨y378, hy378⟩ : ∃ y_ : List Int, y_ = (x12_5.set (((rd_T41 t351 (rd (rd_L2 t355 (rd x15_4 (ji54))) x99_5)).f1) : Int).toNat (ji45)) := ⟨_, rfl⟩
                  replace H : (if x15_5.length < 17592186044416 then (walk_Strong.l3 k5 x7_1 t355 y378 x13_2 (ji45) (x15_5 ++ [(rd_T41 t351 (rd (rd_L2 t355 (rd x15_4 (ji54))) x99_5)).f1]) (rd_L2 t355 (rd x15_4 (ji54))) ((rd_L2 t355 (rd x15_4 (ji54))).length : Int) (wrap64 (x99_5 + 1)) t350 t351) else (none)) = some (r1, r2) := by first | (rw [hy378]; exact H) | exact H
                  have Ny378 := ak hy378
                  clear hy378
                  by_cases c72 : x15_5.length < 17592186044416
                  rotate_left
                  ·
                   rw [if_neg c72] at H
                   exact absurd H (by simp)
                  rw [if_pos c72] at H
                  have LMc72 := ak c72
                  clear c72
                  obtain ⟨y379, hy379⟩ : ∃ y_ : List Int, y_ = (x15_5 ++ [(rd_T41 t351 (rd (rd_L2 t355 (rd x15_4 (ji54))) x99_5)).f1]) := ⟨_, rfl⟩
                  replace H : (walk_Strong.l3 k5 x7_1 t355 y378 x13_2 (ji45) y379 (rd_L2 t355 (rd x15_4 (ji54))) ((rd_L2 t355 (rd x15_4 (ji54))).length : Int) (wrap64 (x99_5 + 1)) t350 t351) = some (r1, r2) := by first | (rw [hy379]; exact H) | exact H
                  have Ny379 := ak hy379
                  clear hy379
                  have H' := ak H
                  clear H
                  have p375 : 0 ≤ (x99_5 : Int) := oda
                  have q375 : x99_5 < ((rd_L2 t355 (rd x15_4 (ji54))).length : Int) := oda
                  obtain ⟨ad375, e375, hx375_0⟩ := Kd.at_int (Kd.R_reads' HL374_0.out).2.2 x99_5 p375 q375
                  cases e375
                  (try replace hx375_0 := (HB.out.cell (World.block_lt_of_cell? w _ hx375_0)).trans hx375_0)
                  replace p375 := eq_true p375
                  replace q375 := eq_true q375
                  have hnb73 := NB354_337.out
                  have hnc73 := NB337_354.out
                  have hcz74_0 : wr.cell? ⟨gb354, 0, none⟩ = some (.int .i64 t350) := (blk_cell BK354.out 0).trans rfl
                  have hcz74_1 : wr.cell? ⟨gb354, 1, none⟩ = some (.slice Ao30 t351.length co30) := (blk_cell BK354.out 1).trans rfl
                  have hfz74_0 := blk_frozen BK354.out 0
                  have hfz74_1 := blk_frozen BK354.out 1
                  have p376 : 0 ≤ ((rd (rd_L2 t355 (rd x15_4 (ji54))) x99_5) : Int) := oda
                  have q376 : (rd (rd_L2 t355 (rd x15_4 (ji54))) x99_5) < (t351.length : Int) := oda
                  obtain ⟨ad376, e376, hx376_0, hx376_1, hx376_2, hx376_3⟩ := at_T41 (Kd.R_reads' HO_355001.out).2.2 (rd (rd_L2 t355 (rd x15_4 (ji54))) x99_5) p376 q376
                  cases e376
                  replace p376 := eq_true p376
                  replace q376 := eq_true q376
                  have p377 : 0 ≤ (((rd_T41 t351 (rd (rd_L2 t355 (rd x15_4 (ji54))) x99_5)).f1) : Int) := oda
                  have q377 : ((rd_T41 t351 (rd (rd_L2 t355 (rd x15_4 (ji54))) x99_5)).f1) < (x12_5.length : Int) := oda
                  obtain ⟨ad377, e377, hx377_0⟩ := Kd.at_int (Kd.R_reads' HO_12.out).2.2 ((rd_T41 t351 (rd (rd_L2 t355 (rd x15_4 (ji54))) x99_5)).f1) p377 q377
                  obtain rfl : (⟨go48, 0, none⟩ : Addr) = ad377 := (by injection e377)
                  (first | simp only [add_plain] at hx377_0 | simp only [add_at] at hx377_0 | simp only [Addr.add, Nat.zero_add] at hx377_0 | skip)
                  replace p377 := eq_true p377
                  replace q377 := eq_true q377
                  have p71 : 0 ≤ (((rd_T41 t351 (rd (rd_L2 t355 (rd x15_4 (ji54))) x99_5)).f1) : Int) := oda
                  have q71 : (((rd_T41 t351 (rd (rd_L2 t355 (rd x15_4 (ji54))) x99_5)).f1) : Int) < ((x12_5.length : Int) : Int) := oda
                  obtain ⟨hx71_0, hf71_0⟩ := Kd.R_celln 0 HO_12.out (((rd_T41 t351 (rd (rd_L2 t355 (rd x15_4 (ji54))) x99_5)).f1) : Int) p71 q71
                  replace p71 := eq_true p71
                  replace q71 := eq_true q71
                  have HP75 := Kd.R_putg HO_12.out (((rd_T41 t351 (rd (rd_L2 t355 (rd x15_4 (ji54))) x99_5)).f1) : Int) (ji45)
                  go_wp2_with (first | ((with_reducible refine gate_store (t := 3) (p := 117) rfl ?_); refine store_event (t := 3) (p := 117) (v := ?vo_w76) (w1 := (wr.setCell ⟨go48, (((rd_T41 t351 (rd (rd_L2 t355 (rd x15_4 (ji54))) x99_5)).f1) : Int).toNat, none⟩ (.int .i64 (ji45)))) ?hg ?ho ?hn ?hr ?_; (case ho => rfl); (case hg => rfl); (case hn => rfl); (case hr => first | (go_simp; done) | (go_simp; rfl)); intro w76 hw; have hg : wr.grownBy w76 (some go48) := (by rw [hw]; exact HP75.2); have hp_ : Kd.R (Kd.int .i64) 3 w76 w.heap.size (fun k_ => some k_ ≠ (.slice (some ad364) x7_1.length co34 : Value).ownBlock ∧ some k_ ≠ (u15 : Value).ownBlock) (.slice (some ⟨go48, 0, none⟩) x12_5.length co48) y378 := (by rw [hw, Ny378.out]; exact HP75.1); clear HP75; have n0_ := ak (Kd.R_after (v := (.slice (some ⟨go48, 0, none⟩) x12_5.length co48)) (v1 := (.slice (some ⟨go48, 0, none⟩) x12_5.length co48)) (ok := (fun k_ => some k_ ≠ (u15 : Value).ownBlock)) (by exact rx (Kd.R_mono HO_7.out (fun _ hk => ⟨hk.2, hk.1⟩))) hg (.inl rfl)); have n1_ := ak (Kd.S_after (v := (.slice (some ⟨go48, 0, none⟩) x12_5.length co48)) (v1 := (.slice (some ⟨go48, 0, none⟩) x12_5.length co48)) (ok := (fun k_ => some k_ ≠ (.slice (some ad364) x7_1.length co34 : Value).ownBlock ∧ some k_ ≠ (u15 : Value).ownBlock)) (by exact sx (Kd.S_mono HO_11.out (fun _ hk => ⟨⟨hk.1, hk.2.2⟩, hk.2.1⟩))) hg (.inl rfl)); have n1_L := ak (Kd.R_after (v := (.slice (some ⟨go48, 0, none⟩) x12_5.length co48)) (v1 := (.slice (some ⟨go48, 0, none⟩) x12_5.length co48)) (ok := (fun k_ => some k_ ≠ (.slice (some ad364) x7_1.length co34 : Value).ownBlock ∧ some k_ ≠ (u15 : Value).ownBlock)) (by exact rx (Kd.R_mono HL374_0.out (fun _ hk => ⟨⟨hk.1, hk.2.2⟩, hk.2.1⟩))) hg (.inl rfl)); have n2_ := ak (hp_); have n3_ := ak (Kd.R_after (v := (.slice (some ⟨go48, 0, none⟩) x12_5.length co48)) (v1 := (.slice (some ⟨go48, 0, none⟩) x12_5.length co48)) (ok := (fun k_ => some k_ ≠ (.slice (some ad364) x7_1.length co34 : Value).ownBlock)) (rx HO_15.out) hg (.inl rfl)); have n4_ := ak (Kd.R_over' (v := (.slice (some ⟨go48, 0, none⟩) x12_5.length co48)) (rx HO_355001.out) (Kd.R_typed HO_12.out) (by decide) hg); have n5_ := ak (blk_grown (bx BK337.out) hg (Kd.R_ne HO_12.out BK337.out (by decide))); have n6_ := ak (blk_grown (bx BK354.out) hg (Kd.R_ne HO_12.out BK354.out (by decide))); have n7_ := ak ((by rw [hw]; exact below_set (HB.out) GB48.out : Below w.heap.size w w76)); clear HO_7; clear HO_11; clear HL374_0; clear HO_12; clear HO_15; clear HO_355001; clear BK337; clear BK354; clear HB; have HO_7 := n0_; have HO_11 := n1_; have HL374_0 := n1_L; have HO_12 := n2_; have HO_15 := n3_; have HO_355001 := n4_; have BK337 := n5_; have BK354 := n6_; have HB := n7_; clear n0_ n1_ n2_ n3_ n4_ n5_ n6_ n7_; clear hg hw hp_) | ((with_reducible refine gate_builtin (b := .append) (xs := #[.tmp 118, .tmp 120]) rfl ?_); at_builtin; refine Kd.R_append (Kd.int .i64) (w0 := w) w.heap.size rfl (.tmp 118) (.tmp 120) 26 3 (.int .i64 0) 8 rfl Try.underlying26 info3 rfl (by decide) (by omega) u15 x15_5 ((rd_T41 t351 (rd (rd_L2 t355 (rd x15_4 (ji54))) x99_5)).f1) [.int .i64 ((rd_T41 t351 (rd (rd_L2 t355 (rd x15_4 (ji54))) x99_5)).f1)] (fun k_ => some k_ ≠ (.slice (some ad364) x7_1.length co34 : Value).ownBlock ∧ some k_ ≠ (.slice (some ⟨go48, 0, none⟩) x12_5.length co48 : Value).ownBlock) (fun _ => False) rfl rfl ?aP (fun _ hk => hk.elim) ?aF ?aO ?aB ?aS ?aL ?_; (case aP => exact rfl); (case aB => exact lb); (case aF => exact (fun k_ hk => ⟨Kd.fresh' (Kd.R_lt (rx HO_7.out)) k_ hk, Kd.fresh' (Kd.R_lt (rx HO_12.out)) k_ hk⟩)); (case aO => exact (rx HO_15.out)); (case aS => exact (below_size lb)); (case aL => have := LMc72.out; omega); intro v380 w77 ho hb hg hat; rw [← Ny379.out] at ho; have n0_ := ak (Kd.R_after (ok := (fun k_ => some k_ ≠ (.slice (some ⟨go48, 0, none⟩) x12_5.length co48 : Value).ownBlock)) (by exact rx (Kd.R_mono HO_7.out (fun _ hk => ⟨hk.2, hk.1⟩))) hg hat); have n1_ := ak (Kd.S_after (ok := (fun k_ => some k_ ≠ (.slice (some ad364) x7_1.length co34 : Value).ownBlock ∧ some k_ ≠ (.slice (some ⟨go48, 0, none⟩) x12_5.length co48 : Value).ownBlock)) (by exact sx (Kd.S_mono HO_11.out (fun _ hk => ⟨⟨hk.1.1, hk.2⟩, hk.1.2⟩))) hg hat); have n1_L := ak (Kd.R_after (ok := (fun k_ => some k_ ≠ (.slice (some ad364) x7_1.length co34 : Value).ownBlock ∧ some k_ ≠ (.slice (some ⟨go48, 0, none⟩) x12_5.length co48 : Value).ownBlock)) (by exact rx (Kd.R_mono HL374_0.out (fun _ hk => ⟨⟨hk.1.1, hk.2⟩, hk.1.2⟩))) hg hat); have n2_ := ak (Kd.R_after (ok := (fun k_ => some k_ ≠ (.slice (some ad364) x7_1.length co34 : Value).ownBlock)) (rx HO_12.out) hg hat); have n3_ := ak (Kd.R_over' (rx HO_355001.out) (Kd.R_typed (rx HO_15.out)) (by decide) hg); have n4_ := ak (blk_grown (bx BK337.out) hg (Kd.R_ne HO_15.out BK337.out (by decide))); have n5_ := ak (blk_grown (bx BK354.out) hg (Kd.R_ne HO_15.out BK354.out (by decide))); have n6_ := ak (hb); have n7_ := ak (ho); clear HO_7; clear HO_11; clear HL374_0; clear HO_12; clear HO_355001; clear BK337; clear BK354; clear HB; clear HO_15; have HO_7 := n0_; have HO_11 := n1_; have HL374_0 := n1_L; have HO_12 := n2_; have HO_355001 := n3_; have BK337 := n4_; have BK354 := n5_; have HB := n6_; have HO381 := n7_; clear n0_ n1_ n2_ n3_ n4_ n5_ n6_ n7_; clear ho hb hg hat))
                  (try simp only [← hl12_5])
                  go_roundg k5
                  case measure => have := HK1.out; have := HK2.out; have := HJ37.out; have := HK4.out; have := HK5.out; omega
                  case rel => exact ⟨(y378), (y379), (wrap64 (x99_5 + 1)), (by first | rfl | (simp [*]; done)), H', ⟨by have := HK1.out; have := HK2.out; have := HJ37.out; have := HK4.out; have := HK5.out; omega⟩, ⟨by (try simp only [hl12_4]); (try simp only [hl12_5]); exact rx HO_7.out⟩, ⟨by (try simp only [hl12_4]); (try simp only [hl12_5]); exact sx (Kd.S_mono HO_11.out (fun _ hk => ⟨hk.1.1, ⟨hk.1.2, hk.2⟩⟩))⟩, ⟨by (try simp only [hl12_4]); (try simp only [hl12_5]); exact rx (Kd.R_mono HL374_0.out (fun _ hk => ⟨hk.1.1, ⟨hk.1.2, hk.2⟩⟩))⟩, ⟨by (try simp only [hl12_4]); (try simp only [hl12_5]); exact rx HO_12.out⟩, ⟨by (try simp only [hl12_4]); (try simp only [hl12_5]); exact rx HO381.out⟩, ⟨by (try simp only [hl12_4]); (try simp only [hl12_5]); exact rx HO_355001.out⟩, ⟨by (try simp only [hl12_4]); (try simp only [hl12_5]); exact bx BK337.out⟩, ⟨by (try simp only [hl12_4]); (try simp only [hl12_5]); exact bx BK354.out⟩, ⟨lb⟩⟩
                 ·
                  rw [if_neg c70] at H
                  have c70b0 : decide ((rd x12_5 ((rd_T41 t351 (rd (rd_L2 t355 (rd x15_4 (ji54))) x99_5)).f1)) < 0) = false := decide_eq_false c70
                  clear c70
                  have H' := ak H
                  clear H
                  have p375 : 0 ≤ (x99_5 : Int) := oda
                  have q375 : x99_5 < ((rd_L2 t355 (rd x15_4 (ji54))).length : Int) := oda
                  obtain ⟨ad375, e375, hx375_0⟩ := Kd.at_int (Kd.R_reads' HL374_0.out).2.2 x99_5 p375 q375
                  cases e375
                  (try replace hx375_0 := (HB.out.cell (World.block_lt_of_cell? w _ hx375_0)).trans hx375_0)
                  replace p375 := eq_true p375
                  replace q375 := eq_true q375
                  have hnb78 := NB354_337.out
                  have hnc78 := NB337_354.out
                  have hcz79_0 : wr.cell? ⟨gb354, 0, none⟩ = some (.int .i64 t350) := (blk_cell BK354.out 0).trans rfl
                  have hcz79_1 : wr.cell? ⟨gb354, 1, none⟩ = some (.slice Ao30 t351.length co30) := (blk_cell BK354.out 1).trans rfl
                  have hfz79_0 := blk_frozen BK354.out 0
                  have hfz79_1 := blk_frozen BK354.out 1
                  have p376 : 0 ≤ ((rd (rd_L2 t355 (rd x15_4 (ji54))) x99_5) : Int) := oda
                  have q376 : (rd (rd_L2 t355 (rd x15_4 (ji54))) x99_5) < (t351.length : Int) := oda
                  obtain ⟨ad376, e376, hx376_0, hx376_1, hx376_2, hx376_3⟩ := at_T41 (Kd.R_reads' HO_355001.out).2.2 (rd (rd_L2 t355 (rd x15_4 (ji54))) x99_5) p376 q376
                  cases e376
                  replace p376 := eq_true p376
                  replace q376 := eq_true q376
                  have p377 : 0 ≤ (((rd_T41 t351 (rd (rd_L2 t355 (rd x15_4 (ji54))) x99_5)).f1) : Int) := oda
                  have q377 : ((rd_T41 t351 (rd (rd_L2 t355 (rd x15_4 (ji54))) x99_5)).f1) < (x12_5.length : Int) := oda
                  obtain ⟨ad377, e377, hx377_0⟩ := Kd.at_int (Kd.R_reads' HO_12.out).2.2 ((rd_T41 t351 (rd (rd_L2 t355 (rd x15_4 (ji54))) x99_5)).f1) p377 q377
                  obtain rfl : (⟨go48, 0, none⟩ : Addr) = ad377 := (by injection e377)
                  (first | simp only [add_plain] at hx377_0 | simp only [add_at] at hx377_0 | simp only [Addr.add, Nat.zero_add] at hx377_0 | skip)
                  replace p377 := eq_true p377
                  replace q377 := eq_true q377
                  go_wp2
                  (try simp only [← hl12_5])
                  go_roundg k5
                  case measure => have := HK1.out; have := HK2.out; have := HJ37.out; have := HK4.out; have := HK5.out; omega
                  case rel => exact ⟨(x12_5), (x15_5), (wrap64 (x99_5 + 1)), (by first | rfl | (simp [*]; done)), H', ⟨by have := HK1.out; have := HK2.out; have := HJ37.out; have := HK4.out; have := HK5.out; omega⟩, ⟨by (try simp only [hl12_4]); (try simp only [hl12_5]); exact rx HO_7.out⟩, ⟨by (try simp only [hl12_4]); (try simp only [hl12_5]); exact sx HO_11.out⟩, ⟨by (try simp only [hl12_4]); (try simp only [hl12_5]); exact rx HL374_0.out⟩, ⟨by (try simp only [hl12_4]); (try simp only [hl12_5]); exact rx HO_12.out⟩, ⟨by (try simp only [hl12_4]); (try simp only [hl12_5]); exact rx HO_15.out⟩, ⟨by (try simp only [hl12_4]); (try simp only [hl12_5]); exact rx HO_355001.out⟩, ⟨by (try simp only [hl12_4]); (try simp only [hl12_5]); exact bx BK337.out⟩, ⟨by (try simp only [hl12_4]); (try simp only [hl12_5]); exact bx BK354.out⟩, ⟨lb⟩⟩
                ·
                 rw [if_neg c63] at H
                 have c63b0 : decide (x99_5 < ((rd_L2 t355 (rd x15_4 (ji54))).length : Int)) = false := decide_eq_false c63
                 clear c63
                 have H' := ak H
                 clear H
                 go_wp2
                 (try simp only [← hl12_4, ← hl12_5])
                 go_roundg k5
                 case measure => have := HK1.out; have := HK2.out; have := HJ37.out; have := HK4.out; have := HK5.out; omega
                 case rel => exact ⟨(x12_5), (x15_5), H', ⟨by have := HK1.out; have := HK2.out; have := HJ37.out; have := HK4.out; have := HK5.out; omega⟩, ⟨by (try simp only [hl12_4]); (try simp only [hl12_5]); exact rx HO_7.out⟩, ⟨by (try simp only [hl12_4]); (try simp only [hl12_5]); exact sx HO_11.out⟩, ⟨by (try simp only [hl12_4]); (try simp only [hl12_5]); exact rx HO_12.out⟩, ⟨by (try simp only [hl12_4]); (try simp only [hl12_5]); exact rx HO_15.out⟩, ⟨by (try simp only [hl12_4]); (try simp only [hl12_5]); exact rx HO_355001.out⟩, ⟨by (try simp only [hl12_4]); (try simp only [hl12_5]); exact bx BK337.out⟩, ⟨by (try simp only [hl12_4]); (try simp only [hl12_5]); exact bx BK354.out⟩, ⟨lb⟩⟩
             ·
              rw [if_neg c53] at H
              have c53b0 : decide (0 < (x15_4.length : Int)) = false := decide_eq_false c53
              have c53b1 : decide (0 < x15_4.length) = false := decide_eq_false (by omega)
              clear c53
              have H' := ak H
              clear H
              obtain ⟨Ao80, co80, eo80⟩ := Kd.R_slice HO_15.out
              subst eo80
              go_wp2
              (try simp only [← hl12_4])
              go_roundg k4
              case measure => have := HK1.out; have := HK2.out; have := HJ37.out; have := HK4.out; omega
              case rel => exact ⟨(x12_4), (wrap64 (x13_2 - 1)), (by first | rfl | (simp [*]; done)), H', ⟨by have := HK1.out; have := HK2.out; have := HJ37.out; have := HK4.out; omega⟩, ⟨by (try simp only [hl12_4]); exact rx (Kd.R_mono HO_7.out (fun _ hk => hk.1))⟩, ⟨by (try simp only [hl12_4]); exact sx (Kd.S_mono HO_11.out (fun _ hk => ⟨hk.1, hk.2.1⟩))⟩, ⟨by (try simp only [hl12_4]); exact rx (Kd.R_mono HO_12.out (fun _ hk => hk.1))⟩, ⟨by (try simp only [hl12_4]); exact rx HO_355001.out⟩, ⟨by (try simp only [hl12_4]); exact bx BK337.out⟩, ⟨by (try simp only [hl12_4]); exact bx BK354.out⟩, ⟨lb⟩⟩
       ·
        rw [if_neg c35] at H
        have c35b0 : decide (0 ≤ x13_2) = false := decide_eq_false c35
        clear c35
        replace H := Option.bind_eq_some_iff.mp H
        obtain ⟨t361, A810, H⟩ := H
        replace H : (some (t361, 0)) = some (r1, r2) := H
        have A81 := ak A810
        clear A810
        simp only [Option.some.injEq, Prod.mk.injEq] at H
        obtain ⟨rfl, rfl⟩ := H
        obtain ⟨Ao82, co82, eo82⟩ := Kd.R_slice HO_12.out
        subst eo82
        go_wp2_with (first | ((with_reducible refine gate_callee (f := 39) rfl ?_); refine goesL_ (some 124) rfl rfl Try.func39 (by kernel_rfl) rfl #[.slice Ao82 x12_2.length co82] rfl (by (try simp only [List.map_toArray, List.map_cons, List.map_nil]); first | done | rfl | (simp only [List.length_drop, List.length_take]; rfl)) ?_; (with_reducible refine (walk_numbered.calls k2 _ _ x12_2 t361 _ ?side1 ?side2 A81.out).mono ?_); (case side1 => repeat (first | exact (Kd.R_reads' HO_12.out).2.2 | (with_reducible refine Kd.C_alloc ?_ _) | (with_reducible refine Kd.C_drewN ?_ _) | (with_reducible refine Kd.C_drew ?_))); (case side2 => exact (Kd.R_reads' HO_12.out).2.1); rintro e w83 ⟨v362, rfl, ho0, hb⟩; refine ⟨_, rfl, ?_⟩; have n0_ := ak (Kd.R_elder' (rx HO_7.out) (Kd.R_base ho0) hb); have n1_ := ak (Kd.S_elder' (sx HO_11.out) (Kd.R_base ho0) hb); have n2_ := ak (Kd.R_elder' (rx HO_12.out) (Kd.R_base ho0) hb); have n3_ := ak (Kd.R_below (rx HO_355001.out) hb); have n4_ := ak (Kd.R_lower (Kd.R_new' (Kd.R_new' ho0 (Kd.R_lt (rx HO_7.out))) (Kd.R_lt (rx HO_12.out))) (below_size lb)); have n5_ := ak (blk_below (bx BK337.out) hb); have n6_ := ak (blk_below (bx BK354.out) hb); have n7_ := ak (below_step lb hb); clear HO_7; clear HO_11; clear HO_12; clear HO_355001; clear BK337; clear BK354; clear HB; have HO_7 := n0_; have HO_11 := n1_; have HO_12 := n2_; have HO_355001 := n3_; have HO363 := n4_; have BK337 := n5_; have BK354 := n6_; have HB := n7_; clear n0_ n1_ n2_ n3_ n4_ n5_ n6_ n7_; (try clear hb); (try clear hb2); (try clear hk); (try clear hi); (try clear ho0)))
        go_ret2
        exact ⟨_, by first | rfl | (simp [errW_none, errW_some] <;> rfl) | (simp only [← hji4]; first | rfl | (simp [errW_none, errW_some] <;> rfl)) | (simp [*, errW_none, errW_some] <;> rfl), by exact rx (Kd.R_mono HO363.out (fun _ hk => trivial)), lb⟩
 ·
  rw [if_neg c3] at H
  have c3b0 : (t344 == 0) = false := beq_eq_false_iff_ne.mpr c3
  have c3b1 : (t344 != 0) = true := bne_iff_ne.mpr c3
  simp only [Option.some.injEq, Prod.mk.injEq] at H
  obtain ⟨rfl, rfl⟩ := H
  go_enter Try.func21, Try.ntmps21
  go_wp2_with (first | ((with_reducible refine gate_dst (N := 1) rfl ?_); refine box_event ?hg (N := 1) ?hd (cs := #[.int .i64 a0_0, .slice A0_1 l0_1.length c0_1]) (t := 24) ?hr ?_; (case hd => rfl); (case hg => rfl); (case hr => first | (go_simp; done) | (go_simp; rfl)); intro gb337 hg w84 hbox hb; have n0_ := ak (below_step lb hb); have n1_ := ak (hbox); have n2_ := ak ((by rw [hg]; exact (below_size lb) : w.heap.size ≤ gb337)); have n3_ := ak ((by rw [hg]; exact (below_size lb) : w.heap.size ≤ gb337)); clear HB; have HB := n0_; have BK337 := n1_; have GW337 := n2_; have GE337 := n3_; clear n0_ n1_ n2_ n3_; clear hb hbox hg; have hcz85_0 : w84.cell? ⟨gb337, 0, none⟩ = some (.int .i64 a0_0) := (blk_cell BK337.out 0).trans rfl; have hcz85_1 : w84.cell? ⟨gb337, 1, none⟩ = some (.slice A0_1 l0_1.length c0_1) := (blk_cell BK337.out 1).trans rfl; have hfz85_0 := blk_frozen BK337.out 0; have hfz85_1 := blk_frozen BK337.out 1) | ((with_reducible refine gate_callee (f := 19) rfl ?_); refine goesL_ (some 22) rfl rfl Try.func19 (by kernel_rfl) rfl #[.agg #[.int .i64 a0_0, .slice A0_1 l0_1.length c0_1]] rfl (by (try simp only [List.map_toArray, List.map_cons, List.map_nil]); first | done | rfl | (simp only [List.length_drop, List.length_take]; rfl)) ?_; (with_reducible refine (walk_Visit.calls k a0_0 _ _ l0_1 t338 t341 t344 _ ?side1 ?side2 A2.out).mono ?_); (case side1 => repeat (first | exact (Kd.C_below HR0_1.out HB.out) | (with_reducible refine Kd.C_alloc ?_ _) | (with_reducible refine Kd.C_drewN ?_ _) | (with_reducible refine Kd.C_drew ?_))); (case side2 => exact HC0_1.out); rintro e w86 ⟨v339, v342, rfl, ho0, ho1, hb⟩; refine ⟨_, rfl, ?_⟩; have n0_ := ak (Kd.R_lower ho0 (below_size lb)); have n1_ := ak (Kd.R_lower ho1 (below_size lb)); have n2_ := ak (blk_below (bx BK337.out) hb); have n3_ := ak (below_step lb hb); clear BK337; clear HB; have HO340 := n0_; have HO343 := n1_; have BK337 := n2_; have HB := n3_; clear n0_ n1_ n2_ n3_; (try clear hb); (try clear hb2); (try clear hk); (try clear hi); (try clear ho0); (try clear ho1)))
  go_ret2
  exact ⟨_, by first | rfl | (simp [errW_none, errW_some] <;> rfl) | (simp [*, errW_none, errW_some] <;> rfl), by first | exact Kd.R_nil _ _ _ _ _ | exact Kd.N_nil _ _ _ _ _ | exact Kd.V_nil _ _ _ _ _ | exact Kd.Q_nil _ _ _ _ _ | exact Kd.S_nil _ _ _ _ _, lb⟩

end Go.Proofs.Ytacklfnnpiobgaa.Q
