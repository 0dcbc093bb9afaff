-- PRINTED by print.py (a twelfth state) out of the translation. Not trusted: Lean checks it.
import Derived.Test.YtkdoihcjhccliaaQ0
import Derived.Test.YtkdoihcjhccliaaQ3
import Derived.Test.YtkdoihcjhccliaaQ5
import Derived.Test.YtkdoihcjhccliaaQ6
import Derived.Test.YtkdoihcjhccliaaQ7
namespace Go.Proofs.Ytkdoihcjhccliaa.Q
open Go.RowKit Go.Proofs.YtkdoihcjhccliaaW.PrintWords Go.Proofs.YtkdoihcjhccliaaW.PrintLast Go.Proofs.YtkdoihcjhccliaaW.PrintMore
attribute [local go_sem] max2_int min2_int max_two min_two max_three min_three max_four min_four   -- for this text's walks alone
set_option linter.unusedVariables false
set_option linter.unusedSimpArgs false

/-! ### proof_Max_1: function 49 -/
def proof_Max_1.l0 : Nat → List Int → Int → List Int → Int → Int → Int → Int → List Int → List Bool → Int → Option (Int × Int)
  | 0, _, _, _, _, _, _, _, _, _, _ => none
  | k + 1, x3, x4, x46, x47, x48, x133000, x133001, x133002, x133003, x134000 => if x48 < x47 then (if 0 ≤ x48 then (if x48 < (x46.length : Int) then (if (rd x46 x48) = 0 then (proof_Max_1.l0 k x3 x4 x46 x47 (wrap64 (x48 + 1)) x133000 x133001 x133002 x133003 x134000) else (if x48 = x133000 then (proof_Max_1.l0 k x3 x4 x46 x47 (wrap64 (x48 + 1)) x133000 x133001 x133002 x133003 x134000) else (if x48 = x133001 then (proof_Max_1.l0 k x3 x4 x46 x47 (wrap64 (x48 + 1)) x133000 x133001 x133002 x133003 x134000) else (some (221, x134000))))) else (none)) else (none)) else (if 0 ≤ x133000 then (if x133000 < (x133003.length : Int) then (if rdOf false x133003 x133000 = true then (if 0 ≤ x133001 then (if x133001 < (x133003.length : Int) then (if rdOf false x133003 x133001 = true then (some (221, x134000)) else (if x133000 < (x3.length : Int) then (if (rd x3 x133000) = x4 then (some (0, x4)) else (some (221, x134000))) else (none))) else (none)) else (none)) else (some (221, x134000))) else (none)) else (none))
def proof_Max_1.f (k : Nat) (a0_0 : Int) (l0_1 : List (S98)) (a1_0 : Int) (a1_1 : Int) (l1_2 : List Int) (l1_3 : List Bool) (a2 : Int) : Option (Int × Int) := (proof_right.f k a0_0 l0_1).bind fun t134 => (if t134 = 0 then (if a1_0 ≥ 0 then (if a1_0 < a0_0 then (if a1_1 ≥ 0 then (if a1_1 < a0_0 then (if a1_0 = a1_1 then (some (120, a2)) else ((proof_carried.f k a0_0 l0_1 l1_2).bind fun bt135 => (if bt135.1 = 0 then ((proof_across.f k a0_0 l0_1 l1_3).bind fun bt139 => (if bt139.1 = 0 then (proof_Max_1.l0 k bt135.2 bt139.2 bt135.2 (bt135.2.length : Int) 0 a1_0 a1_1 l1_2 l1_3 a2) else (some (bt139.1, a2)))) else (some (bt135.1, a2))))) else (some (30, a2))) else (some (30, a2))) else (some (30, a2))) else (some (30, a2))) else (some (t134, a2)))
theorem proof_Max_1.mono_l : ∀ k, (∀ y0 y1 y2 y3 y4 y5 y6 y7 y8 y9, LeO (proof_Max_1.l0 k y0 y1 y2 y3 y4 y5 y6 y7 y8 y9) (proof_Max_1.l0 (k + 1) y0 y1 y2 y3 y4 y5 y6 y7 y8 y9))
  | 0 => fun _ _ _ _ _ _ _ _ _ _ r h => by simp [proof_Max_1.l0] at h
  | k + 1 => by
    have ih0 := proof_Max_1.mono_l k
    · intro y0 y1 y2 y3 y4 y5 y6 y7 y8 y9
      unfold proof_Max_1.l0
      repeat' first
      | (with_reducible exact ih0 _ _ _ _ _ _ _ _ _ _)
      | (with_reducible exact proof_across.mono _ _ _ _)
      | (with_reducible exact proof_carried.mono _ _ _ _)
      | (with_reducible exact proof_right.mono _ _ _)
      | (with_reducible exact LeO.refl _)
      | (with_reducible exact LeO.none _)
      | (with_reducible refine LeO.ite ?_ ?_)
      | (with_reducible refine LeO.bind ?_ (fun _ => ?_))
      | exact ih0 _ _ _ _ _ _ _ _ _ _
      | exact proof_across.mono _ _ _ _
      | exact proof_carried.mono _ _ _ _
      | exact proof_right.mono _ _ _
      | exact LeO.none _
      | refine LeO.ite ?_ ?_
      | refine LeO.bind ?_ (fun _ => ?_)
theorem proof_Max_1.mono : ∀ a0 a1 a2 a3 a4 a5 a6 k, LeO (proof_Max_1.f k a0 a1 a2 a3 a4 a5 a6) (proof_Max_1.f (k + 1) a0 a1 a2 a3 a4 a5 a6) := by
  intro a0 a1 a2 a3 a4 a5 a6 k
  have ih0 := proof_Max_1.mono_l k
  unfold proof_Max_1.f
  repeat' first
      | (with_reducible exact ih0 _ _ _ _ _ _ _ _ _ _)
      | (with_reducible exact proof_across.mono _ _ _ _)
      | (with_reducible exact proof_carried.mono _ _ _ _)
      | (with_reducible exact proof_right.mono _ _ _)
      | (with_reducible exact LeO.refl _)
      | (with_reducible exact LeO.none _)
      | (with_reducible refine LeO.ite ?_ ?_)
      | (with_reducible refine LeO.bind ?_ (fun _ => ?_))
      | exact ih0 _ _ _ _ _ _ _ _ _ _
      | exact proof_across.mono _ _ _ _
      | exact proof_carried.mono _ _ _ _
      | exact proof_right.mono _ _ _
      | exact LeO.none _
      | refine LeO.ite ?_ ?_
      | refine LeO.bind ?_ (fun _ => ?_)
set_option maxHeartbeats 8000000 in
set_option maxRecDepth 100000 in
theorem proof_Max_1.calls (k : Nat) (a0_0 : Int) (A0_1 : Option Addr) (c0_1 : Nat) (l0_1 : List (S98)) (a1_0 : Int) (a1_1 : Int) (A1_2 : Option Addr) (c1_2 : Nat) (l1_2 : List Int) (A1_3 : Option Addr) (c1_3 : Nat) (l1_3 : List Bool) (a2 : Int) (r1 : Int) (r2 : Int) (w wc0 : World) (gb131 gb132 gb133 gbx : Nat) (hr0_1 : Kd.C k98 w A0_1 l0_1.length l0_1) (hc0_1 : l0_1.length ≤ c0_1) (hr1_2 : Kd.C (Kd.int .i64) w A1_2 l1_2.length l1_2) (hc1_2 : l1_2.length ≤ c1_2) (hr1_3 : Kd.C Kd.bool w A1_3 l1_3.length l1_3) (hc1_3 : l1_3.length ≤ c1_3) (hB : Below w.heap.size w wc0) (hb0_ : wc0.heap[gb131]? = some (.cells #[.int .i64 a0_0, .slice A0_1 l0_1.length c0_1] 24 (0, 0))) (hg0_ : w.heap.size ≤ gb131) (hb1_ : wc0.heap[gb132]? = some (.cells #[.int .i64 a1_0, .int .i64 a1_1, .slice A1_2 l1_2.length c1_2, .slice A1_3 l1_3.length c1_3] 28 (0, 0))) (hg1_ : w.heap.size ≤ gb132) (hb2_ : wc0.heap[gb133]? = some (.cells #[.int .i64 a2] 2 (0, 0))) (hg2_ : w.heap.size ≤ gb133) (hb3_ : wc0.heap[gbx]? = some (.cells #[.int .i64 0] 30 (0, 0))) (hg3_ : w.heap.size ≤ gbx) (hn0_1_ : gb131 ≠ gb132) (hn0_2_ : gb131 ≠ gb133) (hn0_3_ : gb131 ≠ gbx) (hn1_2_ : gb132 ≠ gb133) (hn1_3_ : gb132 ≠ gbx) (hn2_3_ : gb133 ≠ gbx) (h : proof_Max_1.f k a0_0 l0_1 a1_0 a1_1 l1_2 l1_3 a2 = some (r1, r2)) :
    Calls Try.prog 49 #[.pointer (some ⟨gb131, 0, none⟩), .pointer (some ⟨gb132, 0, none⟩), .pointer (some ⟨gb133, 0, none⟩)] wc0 fun e w' => Gave r1 (e = .returned (.tuple #[])) (e = gave r1) ∧ w'.heap[gb133]? = some (.cells #[.int .i64 r2] 2 (0, 0)) ∧ w'.heap[gbx]? = some (.cells #[.int .i64 0] 30 (0, 0)) ∧ Below w.heap.size w w' := by
 have hu24 := Try.underlying24
 have HR0_1 := ak hr0_1
 have HC0_1 := ak hc0_1
 clear hr0_1 hc0_1
 have HR1_2 := ak hr1_2
 have HC1_2 := ak hc1_2
 clear hr1_2 hc1_2
 have HR1_3 := ak hr1_3
 have HC1_3 := ak hc1_3
 clear hr1_3 hc1_3
 have HB := ak hB
 clear hB
 have BK131 := ak hb0_
 have GW131 := ak hg0_
 have GE131 := ak hg0_
 have BK132 := ak hb1_
 have GW132 := ak hg1_
 have GE132 := ak hg1_
 have BK133 := ak hb2_
 have GW133 := ak hg2_
 have GE133 := ak hg2_
 have BK999 := ak hb3_
 have GW999 := ak hg3_
 have GE999 := ak hg3_
 have NB131_132 := ak hn0_1_
 have NB132_131 := ak hn0_1_.symm
 have NB131_133 := ak hn0_2_
 have NB133_131 := ak hn0_2_.symm
 have NB131_999 := ak hn0_3_
 have NB999_131 := ak hn0_3_.symm
 have NB132_133 := ak hn1_2_
 have NB133_132 := ak hn1_2_.symm
 have NB132_999 := ak hn1_3_
 have NB999_132 := ak hn1_3_.symm
 have NB133_999 := ak hn2_3_
 have NB999_133 := ak hn2_3_.symm
 clear hb0_ hg0_ hb1_ hg1_ hb2_ hg2_ hb3_ hg3_ hn0_1_ hn0_2_ hn0_3_ hn1_2_ hn1_3_ hn2_3_
 have H : ((proof_right.f k a0_0 l0_1).bind fun t134 => (if t134 = 0 then (if a1_0 ≥ 0 then (if a1_0 < a0_0 then (if a1_1 ≥ 0 then (if a1_1 < a0_0 then (if a1_0 = a1_1 then (some (120, a2)) else ((proof_carried.f k a0_0 l0_1 l1_2).bind fun bt135 => (if bt135.1 = 0 then ((proof_across.f k a0_0 l0_1 l1_3).bind fun bt139 => (if bt139.1 = 0 then (proof_Max_1.l0 k bt135.2 bt139.2 bt135.2 (bt135.2.length : Int) 0 a1_0 a1_1 l1_2 l1_3 a2) else (some (bt139.1, a2)))) else (some (bt135.1, a2))))) else (some (30, a2))) else (some (30, a2))) else (some (30, a2))) else (some (30, a2))) else (some (t134, a2)))) = some (r1, r2) := h
 clear h
 replace H := Option.bind_eq_some_iff.mp H
 obtain ⟨t134, A40, H⟩ := H
 replace H : (if t134 = 0 then (if a1_0 ≥ 0 then (if a1_0 < a0_0 then (if a1_1 ≥ 0 then (if a1_1 < a0_0 then (if a1_0 = a1_1 then (some (120, a2)) else ((proof_carried.f k a0_0 l0_1 l1_2).bind fun bt135 => (if bt135.1 = 0 then ((proof_across.f k a0_0 l0_1 l1_3).bind fun bt139 => (if bt139.1 = 0 then (proof_Max_1.l0 k bt135.2 bt139.2 bt135.2 (bt135.2.length : Int) 0 a1_0 a1_1 l1_2 l1_3 a2) else (some (bt139.1, a2)))) else (some (bt135.1, a2))))) else (some (30, a2))) else (some (30, a2))) else (some (30, a2))) else (some (30, a2))) else (some (t134, a2))) = some (r1, r2) := H
 by_cases c5 : t134 = 0
 ·
  subst c5
  have H1 : (if a1_0 ≥ 0 then (if a1_0 < a0_0 then (if a1_1 ≥ 0 then (if a1_1 < a0_0 then (if a1_0 = a1_1 then (some (120, a2)) else ((proof_carried.f k a0_0 l0_1 l1_2).bind fun bt135 => (if bt135.1 = 0 then ((proof_across.f k a0_0 l0_1 l1_3).bind fun bt139 => (if bt139.1 = 0 then (proof_Max_1.l0 k bt135.2 bt139.2 bt135.2 (bt135.2.length : Int) 0 a1_0 a1_1 l1_2 l1_3 a2) else (some (bt139.1, a2)))) else (some (bt135.1, a2))))) else (some (30, a2))) else (some (30, a2))) else (some (30, a2))) else (some (30, a2))) = some (r1, r2) := by rw [if_pos rfl] at H; exact H
  clear H
  have H := H1
  clear H1
  have A4 := ak A40
  clear A40
  by_cases c6 : a1_0 ≥ 0
  ·
   rw [if_pos c6] at H
   have c6b0 : decide (0 ≤ a1_0) = true := decide_eq_true c6
   clear c6
   by_cases c7 : a1_0 < a0_0
   ·
    rw [if_pos c7] at H
    have c7b0 : decide (a1_0 < a0_0) = true := decide_eq_true c7
    clear c7
    by_cases c8 : a1_1 ≥ 0
    ·
     rw [if_pos c8] at H
     have c8b0 : decide (0 ≤ a1_1) = true := decide_eq_true c8
     clear c8
     by_cases c9 : a1_1 < a0_0
     ·
      rw [if_pos c9] at H
      have c9b0 : decide (a1_1 < a0_0) = true := decide_eq_true c9
      clear c9
      have A10 := ak (show proof_need.f true 30 = some () from rfl)
      by_cases c11 : a1_0 = a1_1
      ·
       rw [if_pos c11] at H
       have c11b0 : (a1_0 == a1_1) = true := beq_iff_eq.mpr c11
       have c11b1 : (a1_0 != a1_1) = false := bne_eq_false_iff_eq.mpr c11
       clear c11
       simp only [Option.some.injEq, Prod.mk.injEq] at H
       obtain ⟨rfl, rfl⟩ := H
       have hnb12 := NB131_132.out
       have hnc12 := NB132_131.out
       have hnb13 := NB131_133.out
       have hnc13 := NB133_131.out
       have hnb14 := NB131_999.out
       have hnc14 := NB999_131.out
       have hcz15_0 : wc0.cell? ⟨gb131, 0, none⟩ = some (.int .i64 a0_0) := (blk_cell BK131.out 0).trans rfl
       have hcz15_1 : wc0.cell? ⟨gb131, 1, none⟩ = some (.slice A0_1 l0_1.length c0_1) := (blk_cell BK131.out 1).trans rfl
       have hfz15_0 := blk_frozen BK131.out 0
       have hfz15_1 := blk_frozen BK131.out 1
       go_enter Try.func49, Try.ntmps49
       go_wp2_with (first | ((with_reducible refine gate_callee (f := 50) rfl ?_); refine goesL_ (some 8) rfl rfl Try.func50 (by kernel_rfl) rfl #[.agg #[.int .i64 a0_0, .slice A0_1 l0_1.length c0_1]] rfl (by (try simp only [List.map_toArray, List.map_cons, List.map_nil]); first | done | rfl | (simp only [List.length_drop, List.length_take]; rfl)) ?_; (with_reducible refine (proof_right.ok k a0_0 _ _ l0_1  _ ?side1 ?side2 A4.out).mono ?_); (case side1 => repeat (first | exact (Kd.C_below HR0_1.out HB.out) | (with_reducible refine Kd.C_alloc ?_ _) | (with_reducible refine Kd.C_drewN ?_ _) | (with_reducible refine Kd.C_drew ?_))); (case side2 => exact HC0_1.out); rintro e w16 ⟨rfl, hb⟩; refine ⟨_, rfl, ?_⟩; have n0_ := ak (blk_below (bx BK131.out) hb); have n1_ := ak (blk_below (bx BK132.out) hb); have n2_ := ak (blk_below (bx BK133.out) hb); have n3_ := ak (blk_below (g := gbx) (o := .cells #[.int .i64 0] 30 (0, 0)) (bx BK999.out) hb); have n4_ := ak (below_step lb hb); clear BK131; clear BK132; clear BK133; clear BK999; clear HB; have BK131 := n0_; have BK132 := n1_; have BK133 := n2_; have BK999 := n3_; have HB := n4_; clear n0_ n1_ n2_ n3_ n4_; (try clear hb); (try clear hb2); (try clear hk); (try clear hi); have hnb17 := NB132_133.out; have hnc17 := NB133_132.out; have hnb18 := NB132_999.out; have hnc18 := NB999_132.out; have hcz19_0 : w16.cell? ⟨gb132, 0, none⟩ = some (.int .i64 a1_0) := (blk_cell BK132.out 0).trans rfl; have hcz19_1 : w16.cell? ⟨gb132, 1, none⟩ = some (.int .i64 a1_1) := (blk_cell BK132.out 1).trans rfl; have hcz19_2 : w16.cell? ⟨gb132, 2, none⟩ = some (.slice A1_2 l1_2.length c1_2) := (blk_cell BK132.out 2).trans rfl; have hcz19_3 : w16.cell? ⟨gb132, 3, none⟩ = some (.slice A1_3 l1_3.length c1_3) := (blk_cell BK132.out 3).trans rfl; have hfz19_0 := blk_frozen BK132.out 0; have hfz19_1 := blk_frozen BK132.out 1; have hfz19_2 := blk_frozen BK132.out 2; have hfz19_3 := blk_frozen BK132.out 3; have hcz20_0 : w16.cell? ⟨gb131, 0, none⟩ = some (.int .i64 a0_0) := (blk_cell BK131.out 0).trans rfl; have hcz20_1 : w16.cell? ⟨gb131, 1, none⟩ = some (.slice A0_1 l0_1.length c0_1) := (blk_cell BK131.out 1).trans rfl; have hfz20_0 := blk_frozen BK131.out 0; have hfz20_1 := blk_frozen BK131.out 1) | ((with_reducible refine gate_callee (f := 51) rfl ?_); refine goesL_ (some 31) rfl rfl Try.func51 (by kernel_rfl) rfl #[.bool true, .int .i64 30] rfl (by (try simp only [List.map_toArray, List.map_cons, List.map_nil]); first | done | rfl | (simp only [List.length_drop, List.length_take]; rfl)) ?_; (with_reducible refine (proof_need.calls true 30  _ A10.out).mono ?_); rintro e w' ⟨rfl, ⟨nd, rfl⟩⟩; refine ⟨_, rfl, ?_⟩) | ((with_reducible refine gate_callee (f := 51) rfl ?_); refine panicsL_ (some 37) rfl rfl Try.func51 (by kernel_rfl) rfl #[.bool false, .int .i64 120] rfl (by (try simp only [List.map_toArray, List.map_cons, List.map_nil]); first | done | rfl | (simp only [List.length_drop, List.length_take]; rfl)) ?_; refine (proof_need.bad 120 _).mono ?_; rintro e w' ⟨rfl, rfl⟩; refine ⟨_, rfl, ?_⟩; (repeat (first | refine panic_then ?_ | refine panic_block ?_)); exact panic_body rfl (⟨Gave.no (by first | decide | assumption | (simp_all; done)) rfl, (bx BK133.out), (bx BK999.out), lb⟩)))
      ·
       rw [if_neg c11] at H
       have c11b0 : (a1_0 == a1_1) = false := beq_eq_false_iff_ne.mpr c11
       have c11b1 : (a1_0 != a1_1) = true := bne_iff_ne.mpr c11
       have A21 := ak (show proof_need.f true 120 = some () from rfl)
       replace H := Option.bind_eq_some_iff.mp H
       obtain ⟨⟨t135, t136⟩, A220, H⟩ := H
       replace H : (if t135 = 0 then ((proof_across.f k a0_0 l0_1 l1_3).bind fun bt139 => (if bt139.1 = 0 then (proof_Max_1.l0 k t136 bt139.2 t136 (t136.length : Int) 0 a1_0 a1_1 l1_2 l1_3 a2) else (some (bt139.1, a2)))) else (some (t135, a2))) = some (r1, r2) := H
       by_cases c23 : t135 = 0
       ·
        subst c23
        have H1 : ((proof_across.f k a0_0 l0_1 l1_3).bind fun bt139 => (if bt139.1 = 0 then (proof_Max_1.l0 k t136 bt139.2 t136 (t136.length : Int) 0 a1_0 a1_1 l1_2 l1_3 a2) else (some (bt139.1, a2)))) = some (r1, r2) := by rw [if_pos rfl] at H; exact H
        clear H
        have H := H1
        clear H1
        have A22 := ak A220
        clear A220
        replace H := Option.bind_eq_some_iff.mp H
        obtain ⟨⟨t139, t140⟩, A240, H⟩ := H
        replace H : (if t139 = 0 then (proof_Max_1.l0 k t136 t140 t136 (t136.length : Int) 0 a1_0 a1_1 l1_2 l1_3 a2) else (some (t139, a2))) = some (r1, r2) := H
        by_cases c25 : t139 = 0
        ·
         subst c25
         have H1 : (proof_Max_1.l0 k t136 t140 t136 (t136.length : Int) 0 a1_0 a1_1 l1_2 l1_3 a2) = some (r1, r2) := by rw [if_pos rfl] at H; exact H
         clear H
         have H := H1
         clear H1
         have A24 := ak A240
         clear A240
         have H' := ak H
         clear H
         have hnb26 := NB131_132.out
         have hnc26 := NB132_131.out
         have hnb27 := NB131_133.out
         have hnc27 := NB133_131.out
         have hnb28 := NB131_999.out
         have hnc28 := NB999_131.out
         have hcz29_0 : wc0.cell? ⟨gb131, 0, none⟩ = some (.int .i64 a0_0) := (blk_cell BK131.out 0).trans rfl
         have hcz29_1 : wc0.cell? ⟨gb131, 1, none⟩ = some (.slice A0_1 l0_1.length c0_1) := (blk_cell BK131.out 1).trans rfl
         have hfz29_0 := blk_frozen BK131.out 0
         have hfz29_1 := blk_frozen BK131.out 1
         go_enter Try.func49, Try.ntmps49
         go_wp2_with (first | ((with_reducible refine gate_callee (f := 50) rfl ?_); refine goesL_ (some 8) rfl rfl Try.func50 (by kernel_rfl) rfl #[.agg #[.int .i64 a0_0, .slice A0_1 l0_1.length c0_1]] rfl (by (try simp only [List.map_toArray, List.map_cons, List.map_nil]); first | done | rfl | (simp only [List.length_drop, List.length_take]; rfl)) ?_; (with_reducible refine (proof_right.ok k a0_0 _ _ l0_1  _ ?side1 ?side2 A4.out).mono ?_); (case side1 => repeat (first | exact (Kd.C_below HR0_1.out HB.out) | (with_reducible refine Kd.C_alloc ?_ _) | (with_reducible refine Kd.C_drewN ?_ _) | (with_reducible refine Kd.C_drew ?_))); (case side2 => exact HC0_1.out); rintro e w30 ⟨rfl, hb⟩; refine ⟨_, rfl, ?_⟩; have n0_ := ak (blk_below (bx BK131.out) hb); have n1_ := ak (blk_below (bx BK132.out) hb); have n2_ := ak (blk_below (bx BK133.out) hb); have n3_ := ak (blk_below (g := gbx) (o := .cells #[.int .i64 0] 30 (0, 0)) (bx BK999.out) hb); have n4_ := ak (below_step lb hb); clear BK131; clear BK132; clear BK133; clear BK999; clear HB; have BK131 := n0_; have BK132 := n1_; have BK133 := n2_; have BK999 := n3_; have HB := n4_; clear n0_ n1_ n2_ n3_ n4_; (try clear hb); (try clear hb2); (try clear hk); (try clear hi); have hnb31 := NB132_133.out; have hnc31 := NB133_132.out; have hnb32 := NB132_999.out; have hnc32 := NB999_132.out; have hcz33_0 : w30.cell? ⟨gb132, 0, none⟩ = some (.int .i64 a1_0) := (blk_cell BK132.out 0).trans rfl; have hcz33_1 : w30.cell? ⟨gb132, 1, none⟩ = some (.int .i64 a1_1) := (blk_cell BK132.out 1).trans rfl; have hcz33_2 : w30.cell? ⟨gb132, 2, none⟩ = some (.slice A1_2 l1_2.length c1_2) := (blk_cell BK132.out 2).trans rfl; have hcz33_3 : w30.cell? ⟨gb132, 3, none⟩ = some (.slice A1_3 l1_3.length c1_3) := (blk_cell BK132.out 3).trans rfl; have hfz33_0 := blk_frozen BK132.out 0; have hfz33_1 := blk_frozen BK132.out 1; have hfz33_2 := blk_frozen BK132.out 2; have hfz33_3 := blk_frozen BK132.out 3; have hcz34_0 : w30.cell? ⟨gb131, 0, none⟩ = some (.int .i64 a0_0) := (blk_cell BK131.out 0).trans rfl; have hcz34_1 : w30.cell? ⟨gb131, 1, none⟩ = some (.slice A0_1 l0_1.length c0_1) := (blk_cell BK131.out 1).trans rfl; have hfz34_0 := blk_frozen BK131.out 0; have hfz34_1 := blk_frozen BK131.out 1) | ((with_reducible refine gate_callee (f := 51) rfl ?_); refine goesL_ (some 31) rfl rfl Try.func51 (by kernel_rfl) rfl #[.bool true, .int .i64 30] rfl (by (try simp only [List.map_toArray, List.map_cons, List.map_nil]); first | done | rfl | (simp only [List.length_drop, List.length_take]; rfl)) ?_; (with_reducible refine (proof_need.calls true 30  _ A10.out).mono ?_); rintro e w' ⟨rfl, ⟨nd, rfl⟩⟩; refine ⟨_, rfl, ?_⟩) | ((with_reducible refine gate_callee (f := 51) rfl ?_); refine goesL_ (some 37) rfl rfl Try.func51 (by kernel_rfl) rfl #[.bool true, .int .i64 120] rfl (by (try simp only [List.map_toArray, List.map_cons, List.map_nil]); first | done | rfl | (simp only [List.length_drop, List.length_take]; rfl)) ?_; (with_reducible refine (proof_need.calls true 120  _ A21.out).mono ?_); rintro e w' ⟨rfl, ⟨nd, rfl⟩⟩; refine ⟨_, rfl, ?_⟩) | ((with_reducible refine gate_callee (f := 52) rfl ?_); refine goesL_ (some 41) rfl rfl Try.func52 (by kernel_rfl) rfl #[.agg #[.int .i64 a0_0, .slice A0_1 l0_1.length c0_1], .slice A1_2 l1_2.length c1_2] rfl (by (try simp only [List.map_toArray, List.map_cons, List.map_nil]); first | done | rfl | (simp only [List.length_drop, List.length_take]; rfl)) ?_; (with_reducible refine (proof_carried.ok k a0_0 _ _ l0_1 _ _ l1_2 t136 _ ?side1 ?side2 ?side3 ?side4 A22.out).mono ?_); (case side1 => repeat (first | exact (Kd.C_below HR0_1.out lb) | (with_reducible refine Kd.C_alloc ?_ _) | (with_reducible refine Kd.C_drewN ?_ _) | (with_reducible refine Kd.C_drew ?_))); (case side2 => exact HC0_1.out); (case side3 => repeat (first | exact (Kd.C_below HR1_2.out lb) | (with_reducible refine Kd.C_alloc ?_ _) | (with_reducible refine Kd.C_drewN ?_ _) | (with_reducible refine Kd.C_drew ?_))); (case side4 => exact HC1_2.out); rintro e w35 ⟨v137, rfl, ho0, hb⟩; refine ⟨_, rfl, ?_⟩; have n0_ := ak (Kd.R_lower (Kd.R_newB ho0 (g := gb133) (o := .cells #[.int .i64 a2] 2 (0, 0)) (bx BK133.out)) (below_size lb)); have n1_ := ak (blk_below (bx BK131.out) hb); have n2_ := ak (blk_below (bx BK132.out) hb); have n3_ := ak (blk_below (bx BK133.out) hb); have n4_ := ak (blk_below (g := gbx) (o := .cells #[.int .i64 0] 30 (0, 0)) (bx BK999.out) hb); have n5_ := ak (below_step lb hb); clear BK131; clear BK132; clear BK133; clear BK999; clear HB; have HO138 := n0_; have BK131 := n1_; have BK132 := n2_; have BK133 := n3_; have BK999 := n4_; have HB := n5_; clear n0_ n1_ n2_ n3_ n4_ n5_; (try clear hb); (try clear hb2); (try clear hk); (try clear hi); (try clear ho0); have hcz36_0 : w35.cell? ⟨gb131, 0, none⟩ = some (.int .i64 a0_0) := (blk_cell BK131.out 0).trans rfl; have hcz36_1 : w35.cell? ⟨gb131, 1, none⟩ = some (.slice A0_1 l0_1.length c0_1) := (blk_cell BK131.out 1).trans rfl; have hfz36_0 := blk_frozen BK131.out 0; have hfz36_1 := blk_frozen BK131.out 1; have hcz37_0 : w35.cell? ⟨gb132, 0, none⟩ = some (.int .i64 a1_0) := (blk_cell BK132.out 0).trans rfl; have hcz37_1 : w35.cell? ⟨gb132, 1, none⟩ = some (.int .i64 a1_1) := (blk_cell BK132.out 1).trans rfl; have hcz37_2 : w35.cell? ⟨gb132, 2, none⟩ = some (.slice A1_2 l1_2.length c1_2) := (blk_cell BK132.out 2).trans rfl; have hcz37_3 : w35.cell? ⟨gb132, 3, none⟩ = some (.slice A1_3 l1_3.length c1_3) := (blk_cell BK132.out 3).trans rfl; have hfz37_0 := blk_frozen BK132.out 0; have hfz37_1 := blk_frozen BK132.out 1; have hfz37_2 := blk_frozen BK132.out 2; have hfz37_3 := blk_frozen BK132.out 3) | ((with_reducible refine gate_callee (f := 53) rfl ?_); refine goesL_ (some 45) rfl rfl Try.func53 (by kernel_rfl) rfl #[.agg #[.int .i64 a0_0, .slice A0_1 l0_1.length c0_1], .slice A1_3 l1_3.length c1_3] rfl (by (try simp only [List.map_toArray, List.map_cons, List.map_nil]); first | done | rfl | (simp only [List.length_drop, List.length_take]; rfl)) ?_; (with_reducible refine (proof_across.ok k a0_0 _ _ l0_1 _ _ l1_3 t140 _ ?side1 ?side2 ?side3 ?side4 A24.out).mono ?_); (case side1 => repeat (first | exact (Kd.C_below HR0_1.out HB.out) | (with_reducible refine Kd.C_alloc ?_ _) | (with_reducible refine Kd.C_drewN ?_ _) | (with_reducible refine Kd.C_drew ?_))); (case side2 => exact HC0_1.out); (case side3 => repeat (first | exact (Kd.C_below HR1_3.out HB.out) | (with_reducible refine Kd.C_alloc ?_ _) | (with_reducible refine Kd.C_drewN ?_ _) | (with_reducible refine Kd.C_drew ?_))); (case side4 => exact HC1_3.out); rintro e w38 ⟨rfl, hb⟩; refine ⟨_, rfl, ?_⟩; have n0_ := ak (Kd.R_below (rx HO138.out) hb); have n1_ := ak (blk_below (bx BK131.out) hb); have n2_ := ak (blk_below (bx BK132.out) hb); have n3_ := ak (blk_below (bx BK133.out) hb); have n4_ := ak (blk_below (g := gbx) (o := .cells #[.int .i64 0] 30 (0, 0)) (bx BK999.out) hb); have n5_ := ak (below_step lb hb); clear HO138; clear BK131; clear BK132; clear BK133; clear BK999; clear HB; have HO138 := n0_; have BK131 := n1_; have BK132 := n2_; have BK133 := n3_; have BK999 := n4_; have HB := n5_; clear n0_ n1_ n2_ n3_ n4_ n5_; (try clear hb); (try clear hb2); (try clear hk); (try clear hi); obtain ⟨Ao39, co39, eo39⟩ := Kd.R_slice HO138.out; subst eo39))
         go_loopg [48] k (fun kq v48 w' => ∃ (x48_1 : Int), v48 = .int .i64 x48_1 ∧ Aside0 (proof_Max_1.l0 kq t136 t140 t136 (t136.length : Int) x48_1 a1_0 a1_1 l1_2 l1_3 a2 = some (r1, r2)) ∧ Aside0 (kq ≤ k) ∧ Aside0 (Kd.R (Kd.int .i64) 2 w' w.heap.size (fun k_ => k_ ≠ gb133) (.slice Ao39 t136.length co39) t136) ∧ Aside0 (Kd.R (Kd.int .i64) 2 w' w.heap.size (fun k_ => k_ ≠ gb133) (.slice Ao39 t136.length co39) t136) ∧ Aside0 (w'.heap[gb131]? = some (.cells #[.int .i64 a0_0, (.slice A0_1 l0_1.length c0_1)] 24 (0, 0))) ∧ Aside0 (w'.heap[gb132]? = some (.cells #[.int .i64 a1_0, .int .i64 a1_1, (.slice A1_2 l1_2.length c1_2), (.slice A1_3 l1_3.length c1_3)] 28 (0, 0))) ∧ Aside0 (w'.heap[gb133]? = some (.cells #[.int .i64 a2] 2 (0, 0))) ∧ Aside0 (w'.heap[gbx]? = some (.cells #[.int .i64 0] 30 (0, 0))) ∧ Aside0 (Below w.heap.size w w'))
         case atStart => exact ⟨(0), (by first | rfl | (simp [*]; done)), H', ⟨Nat.le_refl _⟩, ⟨by exact rx (Kd.R_mono HO138.out (fun _ hk => hk.2))⟩, ⟨by exact rx (Kd.R_mono HO138.out (fun _ hk => hk.2))⟩, ⟨bx BK131.out⟩, ⟨bx BK132.out⟩, ⟨bx BK133.out⟩, ⟨bx BK999.out⟩, ⟨lb⟩⟩
         case round =>
          clear H'
          try clear c1; try clear c2; try clear p2; try clear c3; try clear c4; try clear c5; try clear c6; try clear c6b0; try clear c7; try clear c7b0; try clear c8; try clear c8b0; try clear c9; try clear c9b0; try clear c11; try clear c11b0; try clear c11b1; try clear c12; try clear c13; try clear c14; try clear c17; try clear c18; try clear c23; try clear c25; try clear c26; try clear c27; try clear c28; try clear c31; try clear c32; try clear hcz15_0; try clear hcz15_1; try clear hcz19_0; try clear hcz19_1; try clear hcz19_2; try clear hcz19_3; try clear hcz20_0; try clear hcz20_1; try clear hcz29_0; try clear hcz29_1; try clear hcz33_0; try clear hcz33_1; try clear hcz33_2; try clear hcz33_3; try clear hcz34_0; try clear hcz34_1; try clear hcz36_0; try clear hcz36_1; try clear hcz37_0; try clear hcz37_1; try clear hcz37_2; try clear hcz37_3; try clear hfz15_0; try clear hfz15_1; try clear hfz19_0; try clear hfz19_1; try clear hfz19_2; try clear hfz19_3; try clear hfz20_0; try clear hfz20_1; try clear hfz29_0; try clear hfz29_1; try clear hfz33_0; try clear hfz33_1; try clear hfz33_2; try clear hfz33_3; try clear hfz34_0; try clear hfz34_1; try clear hfz36_0; try clear hfz36_1; try clear hfz37_0; try clear hfz37_1; try clear hfz37_2; try clear hfz37_3
          obtain ⟨x48_1, rfl, HA, HK1, HO_3, HO_46, BK131, BK132, BK133, BK999, HB⟩ := hrel
          cases gk with
          | zero => exact absurd HA.out (by simp [proof_Max_1.l0])
          | succ k1 =>
           have H := HA.out
           clear HA
           simp only [proof_Max_1.l0] at H
           by_cases c40 : x48_1 < (t136.length : Int)
           ·
            rw [if_pos c40] at H
            have c40b0 : decide (x48_1 < (t136.length : Int)) = true := decide_eq_true c40
            clear c40
            by_cases c41 : 0 ≤ x48_1
            rotate_left
            ·
             rw [if_neg c41] at H
             exact absurd H (by simp)
            rw [if_pos c41] at H
            have c41b0 : decide (0 ≤ x48_1) = true := decide_eq_true c41
            clear c41
            by_cases c42 : x48_1 < (t136.length : Int)
            rotate_left
            ·
             rw [if_neg c42] at H
             exact absurd H (by simp)
            rw [if_pos c42] at H
            have c42b0 : decide (x48_1 < (t136.length : Int)) = true := decide_eq_true c42
            clear c42
            by_cases c43 : (rd t136 x48_1) = 0
            ·
             rw [if_pos c43] at H
             have c43b0 : ((rd t136 x48_1) == 0) = true := beq_iff_eq.mpr c43
             have c43b1 : ((rd t136 x48_1) != 0) = false := bne_eq_false_iff_eq.mpr c43
             clear c43
             have A44 := ak (show proof_need.f true 221 = some () from rfl)
             have H' := ak H
             clear H
             have p141 : 0 ≤ (x48_1 : Int) := oda
             have q141 : x48_1 < (t136.length : Int) := oda
             obtain ⟨ad141, e141, hx141_0⟩ := Kd.at_int (Kd.R_reads' HO_46.out).2.2 x48_1 p141 q141
             cases e141
             replace p141 := eq_true p141
             replace q141 := eq_true q141
             go_wp2_with (first | ((with_reducible refine gate_callee (f := 51) rfl ?_); refine goesL_ (some 67) rfl rfl Try.func51 (by kernel_rfl) rfl #[.bool true, .int .i64 221] rfl (by (try simp only [List.map_toArray, List.map_cons, List.map_nil]); first | done | rfl | (simp only [List.length_drop, List.length_take]; rfl)) ?_; (with_reducible refine (proof_need.calls true 221  _ A44.out).mono ?_); rintro e w' ⟨rfl, ⟨nd, rfl⟩⟩; refine ⟨_, rfl, ?_⟩))
             go_roundg k1
             case measure => have := HK1.out; omega
             case rel => exact ⟨(wrap64 (x48_1 + 1)), (by first | rfl | (simp [*]; done)), H', ⟨by have := HK1.out; omega⟩, ⟨rx HO_3.out⟩, ⟨rx HO_46.out⟩, ⟨bx BK131.out⟩, ⟨bx BK132.out⟩, ⟨bx BK133.out⟩, ⟨bx BK999.out⟩, ⟨lb⟩⟩
            ·
             rw [if_neg c43] at H
             have c43b0 : ((rd t136 x48_1) == 0) = false := beq_eq_false_iff_ne.mpr c43
             have c43b1 : ((rd t136 x48_1) != 0) = true := bne_iff_ne.mpr c43
             by_cases c45 : x48_1 = a1_0
             ·
              rw [if_pos c45] at H
              have c45b0 : (x48_1 == a1_0) = true := beq_iff_eq.mpr c45
              have c45b1 : (x48_1 != a1_0) = false := bne_eq_false_iff_eq.mpr c45
              clear c45
              have A46 := ak (show proof_need.f true 221 = some () from rfl)
              have H' := ak H
              clear H
              have p141 : 0 ≤ (x48_1 : Int) := oda
              have q141 : x48_1 < (t136.length : Int) := oda
              obtain ⟨ad141, e141, hx141_0⟩ := Kd.at_int (Kd.R_reads' HO_46.out).2.2 x48_1 p141 q141
              cases e141
              replace p141 := eq_true p141
              replace q141 := eq_true q141
              have hnb47 := NB132_131.out
              have hnc47 := NB131_132.out
              have hnb48 := NB132_133.out
              have hnc48 := NB133_132.out
              have hnb49 := NB132_999.out
              have hnc49 := NB999_132.out
              have hcz50_0 : wr.cell? ⟨gb132, 0, none⟩ = some (.int .i64 a1_0) := (blk_cell BK132.out 0).trans rfl
              have hcz50_1 : wr.cell? ⟨gb132, 1, none⟩ = some (.int .i64 a1_1) := (blk_cell BK132.out 1).trans rfl
              have hcz50_2 : wr.cell? ⟨gb132, 2, none⟩ = some (.slice A1_2 l1_2.length c1_2) := (blk_cell BK132.out 2).trans rfl
              have hcz50_3 : wr.cell? ⟨gb132, 3, none⟩ = some (.slice A1_3 l1_3.length c1_3) := (blk_cell BK132.out 3).trans rfl
              have hfz50_0 := blk_frozen BK132.out 0
              have hfz50_1 := blk_frozen BK132.out 1
              have hfz50_2 := blk_frozen BK132.out 2
              have hfz50_3 := blk_frozen BK132.out 3
              go_wp2_with (first | ((with_reducible refine gate_callee (f := 51) rfl ?_); refine goesL_ (some 67) rfl rfl Try.func51 (by kernel_rfl) rfl #[.bool true, .int .i64 221] rfl (by (try simp only [List.map_toArray, List.map_cons, List.map_nil]); first | done | rfl | (simp only [List.length_drop, List.length_take]; rfl)) ?_; (with_reducible refine (proof_need.calls true 221  _ A46.out).mono ?_); rintro e w' ⟨rfl, ⟨nd, rfl⟩⟩; refine ⟨_, rfl, ?_⟩))
              go_roundg k1
              case measure => have := HK1.out; omega
              case rel => exact ⟨(wrap64 (x48_1 + 1)), (by first | rfl | (simp [*]; done)), H', ⟨by have := HK1.out; omega⟩, ⟨rx HO_3.out⟩, ⟨rx HO_46.out⟩, ⟨bx BK131.out⟩, ⟨bx BK132.out⟩, ⟨bx BK133.out⟩, ⟨bx BK999.out⟩, ⟨lb⟩⟩
             ·
              rw [if_neg c45] at H
              have c45b0 : (x48_1 == a1_0) = false := beq_eq_false_iff_ne.mpr c45
              have c45b1 : (x48_1 != a1_0) = true := bne_iff_ne.mpr c45
              by_cases c51 : x48_1 = a1_1
              ·
               rw [if_pos c51] at H
               have c51b0 : (x48_1 == a1_1) = true := beq_iff_eq.mpr c51
               have c51b1 : (x48_1 != a1_1) = false := bne_eq_false_iff_eq.mpr c51
               clear c51
               have A52 := ak (show proof_need.f true 221 = some () from rfl)
               have H' := ak H
               clear H
               have p141 : 0 ≤ (x48_1 : Int) := oda
               have q141 : x48_1 < (t136.length : Int) := oda
               obtain ⟨ad141, e141, hx141_0⟩ := Kd.at_int (Kd.R_reads' HO_46.out).2.2 x48_1 p141 q141
               cases e141
               replace p141 := eq_true p141
               replace q141 := eq_true q141
               have hnb53 := NB132_131.out
               have hnc53 := NB131_132.out
               have hnb54 := NB132_133.out
               have hnc54 := NB133_132.out
               have hnb55 := NB132_999.out
               have hnc55 := NB999_132.out
               have hcz56_0 : wr.cell? ⟨gb132, 0, none⟩ = some (.int .i64 a1_0) := (blk_cell BK132.out 0).trans rfl
               have hcz56_1 : wr.cell? ⟨gb132, 1, none⟩ = some (.int .i64 a1_1) := (blk_cell BK132.out 1).trans rfl
               have hcz56_2 : wr.cell? ⟨gb132, 2, none⟩ = some (.slice A1_2 l1_2.length c1_2) := (blk_cell BK132.out 2).trans rfl
               have hcz56_3 : wr.cell? ⟨gb132, 3, none⟩ = some (.slice A1_3 l1_3.length c1_3) := (blk_cell BK132.out 3).trans rfl
               have hfz56_0 := blk_frozen BK132.out 0
               have hfz56_1 := blk_frozen BK132.out 1
               have hfz56_2 := blk_frozen BK132.out 2
               have hfz56_3 := blk_frozen BK132.out 3
               go_wp2_with (first | ((with_reducible refine gate_callee (f := 51) rfl ?_); refine goesL_ (some 67) rfl rfl Try.func51 (by kernel_rfl) rfl #[.bool true, .int .i64 221] rfl (by (try simp only [List.map_toArray, List.map_cons, List.map_nil]); first | done | rfl | (simp only [List.length_drop, List.length_take]; rfl)) ?_; (with_reducible refine (proof_need.calls true 221  _ A52.out).mono ?_); rintro e w' ⟨rfl, ⟨nd, rfl⟩⟩; refine ⟨_, rfl, ?_⟩))
               go_roundg k1
               case measure => have := HK1.out; omega
               case rel => exact ⟨(wrap64 (x48_1 + 1)), (by first | rfl | (simp [*]; done)), H', ⟨by have := HK1.out; omega⟩, ⟨rx HO_3.out⟩, ⟨rx HO_46.out⟩, ⟨bx BK131.out⟩, ⟨bx BK132.out⟩, ⟨bx BK133.out⟩, ⟨bx BK999.out⟩, ⟨lb⟩⟩
              ·
               rw [if_neg c51] at H
               have c51b0 : (x48_1 == a1_1) = false := beq_eq_false_iff_ne.mpr c51
               have c51b1 : (x48_1 != a1_1) = true := bne_iff_ne.mpr c51
               simp only [Option.some.injEq, Prod.mk.injEq] at H
               obtain ⟨rfl, rfl⟩ := H
               have p141 : 0 ≤ (x48_1 : Int) := oda
               have q141 : x48_1 < (t136.length : Int) := oda
               obtain ⟨ad141, e141, hx141_0⟩ := Kd.at_int (Kd.R_reads' HO_46.out).2.2 x48_1 p141 q141
               cases e141
               replace p141 := eq_true p141
               replace q141 := eq_true q141
               have hnb57 := NB132_131.out
               have hnc57 := NB131_132.out
               have hnb58 := NB132_133.out
               have hnc58 := NB133_132.out
               have hnb59 := NB132_999.out
               have hnc59 := NB999_132.out
               have hcz60_0 : wr.cell? ⟨gb132, 0, none⟩ = some (.int .i64 a1_0) := (blk_cell BK132.out 0).trans rfl
               have hcz60_1 : wr.cell? ⟨gb132, 1, none⟩ = some (.int .i64 a1_1) := (blk_cell BK132.out 1).trans rfl
               have hcz60_2 : wr.cell? ⟨gb132, 2, none⟩ = some (.slice A1_2 l1_2.length c1_2) := (blk_cell BK132.out 2).trans rfl
               have hcz60_3 : wr.cell? ⟨gb132, 3, none⟩ = some (.slice A1_3 l1_3.length c1_3) := (blk_cell BK132.out 3).trans rfl
               have hfz60_0 := blk_frozen BK132.out 0
               have hfz60_1 := blk_frozen BK132.out 1
               have hfz60_2 := blk_frozen BK132.out 2
               have hfz60_3 := blk_frozen BK132.out 3
               go_wp2_with (first | ((with_reducible refine gate_callee (f := 51) rfl ?_); refine panicsL_ (some 67) rfl rfl Try.func51 (by kernel_rfl) rfl #[.bool false, .int .i64 221] rfl (by (try simp only [List.map_toArray, List.map_cons, List.map_nil]); first | done | rfl | (simp only [List.length_drop, List.length_take]; rfl)) ?_; refine (proof_need.bad 221 _).mono ?_; rintro e w' ⟨rfl, rfl⟩; refine ⟨_, rfl, ?_⟩; (repeat (first | refine panic_then ?_ | refine panic_block ?_)); exact panic_body rfl (⟨Gave.no (by first | decide | assumption | (simp_all; done)) rfl, (bx BK133.out), (bx BK999.out), lb⟩)))
           ·
            rw [if_neg c40] at H
            have c40b0 : decide (x48_1 < (t136.length : Int)) = false := decide_eq_false c40
            clear c40
            by_cases c61 : 0 ≤ a1_0
            rotate_left
            ·
             rw [if_neg c61] at H
             exact absurd H (by simp)
            rw [if_pos c61] at H
            have c61b0 : decide (0 ≤ a1_0) = true := decide_eq_true c61
            clear c61
            by_cases c62 : a1_0 < (l1_3.length : Int)
            rotate_left
            ·
             rw [if_neg c62] at H
             exact absurd H (by simp)
            rw [if_pos c62] at H
            have c62b0 : decide (a1_0 < (l1_3.length : Int)) = true := decide_eq_true c62
            clear c62
            obtain ⟨bq63, hbq63⟩ : ∃ b_ : Bool, b_ = (rdOf false l1_3 a1_0) := ⟨_, rfl⟩
            replace H : (if bq63 = true then (if 0 ≤ a1_1 then (if a1_1 < (l1_3.length : Int) then (if rdOf false l1_3 a1_1 = true then (some (221, a2)) else (if a1_0 < (t136.length : Int) then (if (rd t136 a1_0) = t140 then (some (0, t140)) else (some (221, a2))) else (none))) else (none)) else (none)) else (some (221, a2))) = some (r1, r2) := by rw [← hbq63] at H; exact H
            have Nbq63 := ak hbq63
            clear hbq63
            by_cases c64 : bq63 = true
            ·
             subst c64
             have H1 : (if 0 ≤ a1_1 then (if a1_1 < (l1_3.length : Int) then (if rdOf false l1_3 a1_1 = true then (some (221, a2)) else (if a1_0 < (t136.length : Int) then (if (rd t136 a1_0) = t140 then (some (0, t140)) else (some (221, a2))) else (none))) else (none)) else (none)) = some (r1, r2) := by rw [if_pos rfl] at H; exact H
             clear H
             have H := H1
             clear H1
             by_cases c65 : 0 ≤ a1_1
             rotate_left
             ·
              rw [if_neg c65] at H
              exact absurd H (by simp)
             rw [if_pos c65] at H
             have c65b0 : decide (0 ≤ a1_1) = true := decide_eq_true c65
             clear c65
             by_cases c66 : a1_1 < (l1_3.length : Int)
             rotate_left
             ·
              rw [if_neg c66] at H
              exact absurd H (by simp)
             rw [if_pos c66] at H
             have c66b0 : decide (a1_1 < (l1_3.length : Int)) = true := decide_eq_true c66
             clear c66
             obtain ⟨bq67, hbq67⟩ : ∃ b_ : Bool, b_ = (rdOf false l1_3 a1_1) := ⟨_, rfl⟩
             replace H : (if bq67 = true then (some (221, a2)) else (if a1_0 < (t136.length : Int) then (if (rd t136 a1_0) = t140 then (some (0, t140)) else (some (221, a2))) else (none))) = some (r1, r2) := by rw [← hbq67] at H; exact H
             have Nbq67 := ak hbq67
             clear hbq67
             by_cases c68 : bq67 = true
             ·
              subst c68
              have H1 : (some (221, a2)) = some (r1, r2) := by rw [if_pos rfl] at H; exact H
              clear H
              have H := H1
              clear H1
              simp only [Option.some.injEq, Prod.mk.injEq] at H
              obtain ⟨rfl, rfl⟩ := H
              have hnb69 := NB132_131.out
              have hnc69 := NB131_132.out
              have hnb70 := NB132_133.out
              have hnc70 := NB133_132.out
              have hnb71 := NB132_999.out
              have hnc71 := NB999_132.out
              have hcz72_0 : wr.cell? ⟨gb132, 0, none⟩ = some (.int .i64 a1_0) := (blk_cell BK132.out 0).trans rfl
              have hcz72_1 : wr.cell? ⟨gb132, 1, none⟩ = some (.int .i64 a1_1) := (blk_cell BK132.out 1).trans rfl
              have hcz72_2 : wr.cell? ⟨gb132, 2, none⟩ = some (.slice A1_2 l1_2.length c1_2) := (blk_cell BK132.out 2).trans rfl
              have hcz72_3 : wr.cell? ⟨gb132, 3, none⟩ = some (.slice A1_3 l1_3.length c1_3) := (blk_cell BK132.out 3).trans rfl
              have hfz72_0 := blk_frozen BK132.out 0
              have hfz72_1 := blk_frozen BK132.out 1
              have hfz72_2 := blk_frozen BK132.out 2
              have hfz72_3 := blk_frozen BK132.out 3
              have p142 : 0 ≤ (a1_0 : Int) := oda
              have q142 : a1_0 < (l1_3.length : Int) := oda
              obtain ⟨ad142, e142, hx142_0⟩ := Kd.at_bool HR1_3.out a1_0 p142 q142
              (try rw [← Nbq63.out] at hx142_0)
              (try rw [← Nbq67.out] at hx142_0)
              cases e142
              (try replace hx142_0 := (HB.out.cell (World.block_lt_of_cell? w _ hx142_0)).trans hx142_0)
              replace p142 := eq_true p142
              replace q142 := eq_true q142
              have p143 : 0 ≤ (a1_1 : Int) := oda
              have q143 : a1_1 < (l1_3.length : Int) := oda
              obtain ⟨ad143, e143, hx143_0⟩ := Kd.at_bool HR1_3.out a1_1 p143 q143
              (try rw [← Nbq63.out] at hx143_0)
              (try rw [← Nbq67.out] at hx143_0)
              obtain rfl : ad142 = ad143 := (by injection e143)
              (try replace hx143_0 := (HB.out.cell (World.block_lt_of_cell? w _ hx143_0)).trans hx143_0)
              replace p143 := eq_true p143
              replace q143 := eq_true q143
              go_wp2_with (first | ((with_reducible refine gate_callee (f := 51) rfl ?_); refine panicsL_ (some 93) rfl rfl Try.func51 (by kernel_rfl) rfl #[.bool false, .int .i64 221] rfl (by (try simp only [List.map_toArray, List.map_cons, List.map_nil]); first | done | rfl | (simp only [List.length_drop, List.length_take]; rfl)) ?_; refine (proof_need.bad 221 _).mono ?_; rintro e w' ⟨rfl, rfl⟩; refine ⟨_, rfl, ?_⟩; (repeat (first | refine panic_then ?_ | refine panic_block ?_)); exact panic_body rfl (⟨Gave.no (by first | decide | assumption | (simp_all; done)) rfl, (bx BK133.out), (bx BK999.out), lb⟩)))
             ·
              replace c68 := Bool.eq_false_iff.mpr c68
              subst c68
              have H1 : (if a1_0 < (t136.length : Int) then (if (rd t136 a1_0) = t140 then (some (0, t140)) else (some (221, a2))) else (none)) = some (r1, r2) := by rw [if_neg (show ¬ (false = true) by decide)] at H; exact H
              clear H
              have H := H1
              clear H1
              by_cases c73 : a1_0 < (t136.length : Int)
              rotate_left
              ·
               rw [if_neg c73] at H
               exact absurd H (by simp)
              rw [if_pos c73] at H
              have c73b0 : decide (a1_0 < (t136.length : Int)) = true := decide_eq_true c73
              clear c73
              by_cases c74 : (rd t136 a1_0) = t140
              ·
               rw [if_pos c74] at H
               have c74b0 : ((rd t136 a1_0) == t140) = true := beq_iff_eq.mpr c74
               have c74b1 : ((rd t136 a1_0) != t140) = false := bne_eq_false_iff_eq.mpr c74
               clear c74
               have A75 := ak (show proof_need.f true 221 = some () from rfl)
               simp only [Option.some.injEq, Prod.mk.injEq] at H
               obtain ⟨rfl, rfl⟩ := H
               have hnb76 := NB132_131.out
               have hnc76 := NB131_132.out
               have hnb77 := NB132_133.out
               have hnc77 := NB133_132.out
               have hnb78 := NB132_999.out
               have hnc78 := NB999_132.out
               have hcz79_0 : wr.cell? ⟨gb132, 0, none⟩ = some (.int .i64 a1_0) := (blk_cell BK132.out 0).trans rfl
               have hcz79_1 : wr.cell? ⟨gb132, 1, none⟩ = some (.int .i64 a1_1) := (blk_cell BK132.out 1).trans rfl
               have hcz79_2 : wr.cell? ⟨gb132, 2, none⟩ = some (.slice A1_2 l1_2.length c1_2) := (blk_cell BK132.out 2).trans rfl
               have hcz79_3 : wr.cell? ⟨gb132, 3, none⟩ = some (.slice A1_3 l1_3.length c1_3) := (blk_cell BK132.out 3).trans rfl
               have hfz79_0 := blk_frozen BK132.out 0
               have hfz79_1 := blk_frozen BK132.out 1
               have hfz79_2 := blk_frozen BK132.out 2
               have hfz79_3 := blk_frozen BK132.out 3
               have p142 : 0 ≤ (a1_0 : Int) := oda
               have q142 : a1_0 < (l1_3.length : Int) := oda
               obtain ⟨ad142, e142, hx142_0⟩ := Kd.at_bool HR1_3.out a1_0 p142 q142
               (try rw [← Nbq63.out] at hx142_0)
               (try rw [← Nbq67.out] at hx142_0)
               cases e142
               (try replace hx142_0 := (HB.out.cell (World.block_lt_of_cell? w _ hx142_0)).trans hx142_0)
               replace p142 := eq_true p142
               replace q142 := eq_true q142
               have p143 : 0 ≤ (a1_1 : Int) := oda
               have q143 : a1_1 < (l1_3.length : Int) := oda
               obtain ⟨ad143, e143, hx143_0⟩ := Kd.at_bool HR1_3.out a1_1 p143 q143
               (try rw [← Nbq63.out] at hx143_0)
               (try rw [← Nbq67.out] at hx143_0)
               obtain rfl : ad142 = ad143 := (by injection e143)
               (try replace hx143_0 := (HB.out.cell (World.block_lt_of_cell? w _ hx143_0)).trans hx143_0)
               replace p143 := eq_true p143
               replace q143 := eq_true q143
               have p144 : 0 ≤ (a1_0 : Int) := oda
               have q144 : a1_0 < (t136.length : Int) := oda
               obtain ⟨ad144, e144, hx144_0⟩ := Kd.at_int (Kd.R_reads' HO_3.out).2.2 a1_0 p144 q144
               cases e144
               replace p144 := eq_true p144
               replace q144 := eq_true q144
               go_wp2_with (first | ((with_reducible refine gate_callee (f := 51) rfl ?_); refine goesL_ (some 93) rfl rfl Try.func51 (by kernel_rfl) rfl #[.bool true, .int .i64 221] rfl (by (try simp only [List.map_toArray, List.map_cons, List.map_nil]); first | done | rfl | (simp only [List.length_drop, List.length_take]; rfl)) ?_; (with_reducible refine (proof_need.calls true 221  _ A75.out).mono ?_); rintro e w' ⟨rfl, ⟨nd, rfl⟩⟩; refine ⟨_, rfl, ?_⟩; (try (rw [drewN_self wr]; generalize hq_ : World.drewN wr _ = wr; have n0_ : Aside0 (Kd.R (Kd.int .i64) 2 wr w.heap.size (fun k_ => k_ ≠ gb133) (.slice (some ad144) t136.length co39) t136) := ⟨by rw [← hq_]; exact (rx HO_3.out)⟩; have n1_ : Aside0 (Kd.R (Kd.int .i64) 2 wr w.heap.size (fun k_ => k_ ≠ gb133) (.slice (some ad144) t136.length co39) t136) := ⟨by rw [← hq_]; exact (rx HO_46.out)⟩; have n2_ : Aside0 (wr.heap[gb131]? = some (.cells #[.int .i64 a0_0, .slice A0_1 l0_1.length c0_1] 24 (0, 0))) := ⟨by rw [← hq_]; exact (bx BK131.out)⟩; have n3_ : Aside0 (wr.heap[gb132]? = some (.cells #[.int .i64 a1_0, .int .i64 a1_1, .slice A1_2 l1_2.length c1_2, .slice (some ad142) l1_3.length c1_3] 28 (0, 0))) := ⟨by rw [← hq_]; exact (bx BK132.out)⟩; have n4_ : Aside0 (wr.heap[gb133]? = some (.cells #[.int .i64 a2] 2 (0, 0))) := ⟨by rw [← hq_]; exact (bx BK133.out)⟩; have n5_ : Aside0 (wr.heap[gbx]? = some (.cells #[.int .i64 0] 30 (0, 0))) := ⟨by rw [← hq_]; exact (bx BK999.out)⟩; have n6_ : Aside0 (Below w.heap.size w wr) := ⟨by rw [← hq_]; exact lb⟩; clear HO_3 HO_46 BK131 BK132 BK133 BK999 HB hq_; have HO_3 := n0_; have HO_46 := n1_; have BK131 := n2_; have BK132 := n3_; have BK133 := n4_; have BK999 := n5_; have HB := n6_; clear n0_ n1_ n2_ n3_ n4_ n5_ n6_)); have hnb80 := NB133_131.out; have hnc80 := NB131_133.out; have hnb81 := NB133_999.out; have hnc81 := NB999_133.out; have hcz82_0 : wr.cell? ⟨gb133, 0, none⟩ = some (.int .i64 a2) := (blk_cell BK133.out 0).trans rfl; have hfz82_0 := blk_frozen BK133.out 0))
               first | go_end0 | ((try simp only [Exit.inBlock, Exit.then]); refine bodyPost_ret (results_none rfl _ _ _) rfl ?_)
               exact ⟨Gave.ok (by first | rfl | (simp <;> rfl)), (by (with_reducible repeat (first | refine blk_drewN ?_ _ | refine blk_drew ?_ | refine blk_alloc ?_ _)); refine blk_put (cs := #[.int .i64 a2]) ?_ 0 _ rfl; exact bx BK133.out), (by (with_reducible repeat (first | refine blk_drewN ?_ _ | refine blk_drew ?_ | refine blk_alloc ?_ _)); refine blk_far ?_ NB999_133.out _; exact bx BK999.out), lb⟩
              ·
               rw [if_neg c74] at H
               have c74b0 : ((rd t136 a1_0) == t140) = false := beq_eq_false_iff_ne.mpr c74
               have c74b1 : ((rd t136 a1_0) != t140) = true := bne_iff_ne.mpr c74
               simp only [Option.some.injEq, Prod.mk.injEq] at H
               obtain ⟨rfl, rfl⟩ := H
               have hnb83 := NB132_131.out
               have hnc83 := NB131_132.out
               have hnb84 := NB132_133.out
               have hnc84 := NB133_132.out
               have hnb85 := NB132_999.out
               have hnc85 := NB999_132.out
               have hcz86_0 : wr.cell? ⟨gb132, 0, none⟩ = some (.int .i64 a1_0) := (blk_cell BK132.out 0).trans rfl
               have hcz86_1 : wr.cell? ⟨gb132, 1, none⟩ = some (.int .i64 a1_1) := (blk_cell BK132.out 1).trans rfl
               have hcz86_2 : wr.cell? ⟨gb132, 2, none⟩ = some (.slice A1_2 l1_2.length c1_2) := (blk_cell BK132.out 2).trans rfl
               have hcz86_3 : wr.cell? ⟨gb132, 3, none⟩ = some (.slice A1_3 l1_3.length c1_3) := (blk_cell BK132.out 3).trans rfl
               have hfz86_0 := blk_frozen BK132.out 0
               have hfz86_1 := blk_frozen BK132.out 1
               have hfz86_2 := blk_frozen BK132.out 2
               have hfz86_3 := blk_frozen BK132.out 3
               have p142 : 0 ≤ (a1_0 : Int) := oda
               have q142 : a1_0 < (l1_3.length : Int) := oda
               obtain ⟨ad142, e142, hx142_0⟩ := Kd.at_bool HR1_3.out a1_0 p142 q142
               (try rw [← Nbq63.out] at hx142_0)
               (try rw [← Nbq67.out] at hx142_0)
               cases e142
               (try replace hx142_0 := (HB.out.cell (World.block_lt_of_cell? w _ hx142_0)).trans hx142_0)
               replace p142 := eq_true p142
               replace q142 := eq_true q142
               have p143 : 0 ≤ (a1_1 : Int) := oda
               have q143 : a1_1 < (l1_3.length : Int) := oda
               obtain ⟨ad143, e143, hx143_0⟩ := Kd.at_bool HR1_3.out a1_1 p143 q143
               (try rw [← Nbq63.out] at hx143_0)
               (try rw [← Nbq67.out] at hx143_0)
               obtain rfl : ad142 = ad143 := (by injection e143)
               (try replace hx143_0 := (HB.out.cell (World.block_lt_of_cell? w _ hx143_0)).trans hx143_0)
               replace p143 := eq_true p143
               replace q143 := eq_true q143
               have p144 : 0 ≤ (a1_0 : Int) := oda
               have q144 : a1_0 < (t136.length : Int) := oda
               obtain ⟨ad144, e144, hx144_0⟩ := Kd.at_int (Kd.R_reads' HO_3.out).2.2 a1_0 p144 q144
               cases e144
               replace p144 := eq_true p144
               replace q144 := eq_true q144
               go_wp2_with (first | ((with_reducible refine gate_callee (f := 51) rfl ?_); refine panicsL_ (some 93) rfl rfl Try.func51 (by kernel_rfl) rfl #[.bool false, .int .i64 221] rfl (by (try simp only [List.map_toArray, List.map_cons, List.map_nil]); first | done | rfl | (simp only [List.length_drop, List.length_take]; rfl)) ?_; refine (proof_need.bad 221 _).mono ?_; rintro e w' ⟨rfl, rfl⟩; refine ⟨_, rfl, ?_⟩; (repeat (first | refine panic_then ?_ | refine panic_block ?_)); exact panic_body rfl (⟨Gave.no (by first | decide | assumption | (simp_all; done)) rfl, (bx BK133.out), (bx BK999.out), lb⟩)))
            ·
             replace c64 := Bool.eq_false_iff.mpr c64
             subst c64
             have H1 : (some (221, a2)) = some (r1, r2) := by rw [if_neg (show ¬ (false = true) by decide)] at H; exact H
             clear H
             have H := H1
             clear H1
             simp only [Option.some.injEq, Prod.mk.injEq] at H
             obtain ⟨rfl, rfl⟩ := H
             have hnb87 := NB132_131.out
             have hnc87 := NB131_132.out
             have hnb88 := NB132_133.out
             have hnc88 := NB133_132.out
             have hnb89 := NB132_999.out
             have hnc89 := NB999_132.out
             have hcz90_0 : wr.cell? ⟨gb132, 0, none⟩ = some (.int .i64 a1_0) := (blk_cell BK132.out 0).trans rfl
             have hcz90_1 : wr.cell? ⟨gb132, 1, none⟩ = some (.int .i64 a1_1) := (blk_cell BK132.out 1).trans rfl
             have hcz90_2 : wr.cell? ⟨gb132, 2, none⟩ = some (.slice A1_2 l1_2.length c1_2) := (blk_cell BK132.out 2).trans rfl
             have hcz90_3 : wr.cell? ⟨gb132, 3, none⟩ = some (.slice A1_3 l1_3.length c1_3) := (blk_cell BK132.out 3).trans rfl
             have hfz90_0 := blk_frozen BK132.out 0
             have hfz90_1 := blk_frozen BK132.out 1
             have hfz90_2 := blk_frozen BK132.out 2
             have hfz90_3 := blk_frozen BK132.out 3
             have p142 : 0 ≤ (a1_0 : Int) := oda
             have q142 : a1_0 < (l1_3.length : Int) := oda
             obtain ⟨ad142, e142, hx142_0⟩ := Kd.at_bool HR1_3.out a1_0 p142 q142
             (try rw [← Nbq63.out] at hx142_0)
             cases e142
             (try replace hx142_0 := (HB.out.cell (World.block_lt_of_cell? w _ hx142_0)).trans hx142_0)
             replace p142 := eq_true p142
             replace q142 := eq_true q142
             go_wp2_with (first | ((with_reducible refine gate_callee (f := 51) rfl ?_); refine panicsL_ (some 93) rfl rfl Try.func51 (by kernel_rfl) rfl #[.bool false, .int .i64 221] rfl (by (try simp only [List.map_toArray, List.map_cons, List.map_nil]); first | done | rfl | (simp only [List.length_drop, List.length_take]; rfl)) ?_; refine (proof_need.bad 221 _).mono ?_; rintro e w' ⟨rfl, rfl⟩; refine ⟨_, rfl, ?_⟩; (repeat (first | refine panic_then ?_ | refine panic_block ?_)); exact panic_body rfl (⟨Gave.no (by first | decide | assumption | (simp_all; done)) rfl, (bx BK133.out), (bx BK999.out), lb⟩)))
        ·
         rw [if_neg c25] at H
         have A24 := ak A240
         clear A240
         simp only [Option.some.injEq, Prod.mk.injEq] at H
         obtain ⟨rfl, rfl⟩ := H
         have hnb91 := NB131_132.out
         have hnc91 := NB132_131.out
         have hnb92 := NB131_133.out
         have hnc92 := NB133_131.out
         have hnb93 := NB131_999.out
         have hnc93 := NB999_131.out
         have hcz94_0 : wc0.cell? ⟨gb131, 0, none⟩ = some (.int .i64 a0_0) := (blk_cell BK131.out 0).trans rfl
         have hcz94_1 : wc0.cell? ⟨gb131, 1, none⟩ = some (.slice A0_1 l0_1.length c0_1) := (blk_cell BK131.out 1).trans rfl
         have hfz94_0 := blk_frozen BK131.out 0
         have hfz94_1 := blk_frozen BK131.out 1
         go_enter Try.func49, Try.ntmps49
         go_wp2_with (first | ((with_reducible refine gate_callee (f := 50) rfl ?_); refine goesL_ (some 8) rfl rfl Try.func50 (by kernel_rfl) rfl #[.agg #[.int .i64 a0_0, .slice A0_1 l0_1.length c0_1]] rfl (by (try simp only [List.map_toArray, List.map_cons, List.map_nil]); first | done | rfl | (simp only [List.length_drop, List.length_take]; rfl)) ?_; (with_reducible refine (proof_right.ok k a0_0 _ _ l0_1  _ ?side1 ?side2 A4.out).mono ?_); (case side1 => repeat (first | exact (Kd.C_below HR0_1.out HB.out) | (with_reducible refine Kd.C_alloc ?_ _) | (with_reducible refine Kd.C_drewN ?_ _) | (with_reducible refine Kd.C_drew ?_))); (case side2 => exact HC0_1.out); rintro e w95 ⟨rfl, hb⟩; refine ⟨_, rfl, ?_⟩; have n0_ := ak (blk_below (bx BK131.out) hb); have n1_ := ak (blk_below (bx BK132.out) hb); have n2_ := ak (blk_below (bx BK133.out) hb); have n3_ := ak (blk_below (g := gbx) (o := .cells #[.int .i64 0] 30 (0, 0)) (bx BK999.out) hb); have n4_ := ak (below_step lb hb); clear BK131; clear BK132; clear BK133; clear BK999; clear HB; have BK131 := n0_; have BK132 := n1_; have BK133 := n2_; have BK999 := n3_; have HB := n4_; clear n0_ n1_ n2_ n3_ n4_; (try clear hb); (try clear hb2); (try clear hk); (try clear hi); have hnb96 := NB132_133.out; have hnc96 := NB133_132.out; have hnb97 := NB132_999.out; have hnc97 := NB999_132.out; have hcz98_0 : w95.cell? ⟨gb132, 0, none⟩ = some (.int .i64 a1_0) := (blk_cell BK132.out 0).trans rfl; have hcz98_1 : w95.cell? ⟨gb132, 1, none⟩ = some (.int .i64 a1_1) := (blk_cell BK132.out 1).trans rfl; have hcz98_2 : w95.cell? ⟨gb132, 2, none⟩ = some (.slice A1_2 l1_2.length c1_2) := (blk_cell BK132.out 2).trans rfl; have hcz98_3 : w95.cell? ⟨gb132, 3, none⟩ = some (.slice A1_3 l1_3.length c1_3) := (blk_cell BK132.out 3).trans rfl; have hfz98_0 := blk_frozen BK132.out 0; have hfz98_1 := blk_frozen BK132.out 1; have hfz98_2 := blk_frozen BK132.out 2; have hfz98_3 := blk_frozen BK132.out 3; have hcz99_0 : w95.cell? ⟨gb131, 0, none⟩ = some (.int .i64 a0_0) := (blk_cell BK131.out 0).trans rfl; have hcz99_1 : w95.cell? ⟨gb131, 1, none⟩ = some (.slice A0_1 l0_1.length c0_1) := (blk_cell BK131.out 1).trans rfl; have hfz99_0 := blk_frozen BK131.out 0; have hfz99_1 := blk_frozen BK131.out 1) | ((with_reducible refine gate_callee (f := 51) rfl ?_); refine goesL_ (some 31) rfl rfl Try.func51 (by kernel_rfl) rfl #[.bool true, .int .i64 30] rfl (by (try simp only [List.map_toArray, List.map_cons, List.map_nil]); first | done | rfl | (simp only [List.length_drop, List.length_take]; rfl)) ?_; (with_reducible refine (proof_need.calls true 30  _ A10.out).mono ?_); rintro e w' ⟨rfl, ⟨nd, rfl⟩⟩; refine ⟨_, rfl, ?_⟩) | ((with_reducible refine gate_callee (f := 51) rfl ?_); refine goesL_ (some 37) rfl rfl Try.func51 (by kernel_rfl) rfl #[.bool true, .int .i64 120] rfl (by (try simp only [List.map_toArray, List.map_cons, List.map_nil]); first | done | rfl | (simp only [List.length_drop, List.length_take]; rfl)) ?_; (with_reducible refine (proof_need.calls true 120  _ A21.out).mono ?_); rintro e w' ⟨rfl, ⟨nd, rfl⟩⟩; refine ⟨_, rfl, ?_⟩) | ((with_reducible refine gate_callee (f := 52) rfl ?_); refine goesL_ (some 41) rfl rfl Try.func52 (by kernel_rfl) rfl #[.agg #[.int .i64 a0_0, .slice A0_1 l0_1.length c0_1], .slice A1_2 l1_2.length c1_2] rfl (by (try simp only [List.map_toArray, List.map_cons, List.map_nil]); first | done | rfl | (simp only [List.length_drop, List.length_take]; rfl)) ?_; (with_reducible refine (proof_carried.ok k a0_0 _ _ l0_1 _ _ l1_2 t136 _ ?side1 ?side2 ?side3 ?side4 A22.out).mono ?_); (case side1 => repeat (first | exact (Kd.C_below HR0_1.out lb) | (with_reducible refine Kd.C_alloc ?_ _) | (with_reducible refine Kd.C_drewN ?_ _) | (with_reducible refine Kd.C_drew ?_))); (case side2 => exact HC0_1.out); (case side3 => repeat (first | exact (Kd.C_below HR1_2.out lb) | (with_reducible refine Kd.C_alloc ?_ _) | (with_reducible refine Kd.C_drewN ?_ _) | (with_reducible refine Kd.C_drew ?_))); (case side4 => exact HC1_2.out); rintro e w100 ⟨v137, rfl, ho0, hb⟩; refine ⟨_, rfl, ?_⟩; have n0_ := ak (Kd.R_lower (Kd.R_newB ho0 (g := gb133) (o := .cells #[.int .i64 a2] 2 (0, 0)) (bx BK133.out)) (below_size lb)); have n1_ := ak (blk_below (bx BK131.out) hb); have n2_ := ak (blk_below (bx BK132.out) hb); have n3_ := ak (blk_below (bx BK133.out) hb); have n4_ := ak (blk_below (g := gbx) (o := .cells #[.int .i64 0] 30 (0, 0)) (bx BK999.out) hb); have n5_ := ak (below_step lb hb); clear BK131; clear BK132; clear BK133; clear BK999; clear HB; have HO138 := n0_; have BK131 := n1_; have BK132 := n2_; have BK133 := n3_; have BK999 := n4_; have HB := n5_; clear n0_ n1_ n2_ n3_ n4_ n5_; (try clear hb); (try clear hb2); (try clear hk); (try clear hi); (try clear ho0); have hcz101_0 : w100.cell? ⟨gb131, 0, none⟩ = some (.int .i64 a0_0) := (blk_cell BK131.out 0).trans rfl; have hcz101_1 : w100.cell? ⟨gb131, 1, none⟩ = some (.slice A0_1 l0_1.length c0_1) := (blk_cell BK131.out 1).trans rfl; have hfz101_0 := blk_frozen BK131.out 0; have hfz101_1 := blk_frozen BK131.out 1; have hcz102_0 : w100.cell? ⟨gb132, 0, none⟩ = some (.int .i64 a1_0) := (blk_cell BK132.out 0).trans rfl; have hcz102_1 : w100.cell? ⟨gb132, 1, none⟩ = some (.int .i64 a1_1) := (blk_cell BK132.out 1).trans rfl; have hcz102_2 : w100.cell? ⟨gb132, 2, none⟩ = some (.slice A1_2 l1_2.length c1_2) := (blk_cell BK132.out 2).trans rfl; have hcz102_3 : w100.cell? ⟨gb132, 3, none⟩ = some (.slice A1_3 l1_3.length c1_3) := (blk_cell BK132.out 3).trans rfl; have hfz102_0 := blk_frozen BK132.out 0; have hfz102_1 := blk_frozen BK132.out 1; have hfz102_2 := blk_frozen BK132.out 2; have hfz102_3 := blk_frozen BK132.out 3) | ((with_reducible refine gate_callee (f := 53) rfl ?_); refine panicsL_ (some 45) rfl rfl Try.func53 (by kernel_rfl) rfl #[.agg #[.int .i64 a0_0, .slice A0_1 l0_1.length c0_1], .slice A1_3 l1_3.length c1_3] rfl (by (try simp only [List.map_toArray, List.map_cons, List.map_nil]); first | done | rfl | (simp only [List.length_drop, List.length_take]; rfl)) ?_; (with_reducible refine (proof_across.bad k a0_0 _ _ l0_1 _ _ l1_3 t139 t140 _ ?side1 ?side2 ?side3 ?side4 A24.out c25).mono ?_); (case side1 => repeat (first | exact (Kd.C_below HR0_1.out HB.out) | (with_reducible refine Kd.C_alloc ?_ _) | (with_reducible refine Kd.C_drewN ?_ _) | (with_reducible refine Kd.C_drew ?_))); (case side2 => exact HC0_1.out); (case side3 => repeat (first | exact (Kd.C_below HR1_3.out HB.out) | (with_reducible refine Kd.C_alloc ?_ _) | (with_reducible refine Kd.C_drewN ?_ _) | (with_reducible refine Kd.C_drew ?_))); (case side4 => exact HC1_3.out); rintro e w103 ⟨rfl, hb⟩; refine ⟨_, rfl, ?_⟩; (repeat (first | refine panic_then ?_ | refine panic_block ?_)); exact panic_body rfl (⟨Gave.no c25 rfl, blk_below (bx BK133.out) hb, blk_below (bx BK999.out) hb, below_step lb hb⟩)))
       ·
        rw [if_neg c23] at H
        have A22 := ak A220
        clear A220
        simp only [Option.some.injEq, Prod.mk.injEq] at H
        obtain ⟨rfl, rfl⟩ := H
        have hnb104 := NB131_132.out
        have hnc104 := NB132_131.out
        have hnb105 := NB131_133.out
        have hnc105 := NB133_131.out
        have hnb106 := NB131_999.out
        have hnc106 := NB999_131.out
        have hcz107_0 : wc0.cell? ⟨gb131, 0, none⟩ = some (.int .i64 a0_0) := (blk_cell BK131.out 0).trans rfl
        have hcz107_1 : wc0.cell? ⟨gb131, 1, none⟩ = some (.slice A0_1 l0_1.length c0_1) := (blk_cell BK131.out 1).trans rfl
        have hfz107_0 := blk_frozen BK131.out 0
        have hfz107_1 := blk_frozen BK131.out 1
        go_enter Try.func49, Try.ntmps49
        go_wp2_with (first | ((with_reducible refine gate_callee (f := 50) rfl ?_); refine goesL_ (some 8) rfl rfl Try.func50 (by kernel_rfl) rfl #[.agg #[.int .i64 a0_0, .slice A0_1 l0_1.length c0_1]] rfl (by (try simp only [List.map_toArray, List.map_cons, List.map_nil]); first | done | rfl | (simp only [List.length_drop, List.length_take]; rfl)) ?_; (with_reducible refine (proof_right.ok k a0_0 _ _ l0_1  _ ?side1 ?side2 A4.out).mono ?_); (case side1 => repeat (first | exact (Kd.C_below HR0_1.out HB.out) | (with_reducible refine Kd.C_alloc ?_ _) | (with_reducible refine Kd.C_drewN ?_ _) | (with_reducible refine Kd.C_drew ?_))); (case side2 => exact HC0_1.out); rintro e w108 ⟨rfl, hb⟩; refine ⟨_, rfl, ?_⟩; have n0_ := ak (blk_below (bx BK131.out) hb); have n1_ := ak (blk_below (bx BK132.out) hb); have n2_ := ak (blk_below (bx BK133.out) hb); have n3_ := ak (blk_below (g := gbx) (o := .cells #[.int .i64 0] 30 (0, 0)) (bx BK999.out) hb); have n4_ := ak (below_step lb hb); clear BK131; clear BK132; clear BK133; clear BK999; clear HB; have BK131 := n0_; have BK132 := n1_; have BK133 := n2_; have BK999 := n3_; have HB := n4_; clear n0_ n1_ n2_ n3_ n4_; (try clear hb); (try clear hb2); (try clear hk); (try clear hi); have hnb109 := NB132_133.out; have hnc109 := NB133_132.out; have hnb110 := NB132_999.out; have hnc110 := NB999_132.out; have hcz111_0 : w108.cell? ⟨gb132, 0, none⟩ = some (.int .i64 a1_0) := (blk_cell BK132.out 0).trans rfl; have hcz111_1 : w108.cell? ⟨gb132, 1, none⟩ = some (.int .i64 a1_1) := (blk_cell BK132.out 1).trans rfl; have hcz111_2 : w108.cell? ⟨gb132, 2, none⟩ = some (.slice A1_2 l1_2.length c1_2) := (blk_cell BK132.out 2).trans rfl; have hcz111_3 : w108.cell? ⟨gb132, 3, none⟩ = some (.slice A1_3 l1_3.length c1_3) := (blk_cell BK132.out 3).trans rfl; have hfz111_0 := blk_frozen BK132.out 0; have hfz111_1 := blk_frozen BK132.out 1; have hfz111_2 := blk_frozen BK132.out 2; have hfz111_3 := blk_frozen BK132.out 3; have hcz112_0 : w108.cell? ⟨gb131, 0, none⟩ = some (.int .i64 a0_0) := (blk_cell BK131.out 0).trans rfl; have hcz112_1 : w108.cell? ⟨gb131, 1, none⟩ = some (.slice A0_1 l0_1.length c0_1) := (blk_cell BK131.out 1).trans rfl; have hfz112_0 := blk_frozen BK131.out 0; have hfz112_1 := blk_frozen BK131.out 1) | ((with_reducible refine gate_callee (f := 51) rfl ?_); refine goesL_ (some 31) rfl rfl Try.func51 (by kernel_rfl) rfl #[.bool true, .int .i64 30] rfl (by (try simp only [List.map_toArray, List.map_cons, List.map_nil]); first | done | rfl | (simp only [List.length_drop, List.length_take]; rfl)) ?_; (with_reducible refine (proof_need.calls true 30  _ A10.out).mono ?_); rintro e w' ⟨rfl, ⟨nd, rfl⟩⟩; refine ⟨_, rfl, ?_⟩) | ((with_reducible refine gate_callee (f := 51) rfl ?_); refine goesL_ (some 37) rfl rfl Try.func51 (by kernel_rfl) rfl #[.bool true, .int .i64 120] rfl (by (try simp only [List.map_toArray, List.map_cons, List.map_nil]); first | done | rfl | (simp only [List.length_drop, List.length_take]; rfl)) ?_; (with_reducible refine (proof_need.calls true 120  _ A21.out).mono ?_); rintro e w' ⟨rfl, ⟨nd, rfl⟩⟩; refine ⟨_, rfl, ?_⟩) | ((with_reducible refine gate_callee (f := 52) rfl ?_); refine panicsL_ (some 41) rfl rfl Try.func52 (by kernel_rfl) rfl #[.agg #[.int .i64 a0_0, .slice A0_1 l0_1.length c0_1], .slice A1_2 l1_2.length c1_2] rfl (by (try simp only [List.map_toArray, List.map_cons, List.map_nil]); first | done | rfl | (simp only [List.length_drop, List.length_take]; rfl)) ?_; (with_reducible refine (proof_carried.bad k a0_0 _ _ l0_1 _ _ l1_2 t135 t136 _ ?side1 ?side2 ?side3 ?side4 A22.out c23).mono ?_); (case side1 => repeat (first | exact (Kd.C_below HR0_1.out lb) | (with_reducible refine Kd.C_alloc ?_ _) | (with_reducible refine Kd.C_drewN ?_ _) | (with_reducible refine Kd.C_drew ?_))); (case side2 => exact HC0_1.out); (case side3 => repeat (first | exact (Kd.C_below HR1_2.out lb) | (with_reducible refine Kd.C_alloc ?_ _) | (with_reducible refine Kd.C_drewN ?_ _) | (with_reducible refine Kd.C_drew ?_))); (case side4 => exact HC1_2.out); rintro e w113 ⟨rfl, hb⟩; refine ⟨_, rfl, ?_⟩; (repeat (first | refine panic_then ?_ | refine panic_block ?_)); exact panic_body rfl (⟨Gave.no c23 rfl, blk_below (bx BK133.out) hb, blk_below (bx BK999.out) hb, below_step lb hb⟩)))
     ·
      rw [if_neg c9] at H
      have c9b0 : decide (a1_1 < a0_0) = false := decide_eq_false c9
      clear c9
      simp only [Option.some.injEq, Prod.mk.injEq] at H
      obtain ⟨rfl, rfl⟩ := H
      have hnb114 := NB131_132.out
      have hnc114 := NB132_131.out
      have hnb115 := NB131_133.out
      have hnc115 := NB133_131.out
      have hnb116 := NB131_999.out
      have hnc116 := NB999_131.out
      have hcz117_0 : wc0.cell? ⟨gb131, 0, none⟩ = some (.int .i64 a0_0) := (blk_cell BK131.out 0).trans rfl
      have hcz117_1 : wc0.cell? ⟨gb131, 1, none⟩ = some (.slice A0_1 l0_1.length c0_1) := (blk_cell BK131.out 1).trans rfl
      have hfz117_0 := blk_frozen BK131.out 0
      have hfz117_1 := blk_frozen BK131.out 1
      go_enter Try.func49, Try.ntmps49
      go_wp2_with (first | ((with_reducible refine gate_callee (f := 50) rfl ?_); refine goesL_ (some 8) rfl rfl Try.func50 (by kernel_rfl) rfl #[.agg #[.int .i64 a0_0, .slice A0_1 l0_1.length c0_1]] rfl (by (try simp only [List.map_toArray, List.map_cons, List.map_nil]); first | done | rfl | (simp only [List.length_drop, List.length_take]; rfl)) ?_; (with_reducible refine (proof_right.ok k a0_0 _ _ l0_1  _ ?side1 ?side2 A4.out).mono ?_); (case side1 => repeat (first | exact (Kd.C_below HR0_1.out HB.out) | (with_reducible refine Kd.C_alloc ?_ _) | (with_reducible refine Kd.C_drewN ?_ _) | (with_reducible refine Kd.C_drew ?_))); (case side2 => exact HC0_1.out); rintro e w118 ⟨rfl, hb⟩; refine ⟨_, rfl, ?_⟩; have n0_ := ak (blk_below (bx BK131.out) hb); have n1_ := ak (blk_below (bx BK132.out) hb); have n2_ := ak (blk_below (bx BK133.out) hb); have n3_ := ak (blk_below (g := gbx) (o := .cells #[.int .i64 0] 30 (0, 0)) (bx BK999.out) hb); have n4_ := ak (below_step lb hb); clear BK131; clear BK132; clear BK133; clear BK999; clear HB; have BK131 := n0_; have BK132 := n1_; have BK133 := n2_; have BK999 := n3_; have HB := n4_; clear n0_ n1_ n2_ n3_ n4_; (try clear hb); (try clear hb2); (try clear hk); (try clear hi); have hnb119 := NB132_133.out; have hnc119 := NB133_132.out; have hnb120 := NB132_999.out; have hnc120 := NB999_132.out; have hcz121_0 : w118.cell? ⟨gb132, 0, none⟩ = some (.int .i64 a1_0) := (blk_cell BK132.out 0).trans rfl; have hcz121_1 : w118.cell? ⟨gb132, 1, none⟩ = some (.int .i64 a1_1) := (blk_cell BK132.out 1).trans rfl; have hcz121_2 : w118.cell? ⟨gb132, 2, none⟩ = some (.slice A1_2 l1_2.length c1_2) := (blk_cell BK132.out 2).trans rfl; have hcz121_3 : w118.cell? ⟨gb132, 3, none⟩ = some (.slice A1_3 l1_3.length c1_3) := (blk_cell BK132.out 3).trans rfl; have hfz121_0 := blk_frozen BK132.out 0; have hfz121_1 := blk_frozen BK132.out 1; have hfz121_2 := blk_frozen BK132.out 2; have hfz121_3 := blk_frozen BK132.out 3; have hcz122_0 : w118.cell? ⟨gb131, 0, none⟩ = some (.int .i64 a0_0) := (blk_cell BK131.out 0).trans rfl; have hcz122_1 : w118.cell? ⟨gb131, 1, none⟩ = some (.slice A0_1 l0_1.length c0_1) := (blk_cell BK131.out 1).trans rfl; have hfz122_0 := blk_frozen BK131.out 0; have hfz122_1 := blk_frozen BK131.out 1) | ((with_reducible refine gate_callee (f := 51) rfl ?_); refine panicsL_ (some 31) rfl rfl Try.func51 (by kernel_rfl) rfl #[.bool false, .int .i64 30] rfl (by (try simp only [List.map_toArray, List.map_cons, List.map_nil]); first | done | rfl | (simp only [List.length_drop, List.length_take]; rfl)) ?_; refine (proof_need.bad 30 _).mono ?_; rintro e w' ⟨rfl, rfl⟩; refine ⟨_, rfl, ?_⟩; (repeat (first | refine panic_then ?_ | refine panic_block ?_)); exact panic_body rfl (⟨Gave.no (by first | decide | assumption | (simp_all; done)) rfl, (bx BK133.out), (bx BK999.out), lb⟩)))
    ·
     rw [if_neg c8] at H
     have c8b0 : decide (0 ≤ a1_1) = false := decide_eq_false c8
     clear c8
     simp only [Option.some.injEq, Prod.mk.injEq] at H
     obtain ⟨rfl, rfl⟩ := H
     have hnb123 := NB131_132.out
     have hnc123 := NB132_131.out
     have hnb124 := NB131_133.out
     have hnc124 := NB133_131.out
     have hnb125 := NB131_999.out
     have hnc125 := NB999_131.out
     have hcz126_0 : wc0.cell? ⟨gb131, 0, none⟩ = some (.int .i64 a0_0) := (blk_cell BK131.out 0).trans rfl
     have hcz126_1 : wc0.cell? ⟨gb131, 1, none⟩ = some (.slice A0_1 l0_1.length c0_1) := (blk_cell BK131.out 1).trans rfl
     have hfz126_0 := blk_frozen BK131.out 0
     have hfz126_1 := blk_frozen BK131.out 1
     go_enter Try.func49, Try.ntmps49
     go_wp2_with (first | ((with_reducible refine gate_callee (f := 50) rfl ?_); refine goesL_ (some 8) rfl rfl Try.func50 (by kernel_rfl) rfl #[.agg #[.int .i64 a0_0, .slice A0_1 l0_1.length c0_1]] rfl (by (try simp only [List.map_toArray, List.map_cons, List.map_nil]); first | done | rfl | (simp only [List.length_drop, List.length_take]; rfl)) ?_; (with_reducible refine (proof_right.ok k a0_0 _ _ l0_1  _ ?side1 ?side2 A4.out).mono ?_); (case side1 => repeat (first | exact (Kd.C_below HR0_1.out HB.out) | (with_reducible refine Kd.C_alloc ?_ _) | (with_reducible refine Kd.C_drewN ?_ _) | (with_reducible refine Kd.C_drew ?_))); (case side2 => exact HC0_1.out); rintro e w127 ⟨rfl, hb⟩; refine ⟨_, rfl, ?_⟩; have n0_ := ak (blk_below (bx BK131.out) hb); have n1_ := ak (blk_below (bx BK132.out) hb); have n2_ := ak (blk_below (bx BK133.out) hb); have n3_ := ak (blk_below (g := gbx) (o := .cells #[.int .i64 0] 30 (0, 0)) (bx BK999.out) hb); have n4_ := ak (below_step lb hb); clear BK131; clear BK132; clear BK133; clear BK999; clear HB; have BK131 := n0_; have BK132 := n1_; have BK133 := n2_; have BK999 := n3_; have HB := n4_; clear n0_ n1_ n2_ n3_ n4_; (try clear hb); (try clear hb2); (try clear hk); (try clear hi); have hnb128 := NB132_133.out; have hnc128 := NB133_132.out; have hnb129 := NB132_999.out; have hnc129 := NB999_132.out; have hcz130_0 : w127.cell? ⟨gb132, 0, none⟩ = some (.int .i64 a1_0) := (blk_cell BK132.out 0).trans rfl; have hcz130_1 : w127.cell? ⟨gb132, 1, none⟩ = some (.int .i64 a1_1) := (blk_cell BK132.out 1).trans rfl; have hcz130_2 : w127.cell? ⟨gb132, 2, none⟩ = some (.slice A1_2 l1_2.length c1_2) := (blk_cell BK132.out 2).trans rfl; have hcz130_3 : w127.cell? ⟨gb132, 3, none⟩ = some (.slice A1_3 l1_3.length c1_3) := (blk_cell BK132.out 3).trans rfl; have hfz130_0 := blk_frozen BK132.out 0; have hfz130_1 := blk_frozen BK132.out 1; have hfz130_2 := blk_frozen BK132.out 2; have hfz130_3 := blk_frozen BK132.out 3; have hcz131_0 : w127.cell? ⟨gb131, 0, none⟩ = some (.int .i64 a0_0) := (blk_cell BK131.out 0).trans rfl; have hcz131_1 : w127.cell? ⟨gb131, 1, none⟩ = some (.slice A0_1 l0_1.length c0_1) := (blk_cell BK131.out 1).trans rfl; have hfz131_0 := blk_frozen BK131.out 0; have hfz131_1 := blk_frozen BK131.out 1) | ((with_reducible refine gate_callee (f := 51) rfl ?_); refine panicsL_ (some 31) rfl rfl Try.func51 (by kernel_rfl) rfl #[.bool false, .int .i64 30] rfl (by (try simp only [List.map_toArray, List.map_cons, List.map_nil]); first | done | rfl | (simp only [List.length_drop, List.length_take]; rfl)) ?_; refine (proof_need.bad 30 _).mono ?_; rintro e w' ⟨rfl, rfl⟩; refine ⟨_, rfl, ?_⟩; (repeat (first | refine panic_then ?_ | refine panic_block ?_)); exact panic_body rfl (⟨Gave.no (by first | decide | assumption | (simp_all; done)) rfl, (bx BK133.out), (bx BK999.out), lb⟩)))
   ·
    rw [if_neg c7] at H
    have c7b0 : decide (a1_0 < a0_0) = false := decide_eq_false c7
    clear c7
    simp only [Option.some.injEq, Prod.mk.injEq] at H
    obtain ⟨rfl, rfl⟩ := H
    have hnb132 := NB131_132.out
    have hnc132 := NB132_131.out
    have hnb133 := NB131_133.out
    have hnc133 := NB133_131.out
    have hnb134 := NB131_999.out
    have hnc134 := NB999_131.out
    have hcz135_0 : wc0.cell? ⟨gb131, 0, none⟩ = some (.int .i64 a0_0) := (blk_cell BK131.out 0).trans rfl
    have hcz135_1 : wc0.cell? ⟨gb131, 1, none⟩ = some (.slice A0_1 l0_1.length c0_1) := (blk_cell BK131.out 1).trans rfl
    have hfz135_0 := blk_frozen BK131.out 0
    have hfz135_1 := blk_frozen BK131.out 1
    go_enter Try.func49, Try.ntmps49
    go_wp2_with (first | ((with_reducible refine gate_callee (f := 50) rfl ?_); refine goesL_ (some 8) rfl rfl Try.func50 (by kernel_rfl) rfl #[.agg #[.int .i64 a0_0, .slice A0_1 l0_1.length c0_1]] rfl (by (try simp only [List.map_toArray, List.map_cons, List.map_nil]); first | done | rfl | (simp only [List.length_drop, List.length_take]; rfl)) ?_; (with_reducible refine (proof_right.ok k a0_0 _ _ l0_1  _ ?side1 ?side2 A4.out).mono ?_); (case side1 => repeat (first | exact (Kd.C_below HR0_1.out HB.out) | (with_reducible refine Kd.C_alloc ?_ _) | (with_reducible refine Kd.C_drewN ?_ _) | (with_reducible refine Kd.C_drew ?_))); (case side2 => exact HC0_1.out); rintro e w136 ⟨rfl, hb⟩; refine ⟨_, rfl, ?_⟩; have n0_ := ak (blk_below (bx BK131.out) hb); have n1_ := ak (blk_below (bx BK132.out) hb); have n2_ := ak (blk_below (bx BK133.out) hb); have n3_ := ak (blk_below (g := gbx) (o := .cells #[.int .i64 0] 30 (0, 0)) (bx BK999.out) hb); have n4_ := ak (below_step lb hb); clear BK131; clear BK132; clear BK133; clear BK999; clear HB; have BK131 := n0_; have BK132 := n1_; have BK133 := n2_; have BK999 := n3_; have HB := n4_; clear n0_ n1_ n2_ n3_ n4_; (try clear hb); (try clear hb2); (try clear hk); (try clear hi); have hnb137 := NB132_133.out; have hnc137 := NB133_132.out; have hnb138 := NB132_999.out; have hnc138 := NB999_132.out; have hcz139_0 : w136.cell? ⟨gb132, 0, none⟩ = some (.int .i64 a1_0) := (blk_cell BK132.out 0).trans rfl; have hcz139_1 : w136.cell? ⟨gb132, 1, none⟩ = some (.int .i64 a1_1) := (blk_cell BK132.out 1).trans rfl; have hcz139_2 : w136.cell? ⟨gb132, 2, none⟩ = some (.slice A1_2 l1_2.length c1_2) := (blk_cell BK132.out 2).trans rfl; have hcz139_3 : w136.cell? ⟨gb132, 3, none⟩ = some (.slice A1_3 l1_3.length c1_3) := (blk_cell BK132.out 3).trans rfl; have hfz139_0 := blk_frozen BK132.out 0; have hfz139_1 := blk_frozen BK132.out 1; have hfz139_2 := blk_frozen BK132.out 2; have hfz139_3 := blk_frozen BK132.out 3; have hcz140_0 : w136.cell? ⟨gb131, 0, none⟩ = some (.int .i64 a0_0) := (blk_cell BK131.out 0).trans rfl; have hcz140_1 : w136.cell? ⟨gb131, 1, none⟩ = some (.slice A0_1 l0_1.length c0_1) := (blk_cell BK131.out 1).trans rfl; have hfz140_0 := blk_frozen BK131.out 0; have hfz140_1 := blk_frozen BK131.out 1) | ((with_reducible refine gate_callee (f := 51) rfl ?_); refine panicsL_ (some 31) rfl rfl Try.func51 (by kernel_rfl) rfl #[.bool false, .int .i64 30] rfl (by (try simp only [List.map_toArray, List.map_cons, List.map_nil]); first | done | rfl | (simp only [List.length_drop, List.length_take]; rfl)) ?_; refine (proof_need.bad 30 _).mono ?_; rintro e w' ⟨rfl, rfl⟩; refine ⟨_, rfl, ?_⟩; (repeat (first | refine panic_then ?_ | refine panic_block ?_)); exact panic_body rfl (⟨Gave.no (by first | decide | assumption | (simp_all; done)) rfl, (bx BK133.out), (bx BK999.out), lb⟩)))
  ·
   rw [if_neg c6] at H
   have c6b0 : decide (0 ≤ a1_0) = false := decide_eq_false c6
   clear c6
   simp only [Option.some.injEq, Prod.mk.injEq] at H
   obtain ⟨rfl, rfl⟩ := H
   have hnb141 := NB131_132.out
   have hnc141 := NB132_131.out
   have hnb142 := NB131_133.out
   have hnc142 := NB133_131.out
   have hnb143 := NB131_999.out
   have hnc143 := NB999_131.out
   have hcz144_0 : wc0.cell? ⟨gb131, 0, none⟩ = some (.int .i64 a0_0) := (blk_cell BK131.out 0).trans rfl
   have hcz144_1 : wc0.cell? ⟨gb131, 1, none⟩ = some (.slice A0_1 l0_1.length c0_1) := (blk_cell BK131.out 1).trans rfl
   have hfz144_0 := blk_frozen BK131.out 0
   have hfz144_1 := blk_frozen BK131.out 1
   go_enter Try.func49, Try.ntmps49
   go_wp2_with (first | ((with_reducible refine gate_callee (f := 50) rfl ?_); refine goesL_ (some 8) rfl rfl Try.func50 (by kernel_rfl) rfl #[.agg #[.int .i64 a0_0, .slice A0_1 l0_1.length c0_1]] rfl (by (try simp only [List.map_toArray, List.map_cons, List.map_nil]); first | done | rfl | (simp only [List.length_drop, List.length_take]; rfl)) ?_; (with_reducible refine (proof_right.ok k a0_0 _ _ l0_1  _ ?side1 ?side2 A4.out).mono ?_); (case side1 => repeat (first | exact (Kd.C_below HR0_1.out HB.out) | (with_reducible refine Kd.C_alloc ?_ _) | (with_reducible refine Kd.C_drewN ?_ _) | (with_reducible refine Kd.C_drew ?_))); (case side2 => exact HC0_1.out); rintro e w145 ⟨rfl, hb⟩; refine ⟨_, rfl, ?_⟩; have n0_ := ak (blk_below (bx BK131.out) hb); have n1_ := ak (blk_below (bx BK132.out) hb); have n2_ := ak (blk_below (bx BK133.out) hb); have n3_ := ak (blk_below (g := gbx) (o := .cells #[.int .i64 0] 30 (0, 0)) (bx BK999.out) hb); have n4_ := ak (below_step lb hb); clear BK131; clear BK132; clear BK133; clear BK999; clear HB; have BK131 := n0_; have BK132 := n1_; have BK133 := n2_; have BK999 := n3_; have HB := n4_; clear n0_ n1_ n2_ n3_ n4_; (try clear hb); (try clear hb2); (try clear hk); (try clear hi); have hnb146 := NB132_133.out; have hnc146 := NB133_132.out; have hnb147 := NB132_999.out; have hnc147 := NB999_132.out; have hcz148_0 : w145.cell? ⟨gb132, 0, none⟩ = some (.int .i64 a1_0) := (blk_cell BK132.out 0).trans rfl; have hcz148_1 : w145.cell? ⟨gb132, 1, none⟩ = some (.int .i64 a1_1) := (blk_cell BK132.out 1).trans rfl; have hcz148_2 : w145.cell? ⟨gb132, 2, none⟩ = some (.slice A1_2 l1_2.length c1_2) := (blk_cell BK132.out 2).trans rfl; have hcz148_3 : w145.cell? ⟨gb132, 3, none⟩ = some (.slice A1_3 l1_3.length c1_3) := (blk_cell BK132.out 3).trans rfl; have hfz148_0 := blk_frozen BK132.out 0; have hfz148_1 := blk_frozen BK132.out 1; have hfz148_2 := blk_frozen BK132.out 2; have hfz148_3 := blk_frozen BK132.out 3) | ((with_reducible refine gate_callee (f := 51) rfl ?_); refine panicsL_ (some 31) rfl rfl Try.func51 (by kernel_rfl) rfl #[.bool false, .int .i64 30] rfl (by (try simp only [List.map_toArray, List.map_cons, List.map_nil]); first | done | rfl | (simp only [List.length_drop, List.length_take]; rfl)) ?_; refine (proof_need.bad 30 _).mono ?_; rintro e w' ⟨rfl, rfl⟩; refine ⟨_, rfl, ?_⟩; (repeat (first | refine panic_then ?_ | refine panic_block ?_)); exact panic_body rfl (⟨Gave.no (by first | decide | assumption | (simp_all; done)) rfl, (bx BK133.out), (bx BK999.out), lb⟩)))
 ·
  rw [if_neg c5] at H
  have A4 := ak A40
  clear A40
  simp only [Option.some.injEq, Prod.mk.injEq] at H
  obtain ⟨rfl, rfl⟩ := H
  have hnb149 := NB131_132.out
  have hnc149 := NB132_131.out
  have hnb150 := NB131_133.out
  have hnc150 := NB133_131.out
  have hnb151 := NB131_999.out
  have hnc151 := NB999_131.out
  have hcz152_0 : wc0.cell? ⟨gb131, 0, none⟩ = some (.int .i64 a0_0) := (blk_cell BK131.out 0).trans rfl
  have hcz152_1 : wc0.cell? ⟨gb131, 1, none⟩ = some (.slice A0_1 l0_1.length c0_1) := (blk_cell BK131.out 1).trans rfl
  have hfz152_0 := blk_frozen BK131.out 0
  have hfz152_1 := blk_frozen BK131.out 1
  go_enter Try.func49, Try.ntmps49
  go_wp2_with (first | ((with_reducible refine gate_callee (f := 50) rfl ?_); refine panicsL_ (some 8) rfl rfl Try.func50 (by kernel_rfl) rfl #[.agg #[.int .i64 a0_0, .slice A0_1 l0_1.length c0_1]] rfl (by (try simp only [List.map_toArray, List.map_cons, List.map_nil]); first | done | rfl | (simp only [List.length_drop, List.length_take]; rfl)) ?_; (with_reducible refine (proof_right.bad k a0_0 _ _ l0_1 t134 _ ?side1 ?side2 A4.out c5).mono ?_); (case side1 => repeat (first | exact (Kd.C_below HR0_1.out HB.out) | (with_reducible refine Kd.C_alloc ?_ _) | (with_reducible refine Kd.C_drewN ?_ _) | (with_reducible refine Kd.C_drew ?_))); (case side2 => exact HC0_1.out); rintro e w153 ⟨rfl, hb⟩; refine ⟨_, rfl, ?_⟩; (repeat (first | refine panic_then ?_ | refine panic_block ?_)); exact panic_body rfl (⟨Gave.no c5 rfl, blk_below (bx BK133.out) hb, blk_below (bx BK999.out) hb, below_step lb hb⟩)))

end Go.Proofs.Ytkdoihcjhccliaa.Q
