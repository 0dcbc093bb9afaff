-- PRINTED by print.py (a twelfth state) out of the translation. Not trusted: Lean checks it.
import Derived.Test.YtacklfnnpiobgaaQ0
import Derived.Test.YtacklfnnpiobgaaQ9
import Derived.Test.YtacklfnnpiobgaaQ13
namespace Go.Proofs.Ytacklfnnpiobgaa.Q
open Go.RowKit Go.Proofs.YtacklfnnpiobgaaW.PrintWords Go.Proofs.YtacklfnnpiobgaaW.PrintLast Go.Proofs.YtacklfnnpiobgaaW.PrintMore
attribute [local go_sem] max2_int min2_int max_two min_two max_three min_three max_four min_four   -- for this text's walks alone
set_option linter.unusedVariables false
set_option linter.unusedSimpArgs false

/-! ### compasslaw04_WalkVisits: function 7 -/
def compasslaw04_WalkVisits.f (k : Nat) (a0_0 : Int) (l0_1 : List (S41)) : Option (Bool) := (compasslaw04_awake.f k).bind fun t275 => (if t275 = true then ((walk_Visit.f k a0_0 l0_1).bind fun bt276 => ((compassref04_Visit.f k a0_0 l0_1).bind fun bt283 => ((compasslaw04_ints.f k bt276.1 bt283.1).bind fun t290 => (if t290 = true then ((compasslaw04_ints.f k bt276.2.1 bt283.2.1).bind fun t291 => (if t291 = true then (some (bt276.2.2 == bt283.2.2)) else (some false))) else (some false))))) else (some false))
theorem compasslaw04_WalkVisits.mono : ∀ a0 a1 k, LeO (compasslaw04_WalkVisits.f k a0 a1) (compasslaw04_WalkVisits.f (k + 1) a0 a1) := by
  intro a0 a1 k
  unfold compasslaw04_WalkVisits.f
  repeat' first
      | (with_reducible exact compasslaw04_awake.mono _)
      | (with_reducible exact compasslaw04_ints.mono _ _ _)
      | (with_reducible exact compassref04_Visit.mono _ _ _)
      | (with_reducible exact walk_Visit.mono _ _ _)
      | (with_reducible exact LeO.refl _)
      | (with_reducible exact LeO.none _)
      | (with_reducible refine LeO.ite ?_ ?_)
      | (with_reducible refine LeO.bind ?_ (fun _ => ?_))
      | exact compasslaw04_awake.mono _
      | exact compasslaw04_ints.mono _ _ _
      | exact compassref04_Visit.mono _ _ _
      | exact walk_Visit.mono _ _ _
      | exact LeO.none _
      | refine LeO.ite ?_ ?_
      | refine LeO.bind ?_ (fun _ => ?_)
set_option maxHeartbeats 8000000 in
set_option maxRecDepth 100000 in
theorem compasslaw04_WalkVisits.calls (k : Nat) (a0_0 : Int) (A0_1 : Option Addr) (c0_1 : Nat) (l0_1 : List (S41)) (r : Bool) (w : World) (hr0_1 : Kd.C k41 w A0_1 l0_1.length l0_1) (hc0_1 : l0_1.length ≤ c0_1) (hr_ : r = true) (h : compasslaw04_WalkVisits.f k a0_0 l0_1 = some r) :
    Calls Try.prog 7 #[.agg #[.int .i64 a0_0, .slice A0_1 l0_1.length c0_1]] w fun e w' => e = .returned (.bool r) ∧ Below w.heap.size w w' := by
 have hu24 := Try.underlying24
 have HR0_1 := ak hr0_1
 have HC0_1 := ak hc0_1
 clear hr0_1 hc0_1
 have HB := ak (Below.refl w.heap.size w)
 have HR_ := ak hr_
 clear hr_
 have H : ((compasslaw04_awake.f k).bind fun t275 => (if t275 = true then ((walk_Visit.f k a0_0 l0_1).bind fun bt276 => ((compassref04_Visit.f k a0_0 l0_1).bind fun bt283 => ((compasslaw04_ints.f k bt276.1 bt283.1).bind fun t290 => (if t290 = true then ((compasslaw04_ints.f k bt276.2.1 bt283.2.1).bind fun t291 => (if t291 = true then (some (bt276.2.2 == bt283.2.2)) else (some false))) else (some false))))) else (some false))) = some r := h
 clear h
 replace H := Option.bind_eq_some_iff.mp H
 obtain ⟨t275, A20, H⟩ := H
 replace H : (if t275 = true then ((walk_Visit.f k a0_0 l0_1).bind fun bt276 => ((compassref04_Visit.f k a0_0 l0_1).bind fun bt283 => ((compasslaw04_ints.f k bt276.1 bt283.1).bind fun t290 => (if t290 = true then ((compasslaw04_ints.f k bt276.2.1 bt283.2.1).bind fun t291 => (if t291 = true then (some (bt276.2.2 == bt283.2.2)) else (some false))) else (some false))))) else (some false)) = some r := H
 have A2 := ak A20
 clear A20
 by_cases c3 : t275 = true
 ·
  subst c3
  have H1 : ((walk_Visit.f k a0_0 l0_1).bind fun bt276 => ((compassref04_Visit.f k a0_0 l0_1).bind fun bt283 => ((compasslaw04_ints.f k bt276.1 bt283.1).bind fun t290 => (if t290 = true then ((compasslaw04_ints.f k bt276.2.1 bt283.2.1).bind fun t291 => (if t291 = true then (some (bt276.2.2 == bt283.2.2)) else (some false))) else (some false))))) = some r := by rw [if_pos rfl] at H; exact H
  clear H
  have H := H1
  clear H1
  replace H := Option.bind_eq_some_iff.mp H
  obtain ⟨⟨t276, t279, t282⟩, A40, H⟩ := H
  replace H : ((compassref04_Visit.f k a0_0 l0_1).bind fun bt283 => ((compasslaw04_ints.f k t276 bt283.1).bind fun t290 => (if t290 = true then ((compasslaw04_ints.f k t279 bt283.2.1).bind fun t291 => (if t291 = true then (some (t282 == bt283.2.2)) else (some false))) else (some false)))) = some r := H
  have A4 := ak A40
  clear A40
  replace H := Option.bind_eq_some_iff.mp H
  obtain ⟨⟨t283, t286, t289⟩, A50, H⟩ := H
  replace H : ((compasslaw04_ints.f k t276 t283).bind fun t290 => (if t290 = true then ((compasslaw04_ints.f k t279 t286).bind fun t291 => (if t291 = true then (some (t282 == t289)) else (some false))) else (some false))) = some r := H
  have A5 := ak A50
  clear A50
  replace H := Option.bind_eq_some_iff.mp H
  obtain ⟨t290, A60, H⟩ := H
  replace H : (if t290 = true then ((compasslaw04_ints.f k t279 t286).bind fun t291 => (if t291 = true then (some (t282 == t289)) else (some false))) else (some false)) = some r := H
  have A6 := ak A60
  clear A60
  by_cases c7 : t290 = true
  ·
   subst c7
   have H1 : ((compasslaw04_ints.f k t279 t286).bind fun t291 => (if t291 = true then (some (t282 == t289)) else (some false))) = some r := by rw [if_pos rfl] at H; exact H
   clear H
   have H := H1
   clear H1
   replace H := Option.bind_eq_some_iff.mp H
   obtain ⟨t291, A80, H⟩ := H
   replace H : (if t291 = true then (some (t282 == t289)) else (some false)) = some r := H
   have A8 := ak A80
   clear A80
   by_cases c9 : t291 = true
   ·
    subst c9
    have H1 : (some (t282 == t289)) = some r := by rw [if_pos rfl] at H; exact H
    clear H
    have H := H1
    clear H1
    obtain rfl := Option.some.inj H
    go_enter Try.func7, Try.ntmps7
    go_wp2_with (first | ((with_reducible refine gate_dst (N := 1) rfl ?_); refine box_event ?hg (N := 1) ?hd (cs := #[.int .i64 a0_0, .slice A0_1 l0_1.length c0_1]) (t := 24) ?hr ?_; (case hd => rfl); (case hg => rfl); (case hr => first | (go_simp; done) | (go_simp; rfl)); intro gb274 hg w10 hbox hb; have n0_ := ak (below_step lb hb); have n1_ := ak (hbox); have n2_ := ak ((by rw [hg]; exact (below_size lb) : w.heap.size ≤ gb274)); have n3_ := ak ((by rw [hg]; exact (below_size lb) : w.heap.size ≤ gb274)); clear HB; have HB := n0_; have BK274 := n1_; have GW274 := n2_; have GE274 := n3_; clear n0_ n1_ n2_ n3_; clear hb hbox hg) | ((with_reducible refine gate_callee (f := 12) rfl ?_); refine goesL_ (some 9) rfl rfl Try.func12 (by kernel_rfl) rfl #[] rfl (by (try simp only [List.map_toArray, List.map_cons, List.map_nil]); first | done | rfl | (simp only [List.length_drop, List.length_take]; rfl)) ?_; (with_reducible refine (compasslaw04_awake.calls k  true _ A2.out).mono ?_); rintro e w11 ⟨rfl, hb⟩; refine ⟨_, rfl, ?_⟩; have n0_ := ak (blk_below (bx BK274.out) hb); have n1_ := ak (below_step lb hb); clear BK274; clear HB; have BK274 := n0_; have HB := n1_; clear n0_ n1_; (try clear hb); (try clear hb2); (try clear hk); (try clear hi); have hcz12_0 : w11.cell? ⟨gb274, 0, none⟩ = some (.int .i64 a0_0) := (blk_cell BK274.out 0).trans rfl; have hcz12_1 : w11.cell? ⟨gb274, 1, none⟩ = some (.slice A0_1 l0_1.length c0_1) := (blk_cell BK274.out 1).trans rfl; have hfz12_0 := blk_frozen BK274.out 0; have hfz12_1 := blk_frozen BK274.out 1) | ((with_reducible refine gate_callee (f := 19) rfl ?_); refine goesL_ (some 13) rfl rfl Try.func19 (by kernel_rfl) rfl #[.agg #[.int .i64 a0_0, .slice A0_1 l0_1.length c0_1]] rfl (by (try simp only [List.map_toArray, List.map_cons, List.map_nil]); first | done | rfl | (simp only [List.length_drop, List.length_take]; rfl)) ?_; (with_reducible refine (walk_Visit.calls k a0_0 _ _ l0_1 t276 t279 t282 _ ?side1 ?side2 A4.out).mono ?_); (case side1 => repeat (first | exact (Kd.C_below HR0_1.out HB.out) | (with_reducible refine Kd.C_alloc ?_ _) | (with_reducible refine Kd.C_drewN ?_ _) | (with_reducible refine Kd.C_drew ?_))); (case side2 => exact HC0_1.out); rintro e w13 ⟨v277, v280, rfl, ho0, ho1, hb⟩; refine ⟨_, rfl, ?_⟩; have n0_ := ak (Kd.R_lower ho0 (below_size lb)); have n1_ := ak (Kd.R_lower ho1 (below_size lb)); have n2_ := ak (blk_below (bx BK274.out) hb); have n3_ := ak (below_step lb hb); clear BK274; clear HB; have HO278 := n0_; have HO281 := n1_; have BK274 := n2_; have HB := n3_; clear n0_ n1_ n2_ n3_; (try clear hb); (try clear hb2); (try clear hk); (try clear hi); (try clear ho0); (try clear ho1); have hcz14_0 : w13.cell? ⟨gb274, 0, none⟩ = some (.int .i64 a0_0) := (blk_cell BK274.out 0).trans rfl; have hcz14_1 : w13.cell? ⟨gb274, 1, none⟩ = some (.slice A0_1 l0_1.length c0_1) := (blk_cell BK274.out 1).trans rfl; have hfz14_0 := blk_frozen BK274.out 0; have hfz14_1 := blk_frozen BK274.out 1) | ((with_reducible refine gate_callee (f := 20) rfl ?_); refine goesL_ (some 19) rfl rfl Try.func20 (by kernel_rfl) rfl #[.agg #[.int .i64 a0_0, .slice A0_1 l0_1.length c0_1]] rfl (by (try simp only [List.map_toArray, List.map_cons, List.map_nil]); first | done | rfl | (simp only [List.length_drop, List.length_take]; rfl)) ?_; (with_reducible refine (compassref04_Visit.calls k a0_0 _ _ l0_1 t283 t286 t289 _ ?side1 ?side2 A5.out).mono ?_); (case side1 => repeat (first | exact (Kd.C_below HR0_1.out HB.out) | (with_reducible refine Kd.C_alloc ?_ _) | (with_reducible refine Kd.C_drewN ?_ _) | (with_reducible refine Kd.C_drew ?_))); (case side2 => exact HC0_1.out); rintro e w15 ⟨v284, v287, rfl, ho0, ho1, hb⟩; refine ⟨_, rfl, ?_⟩; have n0_ := ak (Kd.R_mono (Kd.R_told (Kd.R_told (Kd.R_old (rx HO278.out) hb) (Kd.R_base ho0)) (Kd.R_base ho1)) (fun _ h_ => h_.1)); have n1_ := ak (Kd.R_mono (Kd.R_told (Kd.R_told (Kd.R_old (rx HO281.out) hb) (Kd.R_base ho0)) (Kd.R_base ho1)) (fun _ h_ => h_.1)); have n2_ := ak (Kd.R_lower (Kd.R_new' (Kd.R_new' ho0 (Kd.R_lt (rx HO278.out))) (Kd.R_lt (rx HO281.out))) (below_size lb)); have n3_ := ak (Kd.R_lower (Kd.R_new' (Kd.R_new' ho1 (Kd.R_lt (rx HO278.out))) (Kd.R_lt (rx HO281.out))) (below_size lb)); have n4_ := ak (blk_below (bx BK274.out) hb); have n5_ := ak (below_step lb hb); clear HO278; clear HO281; clear BK274; clear HB; have HO278 := n0_; have HO281 := n1_; have HO285 := n2_; have HO288 := n3_; have BK274 := n4_; have HB := n5_; clear n0_ n1_ n2_ n3_ n4_ n5_; (try clear hb); (try clear hb2); (try clear hk); (try clear hi); (try clear ho0); (try clear ho1); obtain ⟨Ao16, co16, eo16⟩ := Kd.R_slice HO278.out; subst eo16; obtain ⟨Ao17, co17, eo17⟩ := Kd.R_slice HO285.out; subst eo17) | ((with_reducible refine gate_callee (f := 15) rfl ?_); refine goesL_ (some 25) rfl rfl Try.func15 (by kernel_rfl) rfl #[.slice Ao16 t276.length co16, .slice Ao17 t283.length co17] rfl (by (try simp only [List.map_toArray, List.map_cons, List.map_nil]); first | done | rfl | (simp only [List.length_drop, List.length_take]; rfl)) ?_; (with_reducible refine (compasslaw04_ints.calls k _ _ t276 _ _ t283 true _ ?side1 ?side2 ?side3 ?side4 A6.out).mono ?_); (case side1 => repeat (first | exact (Kd.R_reads' HO278.out).2.2 | (with_reducible refine Kd.C_alloc ?_ _) | (with_reducible refine Kd.C_drewN ?_ _) | (with_reducible refine Kd.C_drew ?_))); (case side2 => exact (Kd.R_reads' HO278.out).2.1); (case side3 => repeat (first | exact (Kd.R_reads' HO285.out).2.2 | (with_reducible refine Kd.C_alloc ?_ _) | (with_reducible refine Kd.C_drewN ?_ _) | (with_reducible refine Kd.C_drew ?_))); (case side4 => exact (Kd.R_reads' HO285.out).2.1); rintro e w' ⟨rfl, ⟨nd, rfl⟩⟩; refine ⟨_, rfl, ?_⟩; obtain ⟨Ao18, co18, eo18⟩ := Kd.R_slice HO281.out; subst eo18; obtain ⟨Ao19, co19, eo19⟩ := Kd.R_slice HO288.out; subst eo19) | (go_at_call 15; (with_reducible refine (compasslaw04_ints.calls k _ _ t279 _ _ t286 true _ ?side1 ?side2 ?side3 ?side4 A8.out).mono ?_); (case side1 => repeat (first | exact (Kd.R_reads' HO281.out).2.2 | (with_reducible refine Kd.C_alloc ?_ _) | (with_reducible refine Kd.C_drewN ?_ _) | (with_reducible refine Kd.C_drew ?_))); (case side2 => exact (Kd.R_reads' HO281.out).2.1); (case side3 => repeat (first | exact (Kd.R_reads' HO288.out).2.2 | (with_reducible refine Kd.C_alloc ?_ _) | (with_reducible refine Kd.C_drewN ?_ _) | (with_reducible refine Kd.C_drew ?_))); (case side4 => exact (Kd.R_reads' HO288.out).2.1); rintro e w' ⟨rfl, ⟨nd, rfl⟩⟩))
    go_ret
    exact ⟨by first | rfl | (simp [errW_none, errW_some] <;> rfl) | (simp [*, errW_none, errW_some] <;> rfl), lb⟩
   ·
    replace c9 := Bool.eq_false_iff.mpr c9
    subst c9
    have H1 : (some false) = some r := by rw [if_neg (show ¬ (false = true) by decide)] at H; exact H
    clear H
    have H := H1
    clear H1
    exact absurd ((Option.some.inj H).trans HR_.out) (by decide)
  ·
   replace c7 := Bool.eq_false_iff.mpr c7
   subst c7
   have H1 : (some false) = some r := by rw [if_neg (show ¬ (false = true) by decide)] at H; exact H
   clear H
   have H := H1
   clear H1
   exact absurd ((Option.some.inj H).trans HR_.out) (by decide)
 ·
  replace c3 := Bool.eq_false_iff.mpr c3
  subst c3
  have H1 : (some false) = some r := by rw [if_neg (show ¬ (false = true) by decide)] at H; exact H
  clear H
  have H := H1
  clear H1
  exact absurd ((Option.some.inj H).trans HR_.out) (by decide)

end Go.Proofs.Ytacklfnnpiobgaa.Q
