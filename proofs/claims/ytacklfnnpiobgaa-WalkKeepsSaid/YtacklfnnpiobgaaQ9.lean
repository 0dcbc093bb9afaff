-- PRINTED by print.py (a twelfth state) out of the translation. Not trusted: Lean checks it.
import Derived.Test.YtacklfnnpiobgaaQ0
import Derived.Test.YtacklfnnpiobgaaQ6
import Derived.Test.YtacklfnnpiobgaaQ8
import Derived.Test.YtacklfnnpiobgaaVisD
namespace Go.Proofs.Ytacklfnnpiobgaa.Q
open Go.RowKit Go.Proofs.YtacklfnnpiobgaaW.PrintWords Go.Proofs.YtacklfnnpiobgaaW.PrintLast Go.Proofs.YtacklfnnpiobgaaW.PrintMore
attribute [local go_sem] max2_int min2_int max_two min_two max_three min_three max_four min_four   -- for this text's walks alone
set_option linter.unusedVariables false
set_option linter.unusedSimpArgs false

/-! ### compasslaw04_line: function 22 -/
def compasslaw04_line.f  : Option (Int × (List (S41))) := some (3, (([(⟨0, 1, 0, 0⟩ : S41), (⟨1, 2, 0, 0⟩ : S41)] : List (S41))))
set_option maxHeartbeats 8000000 in
set_option maxRecDepth 100000 in
theorem compasslaw04_line.calls  (r1 : Int) (r2 : List (S41)) (w : World) (h : compasslaw04_line.f  = some (r1, r2)) :
    Calls Try.prog 22 #[] w fun e w' => ∃ v1_ : Value, e = .returned (.agg #[.int .i64 r1, v1_]) ∧ Kd.R k41 41 w' w.heap.size (fun _ => True) v1_ r2 ∧ Below w.heap.size w w' := by
 have hu24 := Try.underlying24
 have hu41 := Try.underlying41
 have HB := ak (Below.refl w.heap.size w)
 have H : (some (3, (([(⟨0, 1, 0, 0⟩ : S41), (⟨1, 2, 0, 0⟩ : S41)] : List (S41))))) = some (r1, r2) := h
 clear h
 obtain ⟨y207, hy207⟩ : ∃ y_ : List (S41), y_ = (([(⟨0, 1, 0, 0⟩ : S41), (⟨1, 2, 0, 0⟩ : S41)] : List (S41))) := ⟨_, rfl⟩
 replace H : (some (3, y207)) = some (r1, r2) := by first | (rw [hy207]; exact H) | exact H
 have Ny207 := ak hy207
 clear hy207
 simp only [Option.some.injEq, Prod.mk.injEq] at H
 obtain ⟨rfl, rfl⟩ := H
 go_enter Try.func22, Try.ntmps22
 go_wp2_with (first | ((with_reducible refine gate_dst (N := 0) rfl ?_); refine box_event ?hg (N := 0) ?hd (cs := #[.int .i64 0, .slice none 0 0]) (t := 24) ?hr ?_; (case hd => rfl); (case hg => rfl); (case hr => first | (go_simp; done) | (go_simp; rfl)); intro gb206 hg w1 hbox hb; have n0_ := ak (below_step lb hb); have n1_ := ak (hbox); have n2_ := ak ((by rw [hg]; exact (below_size lb) : w.heap.size ≤ gb206)); have n3_ := ak ((by rw [hg]; exact (below_size lb) : w.heap.size ≤ gb206)); clear HB; have HB := n0_; have BK206 := n1_; have GW206 := n2_; have GE206 := n3_; clear n0_ n1_ n2_ n3_; clear hb hbox hg) | ((with_reducible refine gate_dst (N := 3) rfl ?_); refine Kd.R_lit k41 _ 41 ?hg (N := 3) ?hd (xs := ([(⟨0, 1, 0, 0⟩ : S41), (⟨1, 2, 0, 0⟩ : S41)] : List (S41))) (inner := [.int .i64 0, .int .i64 1, .int .i64 0, .int .i64 0, .int .i64 1, .int .i64 2, .int .i64 0, .int .i64 0]) (ok := fun _ => True) (okp := fun _ => True) ?hr ?hp (fun _ hk => hk) trivial (Below.refl _ _) (Nat.le_refl _) (by simp) ?_; (case hd => rfl); (case hg => rfl); (case hr => first | (go_simp; done) | (go_simp; rfl)); (case hp => exact (Reps.c4 (show Kd.M k41 _ _ _ (⟨0, 1, 0, 0⟩ : S41) [.int .i64 0, .int .i64 1, .int .i64 0, .int .i64 0] from (k41_mkM _ _ _ (⟨0, 1, 0, 0⟩ : S41) )) (Reps.c4 (show Kd.M k41 _ _ _ (⟨1, 2, 0, 0⟩ : S41) [.int .i64 1, .int .i64 2, .int .i64 0, .int .i64 0] from (k41_mkM _ _ _ (⟨1, 2, 0, 0⟩ : S41) )) (Reps.none _ _)))); intro v208 w2 ho3 hb hg_ hnew_; clear hg_ hnew_; (first | rw [← Ny207.out] at ho3 | (simp only [Int.reduceToNat] at ho3; rw [← Ny207.out] at ho3)); have n0_ := ak (Kd.R_lower ho3 (below_size lb)); have n1_ := ak (blk_below (bx BK206.out) hb); have n2_ := ak (below_step lb hb); clear BK206; clear HB; have HO209 := n0_; have BK206 := n1_; have HB := n2_; clear n0_ n1_ n2_; clear hb ho3; obtain ⟨Ao4, co4, eo4⟩ := Kd.R_slice HO209.out; subst eo4; have hcz5_0 : w2.cell? ⟨gb206, 0, none⟩ = some (.int .i64 0) := (blk_cell BK206.out 0).trans rfl; have hcz5_1 : w2.cell? ⟨gb206, 1, none⟩ = some (.slice none 0 0) := (blk_cell BK206.out 1).trans rfl; have hfz5_0 := blk_frozen BK206.out 0; have hfz5_1 := blk_frozen BK206.out 1))
 refine bodyPost_ret (results_cell_row rfl _ _ gb206 24 #[.int .i64 3, .slice Ao4 y207.length co4] (0, 0) _ rfl (by (with_reducible repeat (first | refine blk_drewN ?_ _ | refine blk_drew ?_ | refine blk_alloc ?_ _)); refine blk_put (cs := #[.int .i64 3, .slice none 0 0]) ?_ 1 _ rfl; (with_reducible repeat (first | refine blk_drewN ?_ _ | refine blk_drew ?_ | refine blk_alloc ?_ _)); refine blk_put (cs := #[.int .i64 0, .slice none 0 0]) ?_ 0 _ rfl; exact bx BK206.out) Try.underlying24 rfl (by kernel_rfl)) rfl ?_
 exact ⟨_, by first | rfl | (simp [errW_none, errW_some] <;> rfl) | (simp [*, errW_none, errW_some] <;> rfl), by exact rx (Kd.R_mono (Kd.R_far (p := ⟨gb206, 1, none⟩) (Kd.R_far (p := ⟨gb206, 0, none⟩) (Kd.R_types HO209.out BK206.out (by decide)) (fun _ hk => hk.2) (.int .i64 3)) (fun _ hk => hk.2) (.slice Ao4 y207.length co4)) (fun _ hk => trivial)), lb⟩

/-! ### compasslaw04_awake: function 12 -/
def compasslaw04_awake.f (k : Nat)  : Option (Bool) := (compasslaw04_line.f).bind fun bt210 => ((walk_Levels.f k bt210.1 bt210.2 0).bind fun bt214 => ((compasslaw04_line.f).bind fun bt218 => ((walk_Order.f k bt218.1 bt218.2).bind fun bt222 => (if bt214.2 = 0 then (if bt222.2.2 = 0 then (if (bt214.1.length : Int) = 3 then (if 2 < (bt214.1.length : Int) then (if (rd bt214.1 2) = 2 then (if (bt222.1.length : Int) = 3 then (if 0 < (bt222.1.length : Int) then (if (rd bt222.1 0) = 0 then (if 2 < (bt222.1.length : Int) then (some ((rd bt222.1 2) == 2)) else (none)) else (some false)) else (none)) else (some false)) else (some false)) else (none)) else (some false)) else (some false)) else (some false)))))
theorem compasslaw04_awake.mono : ∀ k, LeO (compasslaw04_awake.f k ) (compasslaw04_awake.f (k + 1) ) := by
  intro  k
  unfold compasslaw04_awake.f
  repeat' first
      | (with_reducible exact walk_Levels.mono _ _ _ _)
      | (with_reducible exact walk_Order.mono _ _ _)
      | (with_reducible exact LeO.refl _)
      | (with_reducible exact LeO.none _)
      | (with_reducible refine LeO.ite ?_ ?_)
      | (with_reducible refine LeO.bind ?_ (fun _ => ?_))
      | exact walk_Levels.mono _ _ _ _
      | exact walk_Order.mono _ _ _
      | exact LeO.none _
      | refine LeO.ite ?_ ?_
      | refine LeO.bind ?_ (fun _ => ?_)
set_option maxHeartbeats 8000000 in
set_option maxRecDepth 100000 in
theorem compasslaw04_awake.calls (k : Nat)  (r : Bool) (w : World) (h : compasslaw04_awake.f k  = some r) :
    Calls Try.prog 12 #[] w fun e w' => e = .returned (.bool r) ∧ Below w.heap.size w w' := by
 have HB := ak (Below.refl w.heap.size w)
 have H : ((compasslaw04_line.f).bind fun bt210 => ((walk_Levels.f k bt210.1 bt210.2 0).bind fun bt214 => ((compasslaw04_line.f).bind fun bt218 => ((walk_Order.f k bt218.1 bt218.2).bind fun bt222 => (if bt214.2 = 0 then (if bt222.2.2 = 0 then (if (bt214.1.length : Int) = 3 then (if 2 < (bt214.1.length : Int) then (if (rd bt214.1 2) = 2 then (if (bt222.1.length : Int) = 3 then (if 0 < (bt222.1.length : Int) then (if (rd bt222.1 0) = 0 then (if 2 < (bt222.1.length : Int) then (some ((rd bt222.1 2) == 2)) else (none)) else (some false)) else (none)) else (some false)) else (some false)) else (none)) else (some false)) else (some false)) else (some false)))))) = some r := h
 clear h
 replace H := Option.bind_eq_some_iff.mp H
 obtain ⟨⟨t210, t211⟩, A10, H⟩ := H
 replace H : ((walk_Levels.f k t210 t211 0).bind fun bt214 => ((compasslaw04_line.f).bind fun bt218 => ((walk_Order.f k bt218.1 bt218.2).bind fun bt222 => (if bt214.2 = 0 then (if bt222.2.2 = 0 then (if (bt214.1.length : Int) = 3 then (if 2 < (bt214.1.length : Int) then (if (rd bt214.1 2) = 2 then (if (bt222.1.length : Int) = 3 then (if 0 < (bt222.1.length : Int) then (if (rd bt222.1 0) = 0 then (if 2 < (bt222.1.length : Int) then (some ((rd bt222.1 2) == 2)) else (none)) else (some false)) else (none)) else (some false)) else (some false)) else (none)) else (some false)) else (some false)) else (some false))))) = some r := H
 have A1 := ak A10
 clear A10
 replace H := Option.bind_eq_some_iff.mp H
 obtain ⟨⟨t214, t217⟩, A20, H⟩ := H
 replace H : ((compasslaw04_line.f).bind fun bt218 => ((walk_Order.f k bt218.1 bt218.2).bind fun bt222 => (if t217 = 0 then (if bt222.2.2 = 0 then (if (t214.length : Int) = 3 then (if 2 < (t214.length : Int) then (if (rd t214 2) = 2 then (if (bt222.1.length : Int) = 3 then (if 0 < (bt222.1.length : Int) then (if (rd bt222.1 0) = 0 then (if 2 < (bt222.1.length : Int) then (some ((rd bt222.1 2) == 2)) else (none)) else (some false)) else (none)) else (some false)) else (some false)) else (none)) else (some false)) else (some false)) else (some false)))) = some r := H
 have A2 := ak A20
 clear A20
 replace H := Option.bind_eq_some_iff.mp H
 obtain ⟨⟨t218, t219⟩, A30, H⟩ := H
 replace H : ((walk_Order.f k t218 t219).bind fun bt222 => (if t217 = 0 then (if bt222.2.2 = 0 then (if (t214.length : Int) = 3 then (if 2 < (t214.length : Int) then (if (rd t214 2) = 2 then (if (bt222.1.length : Int) = 3 then (if 0 < (bt222.1.length : Int) then (if (rd bt222.1 0) = 0 then (if 2 < (bt222.1.length : Int) then (some ((rd bt222.1 2) == 2)) else (none)) else (some false)) else (none)) else (some false)) else (some false)) else (none)) else (some false)) else (some false)) else (some false))) = some r := H
 have A3 := ak A30
 clear A30
 replace H := Option.bind_eq_some_iff.mp H
 obtain ⟨⟨t222, t225, t228⟩, A40, H⟩ := H
 replace H : (if t217 = 0 then (if t228 = 0 then (if (t214.length : Int) = 3 then (if 2 < (t214.length : Int) then (if (rd t214 2) = 2 then (if (t222.length : Int) = 3 then (if 0 < (t222.length : Int) then (if (rd t222 0) = 0 then (if 2 < (t222.length : Int) then (some ((rd t222 2) == 2)) else (none)) else (some false)) else (none)) else (some false)) else (some false)) else (none)) else (some false)) else (some false)) else (some false)) = some r := H
 have A4 := ak A40
 clear A40
 by_cases c5 : t217 = 0
 ·
  rw [if_pos c5] at H
  have c5b0 : (t217 == 0) = true := beq_iff_eq.mpr c5
  have c5b1 : (t217 != 0) = false := bne_eq_false_iff_eq.mpr c5
  clear c5
  by_cases c6 : t228 = 0
  ·
   rw [if_pos c6] at H
   have c6b0 : (t228 == 0) = true := beq_iff_eq.mpr c6
   have c6b1 : (t228 != 0) = false := bne_eq_false_iff_eq.mpr c6
   clear c6
   by_cases c7 : (t214.length : Int) = 3
   ·
    rw [if_pos c7] at H
    have c7b0 : ((t214.length : Int) == 3) = true := beq_iff_eq.mpr c7
    have c7b1 : ((t214.length : Int) != 3) = false := bne_eq_false_iff_eq.mpr c7
    clear c7
    by_cases c8 : 2 < (t214.length : Int)
    rotate_left
    ·
     rw [if_neg c8] at H
     exact absurd H (by simp)
    rw [if_pos c8] at H
    have c8b0 : decide (2 < (t214.length : Int)) = true := decide_eq_true c8
    have c8b1 : decide (2 < t214.length) = true := decide_eq_true (by omega)
    clear c8
    by_cases c9 : (rd t214 2) = 2
    ·
     rw [if_pos c9] at H
     have c9b0 : ((rd t214 2) == 2) = true := beq_iff_eq.mpr c9
     have c9b1 : ((rd t214 2) != 2) = false := bne_eq_false_iff_eq.mpr c9
     clear c9
     by_cases c10 : (t222.length : Int) = 3
     ·
      rw [if_pos c10] at H
      have c10b0 : ((t222.length : Int) == 3) = true := beq_iff_eq.mpr c10
      have c10b1 : ((t222.length : Int) != 3) = false := bne_eq_false_iff_eq.mpr c10
      clear c10
      by_cases c11 : 0 < (t222.length : Int)
      rotate_left
      ·
       rw [if_neg c11] at H
       exact absurd H (by simp)
      rw [if_pos c11] at H
      have c11b0 : decide (0 < (t222.length : Int)) = true := decide_eq_true c11
      have c11b1 : decide (0 < t222.length) = true := decide_eq_true (by omega)
      clear c11
      by_cases c12 : (rd t222 0) = 0
      ·
       rw [if_pos c12] at H
       have c12b0 : ((rd t222 0) == 0) = true := beq_iff_eq.mpr c12
       have c12b1 : ((rd t222 0) != 0) = false := bne_eq_false_iff_eq.mpr c12
       clear c12
       by_cases c13 : 2 < (t222.length : Int)
       rotate_left
       ·
        rw [if_neg c13] at H
        exact absurd H (by simp)
       rw [if_pos c13] at H
       have c13b0 : decide (2 < (t222.length : Int)) = true := decide_eq_true c13
       have c13b1 : decide (2 < t222.length) = true := decide_eq_true (by omega)
       clear c13
       obtain rfl := Option.some.inj H
       go_enter Try.func12, Try.ntmps12
       go_wp2_with (first | ((with_reducible refine gate_callee (f := 22) rfl ?_); refine goesL_ (some 7) rfl rfl Try.func22 (by kernel_rfl) rfl #[] rfl (by (try simp only [List.map_toArray, List.map_cons, List.map_nil]); first | done | rfl | (simp only [List.length_drop, List.length_take]; rfl)) ?_; (with_reducible refine (compasslaw04_line.calls  t210 t211 _ A1.out).mono ?_); rintro e w14 ⟨v212, rfl, ho0, hb⟩; refine ⟨_, rfl, ?_⟩; have n0_ := ak (Kd.R_lower ho0 (below_size lb)); have n1_ := ak (below_step lb hb); clear HB; have HO213 := n0_; have HB := n1_; clear n0_ n1_; (try clear hb); (try clear hb2); (try clear hk); (try clear hi); (try clear ho0); obtain ⟨Ao15, co15, eo15⟩ := Kd.R_slice HO213.out; subst eo15) | ((with_reducible refine gate_callee (f := 13) rfl ?_); refine goesL_ (some 8) rfl rfl Try.func13 (by kernel_rfl) rfl #[.agg #[.int .i64 t210, .slice Ao15 t211.length co15], .int .i64 0] rfl (by (try simp only [List.map_toArray, List.map_cons, List.map_nil]); first | done | rfl | (simp only [List.length_drop, List.length_take]; rfl)) ?_; (with_reducible refine (walk_Levels.calls k t210 _ _ t211 0 t214 t217 _ ?side1 ?side2 A2.out).mono ?_); (case side1 => repeat (first | exact (Kd.R_reads' HO213.out).2.2 | (with_reducible refine Kd.C_alloc ?_ _) | (with_reducible refine Kd.C_drewN ?_ _) | (with_reducible refine Kd.C_drew ?_))); (case side2 => exact (Kd.R_reads' HO213.out).2.1); rintro e w16 ⟨v215, rfl, ho0, hb⟩; refine ⟨_, rfl, ?_⟩; have n0_ := ak (Kd.R_below (rx HO213.out) hb); have n1_ := ak (Kd.R_lower ho0 (below_size lb)); have n2_ := ak (below_step lb hb); clear HO213; clear HB; have HO213 := n0_; have HO216 := n1_; have HB := n2_; clear n0_ n1_ n2_; (try clear hb); (try clear hb2); (try clear hk); (try clear hi); (try clear ho0)) | ((with_reducible refine gate_callee (f := 22) rfl ?_); refine goesL_ (some 12) rfl rfl Try.func22 (by kernel_rfl) rfl #[] rfl (by (try simp only [List.map_toArray, List.map_cons, List.map_nil]); first | done | rfl | (simp only [List.length_drop, List.length_take]; rfl)) ?_; (with_reducible refine (compasslaw04_line.calls  t218 t219 _ A3.out).mono ?_); rintro e w17 ⟨v220, rfl, ho0, hb⟩; refine ⟨_, rfl, ?_⟩; have n0_ := ak (Kd.R_elder' (rx HO213.out) (Kd.R_base ho0) hb); have n1_ := ak (Kd.R_below (rx HO216.out) hb); have n2_ := ak (Kd.R_lower (Kd.R_new' ho0 (Kd.R_lt (rx HO213.out))) (below_size lb)); have n3_ := ak (below_step lb hb); clear HO213; clear HO216; clear HB; have HO213 := n0_; have HO216 := n1_; have HO221 := n2_; have HB := n3_; clear n0_ n1_ n2_ n3_; (try clear hb); (try clear hb2); (try clear hk); (try clear hi); (try clear ho0); obtain ⟨Ao18, co18, eo18⟩ := Kd.R_slice HO221.out; subst eo18) | ((with_reducible refine gate_callee (f := 16) rfl ?_); refine goesL_ (some 13) rfl rfl Try.func16 (by kernel_rfl) rfl #[.agg #[.int .i64 t218, .slice Ao18 t219.length co18]] rfl (by (try simp only [List.map_toArray, List.map_cons, List.map_nil]); first | done | rfl | (simp only [List.length_drop, List.length_take]; rfl)) ?_; (with_reducible refine (walk_Order.calls k t218 _ _ t219 t222 t225 t228 _ ?side1 ?side2 A4.out).mono ?_); (case side1 => repeat (first | exact (Kd.R_reads' HO221.out).2.2 | (with_reducible refine Kd.C_alloc ?_ _) | (with_reducible refine Kd.C_drewN ?_ _) | (with_reducible refine Kd.C_drew ?_))); (case side2 => exact (Kd.R_reads' HO221.out).2.1); rintro e w19 ⟨v223, v226, rfl, ho0, ho1, hb⟩; refine ⟨_, rfl, ?_⟩; have n0_ := ak (Kd.R_below (rx HO213.out) hb); have n1_ := ak (Kd.R_mono (Kd.R_told (Kd.R_told (Kd.R_old (rx HO216.out) hb) (Kd.R_base ho0)) (Kd.R_base ho1)) (fun _ h_ => h_.1)); have n2_ := ak (Kd.R_below (rx HO221.out) hb); have n3_ := ak (Kd.R_lower (Kd.R_new' ho0 (Kd.R_lt (rx HO216.out))) (below_size lb)); have n4_ := ak (Kd.R_lower (Kd.R_new' ho1 (Kd.R_lt (rx HO216.out))) (below_size lb)); have n5_ := ak (below_step lb hb); clear HO213; clear HO216; clear HO221; clear HB; have HO213 := n0_; have HO216 := n1_; have HO221 := n2_; have HO224 := n3_; have HO227 := n4_; have HB := n5_; clear n0_ n1_ n2_ n3_ n4_ n5_; (try clear hb); (try clear hb2); (try clear hk); (try clear hi); (try clear ho0); (try clear ho1); obtain ⟨Ao20, co20, eo20⟩ := Kd.R_slice HO216.out; subst eo20; have p229 : 0 ≤ (2 : Int) := (by omega); have q229 : 2 < (t214.length : Int) := oda; obtain ⟨ad229, e229, hx229_0⟩ := Kd.at_int (Kd.R_reads' HO216.out).2.2 2 p229 q229; cases e229; (try simp only [show (2 : Int).toNat = 2 from rfl, Nat.reduceMul, Nat.reduceEqDiff, Go.Addr.add, ↓reduceIte] at hx229_0); have qi229 : (2 < t214.length) = True := eq_true (by omega); (try rw [show ((2 : Int)).toNat = 2 from rfl] at hx229_0); replace p229 := eq_true p229; replace q229 := eq_true q229; obtain ⟨Ao21, co21, eo21⟩ := Kd.R_slice HO224.out; subst eo21; have p230 : 0 ≤ (0 : Int) := (by omega); have q230 : 0 < (t222.length : Int) := oda; obtain ⟨ad230, e230, hx230_0⟩ := Kd.at_int (Kd.R_reads' HO224.out).2.2 0 p230 q230; cases e230; have qi230 : (0 < t222.length) = True := eq_true (by omega); (try rw [show ((0 : Int)).toNat = 0 from rfl] at hx230_0); (try rw [Addr.add_zero'] at hx230_0); replace p230 := eq_true p230; replace q230 := eq_true q230; have p231 : 0 ≤ (2 : Int) := (by omega); have q231 : 2 < (t222.length : Int) := oda; obtain ⟨ad231, e231, hx231_0⟩ := Kd.at_int (Kd.R_reads' HO224.out).2.2 2 p231 q231; obtain rfl : ad230 = ad231 := (by injection e231); (try simp only [show (2 : Int).toNat = 2 from rfl, Nat.reduceMul, Nat.reduceEqDiff, Go.Addr.add, ↓reduceIte] at hx231_0); have qi231 : (2 < t222.length) = True := eq_true (by omega); (try rw [show ((2 : Int)).toNat = 2 from rfl] at hx231_0); replace p231 := eq_true p231; replace q231 := eq_true q231))
       go_ret
       exact ⟨by first | rfl | (simp [errW_none, errW_some] <;> rfl) | (simp [*, errW_none, errW_some] <;> rfl), lb⟩
      ·
       rw [if_neg c12] at H
       have c12b0 : ((rd t222 0) == 0) = false := beq_eq_false_iff_ne.mpr c12
       have c12b1 : ((rd t222 0) != 0) = true := bne_iff_ne.mpr c12
       obtain rfl := Option.some.inj H
       go_enter Try.func12, Try.ntmps12
       go_wp2_with (first | ((with_reducible refine gate_callee (f := 22) rfl ?_); refine goesL_ (some 7) rfl rfl Try.func22 (by kernel_rfl) rfl #[] rfl (by (try simp only [List.map_toArray, List.map_cons, List.map_nil]); first | done | rfl | (simp only [List.length_drop, List.length_take]; rfl)) ?_; (with_reducible refine (compasslaw04_line.calls  t210 t211 _ A1.out).mono ?_); rintro e w22 ⟨v212, rfl, ho0, hb⟩; refine ⟨_, rfl, ?_⟩; have n0_ := ak (Kd.R_lower ho0 (below_size lb)); have n1_ := ak (below_step lb hb); clear HB; have HO213 := n0_; have HB := n1_; clear n0_ n1_; (try clear hb); (try clear hb2); (try clear hk); (try clear hi); (try clear ho0); obtain ⟨Ao23, co23, eo23⟩ := Kd.R_slice HO213.out; subst eo23) | ((with_reducible refine gate_callee (f := 13) rfl ?_); refine goesL_ (some 8) rfl rfl Try.func13 (by kernel_rfl) rfl #[.agg #[.int .i64 t210, .slice Ao23 t211.length co23], .int .i64 0] rfl (by (try simp only [List.map_toArray, List.map_cons, List.map_nil]); first | done | rfl | (simp only [List.length_drop, List.length_take]; rfl)) ?_; (with_reducible refine (walk_Levels.calls k t210 _ _ t211 0 t214 t217 _ ?side1 ?side2 A2.out).mono ?_); (case side1 => repeat (first | exact (Kd.R_reads' HO213.out).2.2 | (with_reducible refine Kd.C_alloc ?_ _) | (with_reducible refine Kd.C_drewN ?_ _) | (with_reducible refine Kd.C_drew ?_))); (case side2 => exact (Kd.R_reads' HO213.out).2.1); rintro e w24 ⟨v215, rfl, ho0, hb⟩; refine ⟨_, rfl, ?_⟩; have n0_ := ak (Kd.R_below (rx HO213.out) hb); have n1_ := ak (Kd.R_lower ho0 (below_size lb)); have n2_ := ak (below_step lb hb); clear HO213; clear HB; have HO213 := n0_; have HO216 := n1_; have HB := n2_; clear n0_ n1_ n2_; (try clear hb); (try clear hb2); (try clear hk); (try clear hi); (try clear ho0)) | ((with_reducible refine gate_callee (f := 22) rfl ?_); refine goesL_ (some 12) rfl rfl Try.func22 (by kernel_rfl) rfl #[] rfl (by (try simp only [List.map_toArray, List.map_cons, List.map_nil]); first | done | rfl | (simp only [List.length_drop, List.length_take]; rfl)) ?_; (with_reducible refine (compasslaw04_line.calls  t218 t219 _ A3.out).mono ?_); rintro e w25 ⟨v220, rfl, ho0, hb⟩; refine ⟨_, rfl, ?_⟩; have n0_ := ak (Kd.R_elder' (rx HO213.out) (Kd.R_base ho0) hb); have n1_ := ak (Kd.R_below (rx HO216.out) hb); have n2_ := ak (Kd.R_lower (Kd.R_new' ho0 (Kd.R_lt (rx HO213.out))) (below_size lb)); have n3_ := ak (below_step lb hb); clear HO213; clear HO216; clear HB; have HO213 := n0_; have HO216 := n1_; have HO221 := n2_; have HB := n3_; clear n0_ n1_ n2_ n3_; (try clear hb); (try clear hb2); (try clear hk); (try clear hi); (try clear ho0); obtain ⟨Ao26, co26, eo26⟩ := Kd.R_slice HO221.out; subst eo26) | ((with_reducible refine gate_callee (f := 16) rfl ?_); refine goesL_ (some 13) rfl rfl Try.func16 (by kernel_rfl) rfl #[.agg #[.int .i64 t218, .slice Ao26 t219.length co26]] rfl (by (try simp only [List.map_toArray, List.map_cons, List.map_nil]); first | done | rfl | (simp only [List.length_drop, List.length_take]; rfl)) ?_; (with_reducible refine (walk_Order.calls k t218 _ _ t219 t222 t225 t228 _ ?side1 ?side2 A4.out).mono ?_); (case side1 => repeat (first | exact (Kd.R_reads' HO221.out).2.2 | (with_reducible refine Kd.C_alloc ?_ _) | (with_reducible refine Kd.C_drewN ?_ _) | (with_reducible refine Kd.C_drew ?_))); (case side2 => exact (Kd.R_reads' HO221.out).2.1); rintro e w27 ⟨v223, v226, rfl, ho0, ho1, hb⟩; refine ⟨_, rfl, ?_⟩; have n0_ := ak (Kd.R_below (rx HO213.out) hb); have n1_ := ak (Kd.R_mono (Kd.R_told (Kd.R_told (Kd.R_old (rx HO216.out) hb) (Kd.R_base ho0)) (Kd.R_base ho1)) (fun _ h_ => h_.1)); have n2_ := ak (Kd.R_below (rx HO221.out) hb); have n3_ := ak (Kd.R_lower (Kd.R_new' ho0 (Kd.R_lt (rx HO216.out))) (below_size lb)); have n4_ := ak (Kd.R_lower (Kd.R_new' ho1 (Kd.R_lt (rx HO216.out))) (below_size lb)); have n5_ := ak (below_step lb hb); clear HO213; clear HO216; clear HO221; clear HB; have HO213 := n0_; have HO216 := n1_; have HO221 := n2_; have HO224 := n3_; have HO227 := n4_; have HB := n5_; clear n0_ n1_ n2_ n3_ n4_ n5_; (try clear hb); (try clear hb2); (try clear hk); (try clear hi); (try clear ho0); (try clear ho1); obtain ⟨Ao28, co28, eo28⟩ := Kd.R_slice HO216.out; subst eo28; have p229 : 0 ≤ (2 : Int) := (by omega); have q229 : 2 < (t214.length : Int) := oda; obtain ⟨ad229, e229, hx229_0⟩ := Kd.at_int (Kd.R_reads' HO216.out).2.2 2 p229 q229; cases e229; (try simp only [show (2 : Int).toNat = 2 from rfl, Nat.reduceMul, Nat.reduceEqDiff, Go.Addr.add, ↓reduceIte] at hx229_0); have qi229 : (2 < t214.length) = True := eq_true (by omega); (try rw [show ((2 : Int)).toNat = 2 from rfl] at hx229_0); replace p229 := eq_true p229; replace q229 := eq_true q229; obtain ⟨Ao29, co29, eo29⟩ := Kd.R_slice HO224.out; subst eo29; have p230 : 0 ≤ (0 : Int) := (by omega); have q230 : 0 < (t222.length : Int) := oda; obtain ⟨ad230, e230, hx230_0⟩ := Kd.at_int (Kd.R_reads' HO224.out).2.2 0 p230 q230; cases e230; have qi230 : (0 < t222.length) = True := eq_true (by omega); (try rw [show ((0 : Int)).toNat = 0 from rfl] at hx230_0); (try rw [Addr.add_zero'] at hx230_0); replace p230 := eq_true p230; replace q230 := eq_true q230))
       go_ret
       exact ⟨by first | rfl | (simp [errW_none, errW_some] <;> rfl) | (simp [*, errW_none, errW_some] <;> rfl), lb⟩
     ·
      rw [if_neg c10] at H
      have c10b0 : ((t222.length : Int) == 3) = false := beq_eq_false_iff_ne.mpr c10
      have c10b1 : ((t222.length : Int) != 3) = true := bne_iff_ne.mpr c10
      obtain rfl := Option.some.inj H
      go_enter Try.func12, Try.ntmps12
      go_wp2_with (first | ((with_reducible refine gate_callee (f := 22) rfl ?_); refine goesL_ (some 7) rfl rfl Try.func22 (by kernel_rfl) rfl #[] rfl (by (try simp only [List.map_toArray, List.map_cons, List.map_nil]); first | done | rfl | (simp only [List.length_drop, List.length_take]; rfl)) ?_; (with_reducible refine (compasslaw04_line.calls  t210 t211 _ A1.out).mono ?_); rintro e w30 ⟨v212, rfl, ho0, hb⟩; refine ⟨_, rfl, ?_⟩; have n0_ := ak (Kd.R_lower ho0 (below_size lb)); have n1_ := ak (below_step lb hb); clear HB; have HO213 := n0_; have HB := n1_; clear n0_ n1_; (try clear hb); (try clear hb2); (try clear hk); (try clear hi); (try clear ho0); obtain ⟨Ao31, co31, eo31⟩ := Kd.R_slice HO213.out; subst eo31) | ((with_reducible refine gate_callee (f := 13) rfl ?_); refine goesL_ (some 8) rfl rfl Try.func13 (by kernel_rfl) rfl #[.agg #[.int .i64 t210, .slice Ao31 t211.length co31], .int .i64 0] rfl (by (try simp only [List.map_toArray, List.map_cons, List.map_nil]); first | done | rfl | (simp only [List.length_drop, List.length_take]; rfl)) ?_; (with_reducible refine (walk_Levels.calls k t210 _ _ t211 0 t214 t217 _ ?side1 ?side2 A2.out).mono ?_); (case side1 => repeat (first | exact (Kd.R_reads' HO213.out).2.2 | (with_reducible refine Kd.C_alloc ?_ _) | (with_reducible refine Kd.C_drewN ?_ _) | (with_reducible refine Kd.C_drew ?_))); (case side2 => exact (Kd.R_reads' HO213.out).2.1); rintro e w32 ⟨v215, rfl, ho0, hb⟩; refine ⟨_, rfl, ?_⟩; have n0_ := ak (Kd.R_below (rx HO213.out) hb); have n1_ := ak (Kd.R_lower ho0 (below_size lb)); have n2_ := ak (below_step lb hb); clear HO213; clear HB; have HO213 := n0_; have HO216 := n1_; have HB := n2_; clear n0_ n1_ n2_; (try clear hb); (try clear hb2); (try clear hk); (try clear hi); (try clear ho0)) | ((with_reducible refine gate_callee (f := 22) rfl ?_); refine goesL_ (some 12) rfl rfl Try.func22 (by kernel_rfl) rfl #[] rfl (by (try simp only [List.map_toArray, List.map_cons, List.map_nil]); first | done | rfl | (simp only [List.length_drop, List.length_take]; rfl)) ?_; (with_reducible refine (compasslaw04_line.calls  t218 t219 _ A3.out).mono ?_); rintro e w33 ⟨v220, rfl, ho0, hb⟩; refine ⟨_, rfl, ?_⟩; have n0_ := ak (Kd.R_elder' (rx HO213.out) (Kd.R_base ho0) hb); have n1_ := ak (Kd.R_below (rx HO216.out) hb); have n2_ := ak (Kd.R_lower (Kd.R_new' ho0 (Kd.R_lt (rx HO213.out))) (below_size lb)); have n3_ := ak (below_step lb hb); clear HO213; clear HO216; clear HB; have HO213 := n0_; have HO216 := n1_; have HO221 := n2_; have HB := n3_; clear n0_ n1_ n2_ n3_; (try clear hb); (try clear hb2); (try clear hk); (try clear hi); (try clear ho0); obtain ⟨Ao34, co34, eo34⟩ := Kd.R_slice HO221.out; subst eo34) | ((with_reducible refine gate_callee (f := 16) rfl ?_); refine goesL_ (some 13) rfl rfl Try.func16 (by kernel_rfl) rfl #[.agg #[.int .i64 t218, .slice Ao34 t219.length co34]] rfl (by (try simp only [List.map_toArray, List.map_cons, List.map_nil]); first | done | rfl | (simp only [List.length_drop, List.length_take]; rfl)) ?_; (with_reducible refine (walk_Order.calls k t218 _ _ t219 t222 t225 t228 _ ?side1 ?side2 A4.out).mono ?_); (case side1 => repeat (first | exact (Kd.R_reads' HO221.out).2.2 | (with_reducible refine Kd.C_alloc ?_ _) | (with_reducible refine Kd.C_drewN ?_ _) | (with_reducible refine Kd.C_drew ?_))); (case side2 => exact (Kd.R_reads' HO221.out).2.1); rintro e w35 ⟨v223, v226, rfl, ho0, ho1, hb⟩; refine ⟨_, rfl, ?_⟩; have n0_ := ak (Kd.R_below (rx HO213.out) hb); have n1_ := ak (Kd.R_mono (Kd.R_told (Kd.R_told (Kd.R_old (rx HO216.out) hb) (Kd.R_base ho0)) (Kd.R_base ho1)) (fun _ h_ => h_.1)); have n2_ := ak (Kd.R_below (rx HO221.out) hb); have n3_ := ak (Kd.R_lower (Kd.R_new' ho0 (Kd.R_lt (rx HO216.out))) (below_size lb)); have n4_ := ak (Kd.R_lower (Kd.R_new' ho1 (Kd.R_lt (rx HO216.out))) (below_size lb)); have n5_ := ak (below_step lb hb); clear HO213; clear HO216; clear HO221; clear HB; have HO213 := n0_; have HO216 := n1_; have HO221 := n2_; have HO224 := n3_; have HO227 := n4_; have HB := n5_; clear n0_ n1_ n2_ n3_ n4_ n5_; (try clear hb); (try clear hb2); (try clear hk); (try clear hi); (try clear ho0); (try clear ho1); obtain ⟨Ao36, co36, eo36⟩ := Kd.R_slice HO216.out; subst eo36; have p229 : 0 ≤ (2 : Int) := (by omega); have q229 : 2 < (t214.length : Int) := oda; obtain ⟨ad229, e229, hx229_0⟩ := Kd.at_int (Kd.R_reads' HO216.out).2.2 2 p229 q229; cases e229; (try simp only [show (2 : Int).toNat = 2 from rfl, Nat.reduceMul, Nat.reduceEqDiff, Go.Addr.add, ↓reduceIte] at hx229_0); have qi229 : (2 < t214.length) = True := eq_true (by omega); (try rw [show ((2 : Int)).toNat = 2 from rfl] at hx229_0); replace p229 := eq_true p229; replace q229 := eq_true q229; obtain ⟨Ao37, co37, eo37⟩ := Kd.R_slice HO224.out; subst eo37))
      go_ret
      exact ⟨by first | rfl | (simp [errW_none, errW_some] <;> rfl) | (simp [*, errW_none, errW_some] <;> rfl), lb⟩
    ·
     rw [if_neg c9] at H
     have c9b0 : ((rd t214 2) == 2) = false := beq_eq_false_iff_ne.mpr c9
     have c9b1 : ((rd t214 2) != 2) = true := bne_iff_ne.mpr c9
     obtain rfl := Option.some.inj H
     go_enter Try.func12, Try.ntmps12
     go_wp2_with (first | ((with_reducible refine gate_callee (f := 22) rfl ?_); refine goesL_ (some 7) rfl rfl Try.func22 (by kernel_rfl) rfl #[] rfl (by (try simp only [List.map_toArray, List.map_cons, List.map_nil]); first | done | rfl | (simp only [List.length_drop, List.length_take]; rfl)) ?_; (with_reducible refine (compasslaw04_line.calls  t210 t211 _ A1.out).mono ?_); rintro e w38 ⟨v212, rfl, ho0, hb⟩; refine ⟨_, rfl, ?_⟩; have n0_ := ak (Kd.R_lower ho0 (below_size lb)); have n1_ := ak (below_step lb hb); clear HB; have HO213 := n0_; have HB := n1_; clear n0_ n1_; (try clear hb); (try clear hb2); (try clear hk); (try clear hi); (try clear ho0); obtain ⟨Ao39, co39, eo39⟩ := Kd.R_slice HO213.out; subst eo39) | ((with_reducible refine gate_callee (f := 13) rfl ?_); refine goesL_ (some 8) rfl rfl Try.func13 (by kernel_rfl) rfl #[.agg #[.int .i64 t210, .slice Ao39 t211.length co39], .int .i64 0] rfl (by (try simp only [List.map_toArray, List.map_cons, List.map_nil]); first | done | rfl | (simp only [List.length_drop, List.length_take]; rfl)) ?_; (with_reducible refine (walk_Levels.calls k t210 _ _ t211 0 t214 t217 _ ?side1 ?side2 A2.out).mono ?_); (case side1 => repeat (first | exact (Kd.R_reads' HO213.out).2.2 | (with_reducible refine Kd.C_alloc ?_ _) | (with_reducible refine Kd.C_drewN ?_ _) | (with_reducible refine Kd.C_drew ?_))); (case side2 => exact (Kd.R_reads' HO213.out).2.1); rintro e w40 ⟨v215, rfl, ho0, hb⟩; refine ⟨_, rfl, ?_⟩; have n0_ := ak (Kd.R_below (rx HO213.out) hb); have n1_ := ak (Kd.R_lower ho0 (below_size lb)); have n2_ := ak (below_step lb hb); clear HO213; clear HB; have HO213 := n0_; have HO216 := n1_; have HB := n2_; clear n0_ n1_ n2_; (try clear hb); (try clear hb2); (try clear hk); (try clear hi); (try clear ho0)) | ((with_reducible refine gate_callee (f := 22) rfl ?_); refine goesL_ (some 12) rfl rfl Try.func22 (by kernel_rfl) rfl #[] rfl (by (try simp only [List.map_toArray, List.map_cons, List.map_nil]); first | done | rfl | (simp only [List.length_drop, List.length_take]; rfl)) ?_; (with_reducible refine (compasslaw04_line.calls  t218 t219 _ A3.out).mono ?_); rintro e w41 ⟨v220, rfl, ho0, hb⟩; refine ⟨_, rfl, ?_⟩; have n0_ := ak (Kd.R_elder' (rx HO213.out) (Kd.R_base ho0) hb); have n1_ := ak (Kd.R_below (rx HO216.out) hb); have n2_ := ak (Kd.R_lower (Kd.R_new' ho0 (Kd.R_lt (rx HO213.out))) (below_size lb)); have n3_ := ak (below_step lb hb); clear HO213; clear HO216; clear HB; have HO213 := n0_; have HO216 := n1_; have HO221 := n2_; have HB := n3_; clear n0_ n1_ n2_ n3_; (try clear hb); (try clear hb2); (try clear hk); (try clear hi); (try clear ho0); obtain ⟨Ao42, co42, eo42⟩ := Kd.R_slice HO221.out; subst eo42) | ((with_reducible refine gate_callee (f := 16) rfl ?_); refine goesL_ (some 13) rfl rfl Try.func16 (by kernel_rfl) rfl #[.agg #[.int .i64 t218, .slice Ao42 t219.length co42]] rfl (by (try simp only [List.map_toArray, List.map_cons, List.map_nil]); first | done | rfl | (simp only [List.length_drop, List.length_take]; rfl)) ?_; (with_reducible refine (walk_Order.calls k t218 _ _ t219 t222 t225 t228 _ ?side1 ?side2 A4.out).mono ?_); (case side1 => repeat (first | exact (Kd.R_reads' HO221.out).2.2 | (with_reducible refine Kd.C_alloc ?_ _) | (with_reducible refine Kd.C_drewN ?_ _) | (with_reducible refine Kd.C_drew ?_))); (case side2 => exact (Kd.R_reads' HO221.out).2.1); rintro e w43 ⟨v223, v226, rfl, ho0, ho1, hb⟩; refine ⟨_, rfl, ?_⟩; have n0_ := ak (Kd.R_below (rx HO213.out) hb); have n1_ := ak (Kd.R_mono (Kd.R_told (Kd.R_told (Kd.R_old (rx HO216.out) hb) (Kd.R_base ho0)) (Kd.R_base ho1)) (fun _ h_ => h_.1)); have n2_ := ak (Kd.R_below (rx HO221.out) hb); have n3_ := ak (Kd.R_lower (Kd.R_new' ho0 (Kd.R_lt (rx HO216.out))) (below_size lb)); have n4_ := ak (Kd.R_lower (Kd.R_new' ho1 (Kd.R_lt (rx HO216.out))) (below_size lb)); have n5_ := ak (below_step lb hb); clear HO213; clear HO216; clear HO221; clear HB; have HO213 := n0_; have HO216 := n1_; have HO221 := n2_; have HO224 := n3_; have HO227 := n4_; have HB := n5_; clear n0_ n1_ n2_ n3_ n4_ n5_; (try clear hb); (try clear hb2); (try clear hk); (try clear hi); (try clear ho0); (try clear ho1); obtain ⟨Ao44, co44, eo44⟩ := Kd.R_slice HO216.out; subst eo44; have p229 : 0 ≤ (2 : Int) := (by omega); have q229 : 2 < (t214.length : Int) := oda; obtain ⟨ad229, e229, hx229_0⟩ := Kd.at_int (Kd.R_reads' HO216.out).2.2 2 p229 q229; cases e229; (try simp only [show (2 : Int).toNat = 2 from rfl, Nat.reduceMul, Nat.reduceEqDiff, Go.Addr.add, ↓reduceIte] at hx229_0); have qi229 : (2 < t214.length) = True := eq_true (by omega); (try rw [show ((2 : Int)).toNat = 2 from rfl] at hx229_0); replace p229 := eq_true p229; replace q229 := eq_true q229))
     go_ret
     exact ⟨by first | rfl | (simp [errW_none, errW_some] <;> rfl) | (simp [*, errW_none, errW_some] <;> rfl), lb⟩
   ·
    rw [if_neg c7] at H
    have c7b0 : ((t214.length : Int) == 3) = false := beq_eq_false_iff_ne.mpr c7
    have c7b1 : ((t214.length : Int) != 3) = true := bne_iff_ne.mpr c7
    obtain rfl := Option.some.inj H
    go_enter Try.func12, Try.ntmps12
    go_wp2_with (first | ((with_reducible refine gate_callee (f := 22) rfl ?_); refine goesL_ (some 7) rfl rfl Try.func22 (by kernel_rfl) rfl #[] rfl (by (try simp only [List.map_toArray, List.map_cons, List.map_nil]); first | done | rfl | (simp only [List.length_drop, List.length_take]; rfl)) ?_; (with_reducible refine (compasslaw04_line.calls  t210 t211 _ A1.out).mono ?_); rintro e w45 ⟨v212, rfl, ho0, hb⟩; refine ⟨_, rfl, ?_⟩; have n0_ := ak (Kd.R_lower ho0 (below_size lb)); have n1_ := ak (below_step lb hb); clear HB; have HO213 := n0_; have HB := n1_; clear n0_ n1_; (try clear hb); (try clear hb2); (try clear hk); (try clear hi); (try clear ho0); obtain ⟨Ao46, co46, eo46⟩ := Kd.R_slice HO213.out; subst eo46) | ((with_reducible refine gate_callee (f := 13) rfl ?_); refine goesL_ (some 8) rfl rfl Try.func13 (by kernel_rfl) rfl #[.agg #[.int .i64 t210, .slice Ao46 t211.length co46], .int .i64 0] rfl (by (try simp only [List.map_toArray, List.map_cons, List.map_nil]); first | done | rfl | (simp only [List.length_drop, List.length_take]; rfl)) ?_; (with_reducible refine (walk_Levels.calls k t210 _ _ t211 0 t214 t217 _ ?side1 ?side2 A2.out).mono ?_); (case side1 => repeat (first | exact (Kd.R_reads' HO213.out).2.2 | (with_reducible refine Kd.C_alloc ?_ _) | (with_reducible refine Kd.C_drewN ?_ _) | (with_reducible refine Kd.C_drew ?_))); (case side2 => exact (Kd.R_reads' HO213.out).2.1); rintro e w47 ⟨v215, rfl, ho0, hb⟩; refine ⟨_, rfl, ?_⟩; have n0_ := ak (Kd.R_below (rx HO213.out) hb); have n1_ := ak (Kd.R_lower ho0 (below_size lb)); have n2_ := ak (below_step lb hb); clear HO213; clear HB; have HO213 := n0_; have HO216 := n1_; have HB := n2_; clear n0_ n1_ n2_; (try clear hb); (try clear hb2); (try clear hk); (try clear hi); (try clear ho0)) | ((with_reducible refine gate_callee (f := 22) rfl ?_); refine goesL_ (some 12) rfl rfl Try.func22 (by kernel_rfl) rfl #[] rfl (by (try simp only [List.map_toArray, List.map_cons, List.map_nil]); first | done | rfl | (simp only [List.length_drop, List.length_take]; rfl)) ?_; (with_reducible refine (compasslaw04_line.calls  t218 t219 _ A3.out).mono ?_); rintro e w48 ⟨v220, rfl, ho0, hb⟩; refine ⟨_, rfl, ?_⟩; have n0_ := ak (Kd.R_elder' (rx HO213.out) (Kd.R_base ho0) hb); have n1_ := ak (Kd.R_below (rx HO216.out) hb); have n2_ := ak (Kd.R_lower (Kd.R_new' ho0 (Kd.R_lt (rx HO213.out))) (below_size lb)); have n3_ := ak (below_step lb hb); clear HO213; clear HO216; clear HB; have HO213 := n0_; have HO216 := n1_; have HO221 := n2_; have HB := n3_; clear n0_ n1_ n2_ n3_; (try clear hb); (try clear hb2); (try clear hk); (try clear hi); (try clear ho0); obtain ⟨Ao49, co49, eo49⟩ := Kd.R_slice HO221.out; subst eo49) | ((with_reducible refine gate_callee (f := 16) rfl ?_); refine goesL_ (some 13) rfl rfl Try.func16 (by kernel_rfl) rfl #[.agg #[.int .i64 t218, .slice Ao49 t219.length co49]] rfl (by (try simp only [List.map_toArray, List.map_cons, List.map_nil]); first | done | rfl | (simp only [List.length_drop, List.length_take]; rfl)) ?_; (with_reducible refine (walk_Order.calls k t218 _ _ t219 t222 t225 t228 _ ?side1 ?side2 A4.out).mono ?_); (case side1 => repeat (first | exact (Kd.R_reads' HO221.out).2.2 | (with_reducible refine Kd.C_alloc ?_ _) | (with_reducible refine Kd.C_drewN ?_ _) | (with_reducible refine Kd.C_drew ?_))); (case side2 => exact (Kd.R_reads' HO221.out).2.1); rintro e w50 ⟨v223, v226, rfl, ho0, ho1, hb⟩; refine ⟨_, rfl, ?_⟩; have n0_ := ak (Kd.R_below (rx HO213.out) hb); have n1_ := ak (Kd.R_mono (Kd.R_told (Kd.R_told (Kd.R_old (rx HO216.out) hb) (Kd.R_base ho0)) (Kd.R_base ho1)) (fun _ h_ => h_.1)); have n2_ := ak (Kd.R_below (rx HO221.out) hb); have n3_ := ak (Kd.R_lower (Kd.R_new' ho0 (Kd.R_lt (rx HO216.out))) (below_size lb)); have n4_ := ak (Kd.R_lower (Kd.R_new' ho1 (Kd.R_lt (rx HO216.out))) (below_size lb)); have n5_ := ak (below_step lb hb); clear HO213; clear HO216; clear HO221; clear HB; have HO213 := n0_; have HO216 := n1_; have HO221 := n2_; have HO224 := n3_; have HO227 := n4_; have HB := n5_; clear n0_ n1_ n2_ n3_ n4_ n5_; (try clear hb); (try clear hb2); (try clear hk); (try clear hi); (try clear ho0); (try clear ho1); obtain ⟨Ao51, co51, eo51⟩ := Kd.R_slice HO216.out; subst eo51))
    go_ret
    exact ⟨by first | rfl | (simp [errW_none, errW_some] <;> rfl) | (simp [*, errW_none, errW_some] <;> rfl), lb⟩
  ·
   rw [if_neg c6] at H
   have c6b0 : (t228 == 0) = false := beq_eq_false_iff_ne.mpr c6
   have c6b1 : (t228 != 0) = true := bne_iff_ne.mpr c6
   obtain rfl := Option.some.inj H
   go_enter Try.func12, Try.ntmps12
   go_wp2_with (first | ((with_reducible refine gate_callee (f := 22) rfl ?_); refine goesL_ (some 7) rfl rfl Try.func22 (by kernel_rfl) rfl #[] rfl (by (try simp only [List.map_toArray, List.map_cons, List.map_nil]); first | done | rfl | (simp only [List.length_drop, List.length_take]; rfl)) ?_; (with_reducible refine (compasslaw04_line.calls  t210 t211 _ A1.out).mono ?_); rintro e w52 ⟨v212, rfl, ho0, hb⟩; refine ⟨_, rfl, ?_⟩; have n0_ := ak (Kd.R_lower ho0 (below_size lb)); have n1_ := ak (below_step lb hb); clear HB; have HO213 := n0_; have HB := n1_; clear n0_ n1_; (try clear hb); (try clear hb2); (try clear hk); (try clear hi); (try clear ho0); obtain ⟨Ao53, co53, eo53⟩ := Kd.R_slice HO213.out; subst eo53) | ((with_reducible refine gate_callee (f := 13) rfl ?_); refine goesL_ (some 8) rfl rfl Try.func13 (by kernel_rfl) rfl #[.agg #[.int .i64 t210, .slice Ao53 t211.length co53], .int .i64 0] rfl (by (try simp only [List.map_toArray, List.map_cons, List.map_nil]); first | done | rfl | (simp only [List.length_drop, List.length_take]; rfl)) ?_; (with_reducible refine (walk_Levels.calls k t210 _ _ t211 0 t214 t217 _ ?side1 ?side2 A2.out).mono ?_); (case side1 => repeat (first | exact (Kd.R_reads' HO213.out).2.2 | (with_reducible refine Kd.C_alloc ?_ _) | (with_reducible refine Kd.C_drewN ?_ _) | (with_reducible refine Kd.C_drew ?_))); (case side2 => exact (Kd.R_reads' HO213.out).2.1); rintro e w54 ⟨v215, rfl, ho0, hb⟩; refine ⟨_, rfl, ?_⟩; have n0_ := ak (Kd.R_below (rx HO213.out) hb); have n1_ := ak (Kd.R_lower ho0 (below_size lb)); have n2_ := ak (below_step lb hb); clear HO213; clear HB; have HO213 := n0_; have HO216 := n1_; have HB := n2_; clear n0_ n1_ n2_; (try clear hb); (try clear hb2); (try clear hk); (try clear hi); (try clear ho0)) | ((with_reducible refine gate_callee (f := 22) rfl ?_); refine goesL_ (some 12) rfl rfl Try.func22 (by kernel_rfl) rfl #[] rfl (by (try simp only [List.map_toArray, List.map_cons, List.map_nil]); first | done | rfl | (simp only [List.length_drop, List.length_take]; rfl)) ?_; (with_reducible refine (compasslaw04_line.calls  t218 t219 _ A3.out).mono ?_); rintro e w55 ⟨v220, rfl, ho0, hb⟩; refine ⟨_, rfl, ?_⟩; have n0_ := ak (Kd.R_elder' (rx HO213.out) (Kd.R_base ho0) hb); have n1_ := ak (Kd.R_below (rx HO216.out) hb); have n2_ := ak (Kd.R_lower (Kd.R_new' ho0 (Kd.R_lt (rx HO213.out))) (below_size lb)); have n3_ := ak (below_step lb hb); clear HO213; clear HO216; clear HB; have HO213 := n0_; have HO216 := n1_; have HO221 := n2_; have HB := n3_; clear n0_ n1_ n2_ n3_; (try clear hb); (try clear hb2); (try clear hk); (try clear hi); (try clear ho0); obtain ⟨Ao56, co56, eo56⟩ := Kd.R_slice HO221.out; subst eo56) | ((with_reducible refine gate_callee (f := 16) rfl ?_); refine goesL_ (some 13) rfl rfl Try.func16 (by kernel_rfl) rfl #[.agg #[.int .i64 t218, .slice Ao56 t219.length co56]] rfl (by (try simp only [List.map_toArray, List.map_cons, List.map_nil]); first | done | rfl | (simp only [List.length_drop, List.length_take]; rfl)) ?_; (with_reducible refine (walk_Order.calls k t218 _ _ t219 t222 t225 t228 _ ?side1 ?side2 A4.out).mono ?_); (case side1 => repeat (first | exact (Kd.R_reads' HO221.out).2.2 | (with_reducible refine Kd.C_alloc ?_ _) | (with_reducible refine Kd.C_drewN ?_ _) | (with_reducible refine Kd.C_drew ?_))); (case side2 => exact (Kd.R_reads' HO221.out).2.1); rintro e w57 ⟨v223, v226, rfl, ho0, ho1, hb⟩; refine ⟨_, rfl, ?_⟩; have n0_ := ak (Kd.R_below (rx HO213.out) hb); have n1_ := ak (Kd.R_mono (Kd.R_told (Kd.R_told (Kd.R_old (rx HO216.out) hb) (Kd.R_base ho0)) (Kd.R_base ho1)) (fun _ h_ => h_.1)); have n2_ := ak (Kd.R_below (rx HO221.out) hb); have n3_ := ak (Kd.R_lower (Kd.R_new' ho0 (Kd.R_lt (rx HO216.out))) (below_size lb)); have n4_ := ak (Kd.R_lower (Kd.R_new' ho1 (Kd.R_lt (rx HO216.out))) (below_size lb)); have n5_ := ak (below_step lb hb); clear HO213; clear HO216; clear HO221; clear HB; have HO213 := n0_; have HO216 := n1_; have HO221 := n2_; have HO224 := n3_; have HO227 := n4_; have HB := n5_; clear n0_ n1_ n2_ n3_ n4_ n5_; (try clear hb); (try clear hb2); (try clear hk); (try clear hi); (try clear ho0); (try clear ho1)))
   go_ret
   exact ⟨by first | rfl | (simp [errW_none, errW_some] <;> rfl) | (simp [*, errW_none, errW_some] <;> rfl), lb⟩
 ·
  rw [if_neg c5] at H
  have c5b0 : (t217 == 0) = false := beq_eq_false_iff_ne.mpr c5
  have c5b1 : (t217 != 0) = true := bne_iff_ne.mpr c5
  obtain rfl := Option.some.inj H
  go_enter Try.func12, Try.ntmps12
  go_wp2_with (first | ((with_reducible refine gate_callee (f := 22) rfl ?_); refine goesL_ (some 7) rfl rfl Try.func22 (by kernel_rfl) rfl #[] rfl (by (try simp only [List.map_toArray, List.map_cons, List.map_nil]); first | done | rfl | (simp only [List.length_drop, List.length_take]; rfl)) ?_; (with_reducible refine (compasslaw04_line.calls  t210 t211 _ A1.out).mono ?_); rintro e w58 ⟨v212, rfl, ho0, hb⟩; refine ⟨_, rfl, ?_⟩; have n0_ := ak (Kd.R_lower ho0 (below_size lb)); have n1_ := ak (below_step lb hb); clear HB; have HO213 := n0_; have HB := n1_; clear n0_ n1_; (try clear hb); (try clear hb2); (try clear hk); (try clear hi); (try clear ho0); obtain ⟨Ao59, co59, eo59⟩ := Kd.R_slice HO213.out; subst eo59) | ((with_reducible refine gate_callee (f := 13) rfl ?_); refine goesL_ (some 8) rfl rfl Try.func13 (by kernel_rfl) rfl #[.agg #[.int .i64 t210, .slice Ao59 t211.length co59], .int .i64 0] rfl (by (try simp only [List.map_toArray, List.map_cons, List.map_nil]); first | done | rfl | (simp only [List.length_drop, List.length_take]; rfl)) ?_; (with_reducible refine (walk_Levels.calls k t210 _ _ t211 0 t214 t217 _ ?side1 ?side2 A2.out).mono ?_); (case side1 => repeat (first | exact (Kd.R_reads' HO213.out).2.2 | (with_reducible refine Kd.C_alloc ?_ _) | (with_reducible refine Kd.C_drewN ?_ _) | (with_reducible refine Kd.C_drew ?_))); (case side2 => exact (Kd.R_reads' HO213.out).2.1); rintro e w60 ⟨v215, rfl, ho0, hb⟩; refine ⟨_, rfl, ?_⟩; have n0_ := ak (Kd.R_below (rx HO213.out) hb); have n1_ := ak (Kd.R_lower ho0 (below_size lb)); have n2_ := ak (below_step lb hb); clear HO213; clear HB; have HO213 := n0_; have HO216 := n1_; have HB := n2_; clear n0_ n1_ n2_; (try clear hb); (try clear hb2); (try clear hk); (try clear hi); (try clear ho0)) | ((with_reducible refine gate_callee (f := 22) rfl ?_); refine goesL_ (some 12) rfl rfl Try.func22 (by kernel_rfl) rfl #[] rfl (by (try simp only [List.map_toArray, List.map_cons, List.map_nil]); first | done | rfl | (simp only [List.length_drop, List.length_take]; rfl)) ?_; (with_reducible refine (compasslaw04_line.calls  t218 t219 _ A3.out).mono ?_); rintro e w61 ⟨v220, rfl, ho0, hb⟩; refine ⟨_, rfl, ?_⟩; have n0_ := ak (Kd.R_elder' (rx HO213.out) (Kd.R_base ho0) hb); have n1_ := ak (Kd.R_below (rx HO216.out) hb); have n2_ := ak (Kd.R_lower (Kd.R_new' ho0 (Kd.R_lt (rx HO213.out))) (below_size lb)); have n3_ := ak (below_step lb hb); clear HO213; clear HO216; clear HB; have HO213 := n0_; have HO216 := n1_; have HO221 := n2_; have HB := n3_; clear n0_ n1_ n2_ n3_; (try clear hb); (try clear hb2); (try clear hk); (try clear hi); (try clear ho0); obtain ⟨Ao62, co62, eo62⟩ := Kd.R_slice HO221.out; subst eo62) | ((with_reducible refine gate_callee (f := 16) rfl ?_); refine goesL_ (some 13) rfl rfl Try.func16 (by kernel_rfl) rfl #[.agg #[.int .i64 t218, .slice Ao62 t219.length co62]] rfl (by (try simp only [List.map_toArray, List.map_cons, List.map_nil]); first | done | rfl | (simp only [List.length_drop, List.length_take]; rfl)) ?_; (with_reducible refine (walk_Order.calls k t218 _ _ t219 t222 t225 t228 _ ?side1 ?side2 A4.out).mono ?_); (case side1 => repeat (first | exact (Kd.R_reads' HO221.out).2.2 | (with_reducible refine Kd.C_alloc ?_ _) | (with_reducible refine Kd.C_drewN ?_ _) | (with_reducible refine Kd.C_drew ?_))); (case side2 => exact (Kd.R_reads' HO221.out).2.1); rintro e w63 ⟨v223, v226, rfl, ho0, ho1, hb⟩; refine ⟨_, rfl, ?_⟩; have n0_ := ak (Kd.R_below (rx HO213.out) hb); have n1_ := ak (Kd.R_mono (Kd.R_told (Kd.R_told (Kd.R_old (rx HO216.out) hb) (Kd.R_base ho0)) (Kd.R_base ho1)) (fun _ h_ => h_.1)); have n2_ := ak (Kd.R_below (rx HO221.out) hb); have n3_ := ak (Kd.R_lower (Kd.R_new' ho0 (Kd.R_lt (rx HO216.out))) (below_size lb)); have n4_ := ak (Kd.R_lower (Kd.R_new' ho1 (Kd.R_lt (rx HO216.out))) (below_size lb)); have n5_ := ak (below_step lb hb); clear HO213; clear HO216; clear HO221; clear HB; have HO213 := n0_; have HO216 := n1_; have HO221 := n2_; have HO224 := n3_; have HO227 := n4_; have HB := n5_; clear n0_ n1_ n2_ n3_ n4_ n5_; (try clear hb); (try clear hb2); (try clear hk); (try clear hi); (try clear ho0); (try clear ho1)))
  go_ret
  exact ⟨by first | rfl | (simp [errW_none, errW_some] <;> rfl) | (simp [*, errW_none, errW_some] <;> rfl), lb⟩

/-! ### compasslaw04_ints: function 15 -/
def compasslaw04_ints.l0 : Nat → List Int → List Int → Int → Int → Option (Bool)
  | 0, _, _, _, _ => none
  | k + 1, x0, x1, x12, x13 => if x13 < x12 then (if 0 ≤ x13 then (if x13 < (x0.length : Int) then (if x13 < (x1.length : Int) then (if (rd x0 x13) = (rd x1 x13) then (compasslaw04_ints.l0 k x0 x1 x12 (wrap64 (x13 + 1))) else (some false)) else (none)) else (none)) else (none)) else (some true)
def compasslaw04_ints.f (k : Nat) (l0 : List Int) (l1 : List Int) : Option (Bool) := if (l0.length : Int) = (l1.length : Int) then (compasslaw04_ints.l0 k l0 l1 (l0.length : Int) 0) else (some false)
theorem compasslaw04_ints.mono_l : ∀ k, (∀ y0 y1 y2 y3, LeO (compasslaw04_ints.l0 k y0 y1 y2 y3) (compasslaw04_ints.l0 (k + 1) y0 y1 y2 y3))
  | 0 => fun _ _ _ _ r h => by simp [compasslaw04_ints.l0] at h
  | k + 1 => by
    have ih0 := compasslaw04_ints.mono_l k
    · intro y0 y1 y2 y3
      unfold compasslaw04_ints.l0
      repeat' first
      | (with_reducible exact ih0 _ _ _ _)
      | (with_reducible exact LeO.refl _)
      | (with_reducible exact LeO.none _)
      | (with_reducible refine LeO.ite ?_ ?_)
      | (with_reducible refine LeO.bind ?_ (fun _ => ?_))
      | exact ih0 _ _ _ _
      | exact LeO.none _
      | refine LeO.ite ?_ ?_
      | refine LeO.bind ?_ (fun _ => ?_)
theorem compasslaw04_ints.mono : ∀ a0 a1 k, LeO (compasslaw04_ints.f k a0 a1) (compasslaw04_ints.f (k + 1) a0 a1) := by
  intro a0 a1 k
  have ih0 := compasslaw04_ints.mono_l k
  unfold compasslaw04_ints.f
  repeat' first
      | (with_reducible exact ih0 _ _ _ _)
      | (with_reducible exact LeO.refl _)
      | (with_reducible exact LeO.none _)
      | (with_reducible refine LeO.ite ?_ ?_)
      | (with_reducible refine LeO.bind ?_ (fun _ => ?_))
      | exact ih0 _ _ _ _
      | exact LeO.none _
      | refine LeO.ite ?_ ?_
      | refine LeO.bind ?_ (fun _ => ?_)
set_option maxHeartbeats 8000000 in
set_option maxRecDepth 100000 in
theorem compasslaw04_ints.calls (k : Nat) (A0 : Option Addr) (c0 : Nat) (l0 : List Int) (A1 : Option Addr) (c1 : Nat) (l1 : List Int) (r : Bool) (w : World) (hr0 : Kd.C (Kd.int .i64) w A0 l0.length l0) (hc0 : l0.length ≤ c0) (hr1 : Kd.C (Kd.int .i64) w A1 l1.length l1) (hc1 : l1.length ≤ c1) (h : compasslaw04_ints.f k l0 l1 = some r) :
    Calls Try.prog 15 #[.slice A0 l0.length c0, .slice A1 l1.length c1] w fun e w' => e = .returned (.bool r) ∧ Drawn0 w w' := by
 have HR0 := ak hr0
 have HC0 := ak hc0
 clear hr0 hc0
 have HR1 := ak hr1
 have HC1 := ak hc1
 clear hr1 hc1
 have H : (if (l0.length : Int) = (l1.length : Int) then (compasslaw04_ints.l0 k l0 l1 (l0.length : Int) 0) else (some false)) = some r := h
 clear h
 by_cases c3 : (l0.length : Int) = (l1.length : Int)
 ·
  rw [if_pos c3] at H
  have c3b0 : ((l0.length : Int) == (l1.length : Int)) = true := beq_iff_eq.mpr c3
  have c3b1 : ((l0.length : Int) != (l1.length : Int)) = false := bne_eq_false_iff_eq.mpr c3
  have c3b2 : (l0.length == l1.length) = true := by first | simpa using c3 | (simp at c3 ⊢; omega)
  clear c3
  have H' := ak H
  clear H
  go_enter Try.func15, Try.ntmps15
  go_wp2
  repeat (go_quiet (fail); try go_wp2)
  go_loopg [13] k (fun kq v13 w' => ∃ (x13_1 : Int), v13 = .int .i64 x13_1 ∧ Aside0 (compasslaw04_ints.l0 kq l0 l1 (l0.length : Int) x13_1 = some r) ∧ Aside0 (kq ≤ k) ∧ Drawn0 w w')
  case atStart => exact ⟨(0), (by first | rfl | (simp [*]; done)), H', ⟨Nat.le_refl _⟩, by repeat (first | exact Drawn0.refl _ | apply Drawn0.step)⟩
  case round =>
   clear H'
   try clear c1; try clear p2; try clear c3; try clear c3b0; try clear c3b1; try clear c3b2
   obtain ⟨x13_1, rfl, HA, HK1, ⟨m1, rfl⟩⟩ := hrel
   cases gk with
   | zero => exact absurd HA.out (by simp [compasslaw04_ints.l0])
   | succ k1 =>
    have H := HA.out
    clear HA
    simp only [compasslaw04_ints.l0] at H
    by_cases c4 : x13_1 < (l0.length : Int)
    ·
     rw [if_pos c4] at H
     have c4b0 : decide (x13_1 < (l0.length : Int)) = true := decide_eq_true c4
     clear c4
     by_cases c5 : 0 ≤ x13_1
     rotate_left
     ·
      rw [if_neg c5] at H
      exact absurd H (by simp)
     rw [if_pos c5] at H
     have c5b0 : decide (0 ≤ x13_1) = true := decide_eq_true c5
     clear c5
     by_cases c6 : x13_1 < (l0.length : Int)
     rotate_left
     ·
      rw [if_neg c6] at H
      exact absurd H (by simp)
     rw [if_pos c6] at H
     have c6b0 : decide (x13_1 < (l0.length : Int)) = true := decide_eq_true c6
     clear c6
     by_cases c7 : x13_1 < (l1.length : Int)
     rotate_left
     ·
      rw [if_neg c7] at H
      exact absurd H (by simp)
     rw [if_pos c7] at H
     have c7b0 : decide (x13_1 < (l1.length : Int)) = true := decide_eq_true c7
     clear c7
     by_cases c8 : (rd l0 x13_1) = (rd l1 x13_1)
     ·
      rw [if_pos c8] at H
      have c8b0 : ((rd l0 x13_1) == (rd l1 x13_1)) = true := beq_iff_eq.mpr c8
      have c8b1 : ((rd l0 x13_1) != (rd l1 x13_1)) = false := bne_eq_false_iff_eq.mpr c8
      clear c8
      have H' := ak H
      clear H
      have p232 : 0 ≤ (x13_1 : Int) := oda
      have q232 : x13_1 < (l0.length : Int) := oda
      obtain ⟨ad232, e232, hx232_0⟩ := Kd.at_int HR0.out x13_1 p232 q232
      cases e232
      replace p232 := eq_true p232
      replace q232 := eq_true q232
      have p233 : 0 ≤ (x13_1 : Int) := oda
      have q233 : x13_1 < (l1.length : Int) := oda
      obtain ⟨ad233, e233, hx233_0⟩ := Kd.at_int HR1.out x13_1 p233 q233
      cases e233
      replace p233 := eq_true p233
      replace q233 := eq_true q233
      go_wp2
      repeat (go_quiet (fail); try go_wp2)
      go_roundg k1
      case measure => have := HK1.out; omega
      case rel => exact ⟨(wrap64 (x13_1 + 1)), (by first | rfl | (simp [*]; done)), H', ⟨by have := HK1.out; omega⟩, by repeat (first | exact Drawn0.refl _ | apply Drawn0.step)⟩
     ·
      rw [if_neg c8] at H
      have c8b0 : ((rd l0 x13_1) == (rd l1 x13_1)) = false := beq_eq_false_iff_ne.mpr c8
      have c8b1 : ((rd l0 x13_1) != (rd l1 x13_1)) = true := bne_iff_ne.mpr c8
      obtain rfl := Option.some.inj H
      have p232 : 0 ≤ (x13_1 : Int) := oda
      have q232 : x13_1 < (l0.length : Int) := oda
      obtain ⟨ad232, e232, hx232_0⟩ := Kd.at_int HR0.out x13_1 p232 q232
      cases e232
      replace p232 := eq_true p232
      replace q232 := eq_true q232
      have p233 : 0 ≤ (x13_1 : Int) := oda
      have q233 : x13_1 < (l1.length : Int) := oda
      obtain ⟨ad233, e233, hx233_0⟩ := Kd.at_int HR1.out x13_1 p233 q233
      cases e233
      replace p233 := eq_true p233
      replace q233 := eq_true q233
      go_wp2
      repeat (go_quiet (fail); try go_wp2)
      go_ret
      exact ⟨by first | rfl | (simp; done) | (simp [*]; done), by repeat (first | exact Drawn0.refl _ | apply Drawn0.step)⟩
    ·
     rw [if_neg c4] at H
     have c4b0 : decide (x13_1 < (l0.length : Int)) = false := decide_eq_false c4
     clear c4
     obtain rfl := Option.some.inj H
     go_wp2
     repeat (go_quiet (fail); try go_wp2)
     go_ret
     exact ⟨by first | rfl | (simp; done) | (simp [*]; done), by repeat (first | exact Drawn0.refl _ | apply Drawn0.step)⟩
 ·
  rw [if_neg c3] at H
  have c3b0 : ((l0.length : Int) == (l1.length : Int)) = false := beq_eq_false_iff_ne.mpr c3
  have c3b1 : ((l0.length : Int) != (l1.length : Int)) = true := bne_iff_ne.mpr c3
  have c3b2 : (l0.length == l1.length) = false := by first | simpa using c3 | (simp at c3 ⊢; omega)
  obtain rfl := Option.some.inj H
  go_enter Try.func15, Try.ntmps15
  go_wp2
  repeat (go_quiet (fail); try go_wp2)
  go_ret
  exact ⟨by first | rfl | (simp; done) | (simp [*]; done), by repeat (first | exact Drawn0.refl _ | apply Drawn0.step)⟩

-- NOT PRINTED: function 36 (walk_Visit_1)

/-! ### GIVEN: walk_Visit: function 19 -/
theorem walk_Visit.told : True := trivial

end Go.Proofs.Ytacklfnnpiobgaa.Q
