import Derived.Test.YtkdoihcjhccliaaQ0
namespace Go.Proofs.Ytkdoihcjhccliaa.Q
open Go.RowKit Go.Proofs.YtkdoihcjhccliaaW.PrintWords Go.Proofs.YtkdoihcjhccliaaW.PrintLast Go.Proofs.YtkdoihcjhccliaaW.PrintMore
attribute [local go_sem] max2_int min2_int max_two min_two max_three min_three max_four min_four   -- for this text's walks alone
set_option linter.unusedVariables false
set_option linter.unusedSimpArgs false

/-! ### compassref11_Cut: function 54 -/
def compassref11_Cut.l0 : Nat → List Bool → Int → Int → Int → List (S98) → Option (Int)
  | 0, _, _, _, _, _ => none
  | k + 1, x1, x5, x6, x342000, x342001 => if x6 < (x342001.length : Int) then (if 0 ≤ x6 then (if 0 ≤ ((rd_T98 x342001 x6).f0) then (if ((rd_T98 x342001 x6).f0) < (x1.length : Int) then (if rdOf false x1 ((rd_T98 x342001 x6).f0) = true then (if 0 ≤ ((rd_T98 x342001 x6).f1) then (if ((rd_T98 x342001 x6).f1) < (x1.length : Int) then (if (rdOf false x1 ((rd_T98 x342001 x6).f1) = true) then (compassref11_Cut.l0 k x1 x5 (wrap64 (x6 + 1)) x342000 x342001) else (compassref11_Cut.l0 k x1 (wrap64 (x5 + ((rd_T98 x342001 x6).f2))) (wrap64 (x6 + 1)) x342000 x342001)) else (none)) else (none)) else (compassref11_Cut.l0 k x1 x5 (wrap64 (x6 + 1)) x342000 x342001)) else (none)) else (none)) else (none)) else (some x5)
def compassref11_Cut.f (k : Nat) (a0_0 : Int) (l0_1 : List (S98)) (l1 : List Bool) : Option (Int) := compassref11_Cut.l0 k l1 0 0 a0_0 l0_1
theorem compassref11_Cut.mono_l : ∀ k, (∀ y0 y1 y2 y3 y4, LeO (compassref11_Cut.l0 k y0 y1 y2 y3 y4) (compassref11_Cut.l0 (k + 1) y0 y1 y2 y3 y4))
  | 0 => fun _ _ _ _ _ r h => by simp [compassref11_Cut.l0] at h
  | k + 1 => by
    have ih0 := compassref11_Cut.mono_l k
    · intro y0 y1 y2 y3 y4
      unfold compassref11_Cut.l0
      repeat' first
      | (with_reducible exact ih0 _ _ _ _ _)
      | (with_reducible exact LeO.refl _)
      | (with_reducible exact LeO.none _)
      | (with_reducible refine LeO.ite ?_ ?_)
      | (with_reducible refine LeO.bind ?_ (fun _ => ?_))
      | exact ih0 _ _ _ _ _
      | exact LeO.none _
      | refine LeO.ite ?_ ?_
      | refine LeO.bind ?_ (fun _ => ?_)
theorem compassref11_Cut.mono : ∀ a0 a1 a2 k, LeO (compassref11_Cut.f k a0 a1 a2) (compassref11_Cut.f (k + 1) a0 a1 a2) := by
  intro a0 a1 a2 k
  have ih0 := compassref11_Cut.mono_l k
  unfold compassref11_Cut.f
  repeat' first
      | (with_reducible exact ih0 _ _ _ _ _)
      | (with_reducible exact LeO.refl _)
      | (with_reducible exact LeO.none _)
      | (with_reducible refine LeO.ite ?_ ?_)
      | (with_reducible refine LeO.bind ?_ (fun _ => ?_))
      | exact ih0 _ _ _ _ _
      | exact LeO.none _
      | refine LeO.ite ?_ ?_
      | refine LeO.bind ?_ (fun _ => ?_)
set_option maxHeartbeats 8000000 in
set_option maxRecDepth 100000 in
theorem compassref11_Cut.calls (k : Nat) (a0_0 : Int) (A0_1 : Option Addr) (c0_1 : Nat) (l0_1 : List (S98)) (A1 : Option Addr) (c1 : Nat) (l1 : List Bool) (r : Int) (w : World) (hr0_1 : Kd.C k98 w A0_1 l0_1.length l0_1) (hc0_1 : l0_1.length ≤ c0_1) (hr1 : Kd.C Kd.bool w A1 l1.length l1) (hc1 : l1.length ≤ c1) (h : compassref11_Cut.f k a0_0 l0_1 l1 = some r) :
    Calls Try.prog 54 #[.agg #[.int .i64 a0_0, .slice A0_1 l0_1.length c0_1], .slice A1 l1.length c1] w fun e w' => e = .returned (.int .i64 r) ∧ Below w.heap.size w w' := by
 have hu24 := Try.underlying24; have HR0_1 := ak hr0_1; have HC0_1 := ak hc0_1; clear hr0_1 hc0_1; have HR1 := ak hr1; have HC1 := ak hc1; clear hr1 hc1; have HB := ak (Below.refl w.heap.size w); have H : (compassref11_Cut.l0 k l1 0 0 a0_0 l0_1) = some r := h; clear h; have H' := ak H; clear H
 go_enter Try.func54, Try.ntmps54
 go_wp2_with (first | ((with_reducible refine gate_dst (N := 2) rfl ?_); refine box_event ?hg (N := 2) ?hd (cs := #[.int .i64 a0_0, .slice A0_1 l0_1.length c0_1]) (t := 24) ?hr ?_; (case hd => rfl); (case hg => rfl); (case hr => first | (go_simp; done) | (go_simp; rfl)); intro gb341 hg w3 hbox hb; have n_ := a4 (below_step lb hb) hbox (gw w hg) (gw w hg); clear HB; obtain ⟨HB, BK341, GW341, GE341⟩ := n_; clear hb hbox hg))
 go_loopg [5, 6] k (fun kq v5 v6 w' => ∃ (x5_1 : Int) (x6_1 : Int), v5 = .int .i64 x5_1 ∧ v6 = .int .i64 x6_1 ∧ Aside0 (compassref11_Cut.l0 kq l1 x5_1 x6_1 a0_0 l0_1 = some r) ∧ Aside0 (kq ≤ k) ∧ Aside0 (w'.heap[gb341]? = some (.cells #[.int .i64 a0_0, (.slice A0_1 l0_1.length c0_1)] 24 (0, 0))) ∧ Aside0 (Below w.heap.size w w'))
 case atStart => exact ⟨(0), (0), (by first | rfl | (simp [*]; done)), (by first | rfl | (simp [*]; done)), H', ⟨Nat.le_refl _⟩, ⟨bx BK341.out⟩, ⟨lb⟩⟩
 case round =>
  clear H'; obtain ⟨x5_1, x6_1, rfl, rfl, HA, HK1, BK341, HB⟩ := hrel
  cases gk with
  | zero => exact absurd HA.out (by simp [compassref11_Cut.l0])
  | succ k1 =>
   have H := HA.out; clear HA
   simp only [compassref11_Cut.l0] at H
   by_cases c4 : x6_1 < (l0_1.length : Int)
   ·
    rw [if_pos c4] at H; have c4b0 := decide_eq_true c4; clear c4; replace H := ifd H; obtain ⟨c5b0, H⟩ := H; replace H := ifd H; obtain ⟨c6b0, H⟩ := H; replace H := ifd H; obtain ⟨c7b0, H⟩ := H; obtain ⟨bq8, hbq8⟩ : ∃ b_ : Bool, b_ = (rdOf false l1 ((rd_T98 l0_1 x6_1).f0)) := ⟨_, rfl⟩; replace H : (if bq8 = true then (if 0 ≤ ((rd_T98 l0_1 x6_1).f1) then (if ((rd_T98 l0_1 x6_1).f1) < (l1.length : Int) then (if (rdOf false l1 ((rd_T98 l0_1 x6_1).f1) = true) then (compassref11_Cut.l0 k1 l1 x5_1 (wrap64 (x6_1 + 1)) a0_0 l0_1) else (compassref11_Cut.l0 k1 l1 (wrap64 (x5_1 + ((rd_T98 l0_1 x6_1).f2))) (wrap64 (x6_1 + 1)) a0_0 l0_1)) else (none)) else (none)) else (compassref11_Cut.l0 k1 l1 x5_1 (wrap64 (x6_1 + 1)) a0_0 l0_1)) = some r := by rw [← hbq8] at H; exact H
    have Nbq8 := ak hbq8; clear hbq8
    by_cases c9 : bq8 = true
    ·
     subst c9
     have H1 : (if 0 ≤ ((rd_T98 l0_1 x6_1).f1) then (if ((rd_T98 l0_1 x6_1).f1) < (l1.length : Int) then (if (rdOf false l1 ((rd_T98 l0_1 x6_1).f1) = true) then (compassref11_Cut.l0 k1 l1 x5_1 (wrap64 (x6_1 + 1)) a0_0 l0_1) else (compassref11_Cut.l0 k1 l1 (wrap64 (x5_1 + ((rd_T98 l0_1 x6_1).f2))) (wrap64 (x6_1 + 1)) a0_0 l0_1)) else (none)) else (none)) = some r := by rw [if_pos rfl] at H; exact H
     clear H; have H := H1; clear H1; replace H := ifd H; obtain ⟨c10b0, H⟩ := H; replace H := ifd H; obtain ⟨c11b0, H⟩ := H; obtain ⟨bq12, hbq12⟩ : ∃ b_ : Bool, b_ = (rdOf false l1 ((rd_T98 l0_1 x6_1).f1)) := ⟨_, rfl⟩; replace H : (if (bq12 = true) then (compassref11_Cut.l0 k1 l1 x5_1 (wrap64 (x6_1 + 1)) a0_0 l0_1) else (compassref11_Cut.l0 k1 l1 (wrap64 (x5_1 + ((rd_T98 l0_1 x6_1).f2))) (wrap64 (x6_1 + 1)) a0_0 l0_1)) = some r := by rw [← hbq12] at H; exact H
     have Nbq12 := ak hbq12; clear hbq12
     by_cases c13 : (bq12 = true)
     ·
      subst c13
      have H1 : (compassref11_Cut.l0 k1 l1 x5_1 (wrap64 (x6_1 + 1)) a0_0 l0_1) = some r := by rw [if_pos rfl] at H; exact H
      clear H; have H := H1; clear H1; have H' := ak H; clear H; have hcz14_0 := bc0 BK341; have hcz14_1 := bc1 BK341; have hfz14_0 := bf BK341 0; have hfz14_1 := bf BK341 1; have p342 : 0 ≤ (x6_1 : Int) := oda; have q342 : x6_1 < (l0_1.length : Int) := oda; obtain ⟨ad342, e342, hx342_0, hx342_1, hx342_2, hx342_3⟩ := at_T98 HR0_1.out x6_1 p342 q342; cases e342
      (try replace hx342_0 := hbc HB hx342_0)
      (try replace hx342_1 := hbc HB hx342_1)
      (try replace hx342_2 := hbc HB hx342_2)
      (try replace hx342_3 := hbc HB hx342_3)
      replace p342 := eq_true p342; replace q342 := eq_true q342; have p343 : 0 ≤ (((rd_T98 l0_1 x6_1).f0) : Int) := oda; have q343 : ((rd_T98 l0_1 x6_1).f0) < (l1.length : Int) := oda; obtain ⟨ad343, e343, hx343_0⟩ := Kd.at_bool HR1.out ((rd_T98 l0_1 x6_1).f0) p343 q343
      (try rw [← Nbq8.out] at hx343_0)
      (try rw [← Nbq12.out] at hx343_0)
      cases e343
      (try replace hx343_0 := hbc HB hx343_0)
      replace p343 := eq_true p343; replace q343 := eq_true q343; have p344 : 0 ≤ (x6_1 : Int) := oda; have q344 : x6_1 < (l0_1.length : Int) := oda; obtain ⟨ad344, e344, hx344_0, hx344_1, hx344_2, hx344_3⟩ := at_T98 HR0_1.out x6_1 p344 q344
      obtain rfl : ad342 = ad344 := (by injection e344)
      (try replace hx344_0 := hbc HB hx344_0)
      (try replace hx344_1 := hbc HB hx344_1)
      (try replace hx344_2 := hbc HB hx344_2)
      (try replace hx344_3 := hbc HB hx344_3)
      replace p344 := eq_true p344; replace q344 := eq_true q344; have p345 : 0 ≤ (((rd_T98 l0_1 x6_1).f1) : Int) := oda; have q345 : ((rd_T98 l0_1 x6_1).f1) < (l1.length : Int) := oda; obtain ⟨ad345, e345, hx345_0⟩ := Kd.at_bool HR1.out ((rd_T98 l0_1 x6_1).f1) p345 q345
      (try rw [← Nbq8.out] at hx345_0)
      (try rw [← Nbq12.out] at hx345_0)
      obtain rfl : ad343 = ad345 := (by injection e345)
      (try replace hx345_0 := hbc HB hx345_0)
      replace p345 := eq_true p345; replace q345 := eq_true q345
      go_wp2
      go_roundg k1
      case measure => have := HK1.out; omega
      case rel => exact ⟨(x5_1), (wrap64 (x6_1 + 1)), (by first | rfl | (simp [*]; done)), (by first | rfl | (simp [*]; done)), H', ⟨by have := HK1.out; omega⟩, ⟨bx BK341.out⟩, ⟨lb⟩⟩
     ·
      replace c13 := Bool.eq_false_iff.mpr c13; subst c13
      have H1 : (compassref11_Cut.l0 k1 l1 (wrap64 (x5_1 + ((rd_T98 l0_1 x6_1).f2))) (wrap64 (x6_1 + 1)) a0_0 l0_1) = some r := by rw [if_neg (show ¬ (false = true) by decide)] at H; exact H
      clear H; have H := H1; clear H1; have H' := ak H; clear H; have hcz15_0 := bc0 BK341; have hcz15_1 := bc1 BK341; have hfz15_0 := bf BK341 0; have hfz15_1 := bf BK341 1; have p342 : 0 ≤ (x6_1 : Int) := oda; have q342 : x6_1 < (l0_1.length : Int) := oda; obtain ⟨ad342, e342, hx342_0, hx342_1, hx342_2, hx342_3⟩ := at_T98 HR0_1.out x6_1 p342 q342; cases e342
      (try replace hx342_0 := hbc HB hx342_0)
      (try replace hx342_1 := hbc HB hx342_1)
      (try replace hx342_2 := hbc HB hx342_2)
      (try replace hx342_3 := hbc HB hx342_3)
      replace p342 := eq_true p342; replace q342 := eq_true q342; have p343 : 0 ≤ (((rd_T98 l0_1 x6_1).f0) : Int) := oda; have q343 : ((rd_T98 l0_1 x6_1).f0) < (l1.length : Int) := oda; obtain ⟨ad343, e343, hx343_0⟩ := Kd.at_bool HR1.out ((rd_T98 l0_1 x6_1).f0) p343 q343
      (try rw [← Nbq8.out] at hx343_0)
      (try rw [← Nbq12.out] at hx343_0)
      cases e343
      (try replace hx343_0 := hbc HB hx343_0)
      replace p343 := eq_true p343; replace q343 := eq_true q343; have p344 : 0 ≤ (x6_1 : Int) := oda; have q344 : x6_1 < (l0_1.length : Int) := oda; obtain ⟨ad344, e344, hx344_0, hx344_1, hx344_2, hx344_3⟩ := at_T98 HR0_1.out x6_1 p344 q344
      obtain rfl : ad342 = ad344 := (by injection e344)
      (try replace hx344_0 := hbc HB hx344_0)
      (try replace hx344_1 := hbc HB hx344_1)
      (try replace hx344_2 := hbc HB hx344_2)
      (try replace hx344_3 := hbc HB hx344_3)
      replace p344 := eq_true p344; replace q344 := eq_true q344; have p345 : 0 ≤ (((rd_T98 l0_1 x6_1).f1) : Int) := oda; have q345 : ((rd_T98 l0_1 x6_1).f1) < (l1.length : Int) := oda; obtain ⟨ad345, e345, hx345_0⟩ := Kd.at_bool HR1.out ((rd_T98 l0_1 x6_1).f1) p345 q345
      (try rw [← Nbq8.out] at hx345_0)
      (try rw [← Nbq12.out] at hx345_0)
      obtain rfl : ad343 = ad345 := (by injection e345)
      (try replace hx345_0 := hbc HB hx345_0)
      replace p345 := eq_true p345; replace q345 := eq_true q345; have p346 : 0 ≤ (x6_1 : Int) := oda; have q346 : x6_1 < (l0_1.length : Int) := oda; obtain ⟨ad346, e346, hx346_0, hx346_1, hx346_2, hx346_3⟩ := at_T98 HR0_1.out x6_1 p346 q346
      obtain rfl : ad342 = ad346 := (by injection e346)
      (try replace hx346_0 := hbc HB hx346_0)
      (try replace hx346_1 := hbc HB hx346_1)
      (try replace hx346_2 := hbc HB hx346_2)
      (try replace hx346_3 := hbc HB hx346_3)
      replace p346 := eq_true p346; replace q346 := eq_true q346
      go_wp2
      go_roundg k1
      case measure => have := HK1.out; omega
      case rel => exact ⟨(wrap64 (x5_1 + ((rd_T98 l0_1 x6_1).f2))), (wrap64 (x6_1 + 1)), (by first | rfl | (simp [*]; done)), (by first | rfl | (simp [*]; done)), H', ⟨by have := HK1.out; omega⟩, ⟨bx BK341.out⟩, ⟨lb⟩⟩
    ·
     replace c9 := Bool.eq_false_iff.mpr c9; subst c9
     have H1 : (compassref11_Cut.l0 k1 l1 x5_1 (wrap64 (x6_1 + 1)) a0_0 l0_1) = some r := by rw [if_neg (show ¬ (false = true) by decide)] at H; exact H
     clear H; have H := H1; clear H1; have H' := ak H; clear H; have hcz16_0 := bc0 BK341; have hcz16_1 := bc1 BK341; have hfz16_0 := bf BK341 0; have hfz16_1 := bf BK341 1; have p342 : 0 ≤ (x6_1 : Int) := oda; have q342 : x6_1 < (l0_1.length : Int) := oda; obtain ⟨ad342, e342, hx342_0, hx342_1, hx342_2, hx342_3⟩ := at_T98 HR0_1.out x6_1 p342 q342; cases e342
     (try replace hx342_0 := hbc HB hx342_0)
     (try replace hx342_1 := hbc HB hx342_1)
     (try replace hx342_2 := hbc HB hx342_2)
     (try replace hx342_3 := hbc HB hx342_3)
     replace p342 := eq_true p342; replace q342 := eq_true q342; have p343 : 0 ≤ (((rd_T98 l0_1 x6_1).f0) : Int) := oda; have q343 : ((rd_T98 l0_1 x6_1).f0) < (l1.length : Int) := oda; obtain ⟨ad343, e343, hx343_0⟩ := Kd.at_bool HR1.out ((rd_T98 l0_1 x6_1).f0) p343 q343
     (try rw [← Nbq8.out] at hx343_0)
     cases e343
     (try replace hx343_0 := hbc HB hx343_0)
     replace p343 := eq_true p343; replace q343 := eq_true q343
     go_wp2
     go_roundg k1
     case measure => have := HK1.out; omega
     case rel => exact ⟨(x5_1), (wrap64 (x6_1 + 1)), (by first | rfl | (simp [*]; done)), (by first | rfl | (simp [*]; done)), H', ⟨by have := HK1.out; omega⟩, ⟨bx BK341.out⟩, ⟨lb⟩⟩
   ·
    rw [if_neg c4] at H; have c4b0 : decide (x6_1 < (l0_1.length : Int)) = false := decide_eq_false c4; clear c4; obtain rfl := Option.some.inj H; have hcz17_0 := bc0 BK341; have hcz17_1 := bc1 BK341; have hfz17_0 := bf BK341 0; have hfz17_1 := bf BK341 1
    go_wp2
    go_ret
    exact ⟨by first | rfl | (simp [errW_none, errW_some] <;> rfl) | (simp [*, errW_none, errW_some] <;> rfl), lb⟩

end Go.Proofs.Ytkdoihcjhccliaa.Q
