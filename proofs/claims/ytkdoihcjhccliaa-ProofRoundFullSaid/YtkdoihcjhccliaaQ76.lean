import Derived.Test.YtkdoihcjhccliaaV
import Derived.Test.YtkdoihcjhccliaaQ0
import Derived.Test.YtkdoihcjhccliaaQ3
import Derived.Test.YtkdoihcjhccliaaQ23
import Derived.Test.YtkdoihcjhccliaaQ74
import Derived.Test.YtkdoihcjhccliaaQ75
namespace Go.Proofs.Ytkdoihcjhccliaa.Q
open Go.RowKit Go.Proofs.YtkdoihcjhccliaaW.PrintWords Go.Proofs.YtkdoihcjhccliaaW.PrintLast Go.Proofs.YtkdoihcjhccliaaW.PrintMore
attribute [local go_sem] dF dG eG eH cz cB dH dI   -- for this text's walks alone
set_option linter.unusedVariables false
set_option linter.unusedSimpArgs false

/-! ### bL: function 73 -/
def bL.f (k : Nat) (ay : Int) (ae : List (S98)) : Option (List Int × Int) := (av.f k ay ae).bind fun Hm => (if Hm.1 = 0 then (if 0 ≤ ay then (if (ay : Int).toNat ≤ 35184372088832 then ((az.f k ay ae (List.replicate (ay : Int).toNat 0) ay).bind fun zL => ((bO.f k ay ae zL).bind fun Ju => (if Ju = true then (some (zL, 0)) else (some (([] : List Int), 80))))) else (none)) else (none)) else (some (([] : List Int), Hm.1)))
def bL.T4 : Bool × List (List Nat × List Nat) := (true, [([], []), ([], []), ([1], [1]), ([2, 2], [2]), ([], []), ([4], [4]), ([0, 3, 5], [0, 3, 5]), ([6, 6, 0, 1, 2, 3, 4, 5, 6], [6])])
def bL.B4 : List Nat := [0, 0, 2, 6, 0, 16, 63, 127]
theorem bL.tab4 : oO .any (opsOf Try.f73 4) = bL.T4 := by kernel_rfl
theorem bL.adT : gM bL.T4.2 bL.B4 = true := by kernel_rfl
set_option maxHeartbeats 8000000 in
set_option maxRecDepth 100000 in
theorem bL.calls (k : Nat) (ay : Int) (bX : Option Addr) (bN : Nat) (ae : List (S98)) (r1 : List Int) (r2 : Int) (w : World) (dB : Kd.C k98 w bX ae.length ae) (dC : ae.length ≤ bN) (h : bL.f k ay ae = some (r1, r2)) :
    Calls Try.prog 73 #[.agg #[.int .i64 ay, .slice bX ae.length bN]] w fun e w' => ∃ v0_ : Value, e = .returned (.tuple #[v0_, .int .i64 r2]) ∧ Kd.V (Kd.int .i64) 2 w' w.heap.size (fun k_ => (w.heap.size ≤ k_)) v0_ r1 ∧ Below w.heap.size w w' := by
 have hu24 := Try.underlying24; have bU := ak dB; have eU := ak dC; clear dB dC; have HB := ak (Below.refl w.heap.size w); have H : ((av.f k ay ae).bind fun Hm => (if Hm.1 = 0 then (if 0 ≤ ay then (if (ay : Int).toNat ≤ 35184372088832 then ((az.f k ay ae (List.replicate (ay : Int).toNat 0) ay).bind fun zL => ((bO.f k ay ae zL).bind fun Ju => (if Ju = true then (some (zL, 0)) else (some (([] : List Int), 80))))) else (none)) else (none)) else (some (([] : List Int), Hm.1)))) = some (r1, r2) := h; clear h; replace H := Option.bind_eq_some_iff.mp H; obtain ⟨⟨t586, t587⟩, A20, H⟩ := H; dsimp only at H; have A2 := ak A20; clear A20
 by_cases c3 : t586 = 0
 rotate_left
 ·
  rw [if_neg c3] at H; have c3b := bn2 c3
  simp only [Option.some.injEq, Prod.mk.injEq] at H
  obtain ⟨rfl, rfl⟩ := H
  go_enter Try.func73, Try.ntmps73
  go_wp2_with (first | ((with_reducible refine aC (N := 1) rfl ?_); refine bxe 1 #[.int .i64 ay, .slice bX ae.length bN] 24 ?_; intro K3 hg w31 hbox hb; have jF := ak (hbox); have adU := ak (gw w hg); have adV := ak (gw w hg); replace HB := ak (bl hb); clear hb hbox hg; have ⟨_, _, _, _⟩ := cf2 jF) | ((with_reducible refine au (f := 44) rfl ?_); refine gl 9 Try.func44 #[.agg #[.int .i64 ay, .slice bX ae.length bN]] ?_; (with_reducible refine (av.calls k ay _ _ ae t586 t587 _ (Kd.cZ bU.out lb) eU.out A2.out).mono ?_); rintro e w33 ⟨rfl, hb⟩; refine ⟨_, rfl, ?_⟩; replace jF := ak (bo jF hb); replace HB := ak (bl hb); clear hb))
  go_ret2
  exact ⟨_, by first | rfl | (simp [dx, dz] <;> rfl) | (simp [*, dx, dz] <;> rfl), Kd.uw _ _ _ _ _, lb⟩
 rw [if_pos c3] at H; have c3b := be2 c3; clear c3; replace H := ife H; obtain ⟨c4b0, c4b1, H⟩ := H; replace H := ife H; obtain ⟨c5b0, c5b1, H⟩ := H; obtain ⟨Y6, Y7⟩ : ∃ y_ : List Int, y_ = (List.replicate (ay : Int).toNat 0) := ⟨_, rfl⟩; replace H : ((az.f k ay ae Y6 ay).bind fun zL => ((bO.f k ay ae zL).bind fun Ju => (if Ju = true then (some (zL, 0)) else (some (([] : List Int), 80))))) = some (r1, r2) := by first | (rw [Y7]; exact H) | exact H
 have TD := ak Y7; clear Y7; replace H := Option.bind_eq_some_iff.mp H; obtain ⟨zL, A60, H⟩ := H; have A6 := ak A60; clear A60; replace H := Option.bind_eq_some_iff.mp H; obtain ⟨Ju, A70, H⟩ := H; have A7 := ak A70; clear A70
 by_cases c8 : Ju = true
 ·
  subst c8
  replace H := ip H
  simp only [Option.some.injEq, Prod.mk.injEq] at H
  obtain ⟨rfl, rfl⟩ := H
  go_enter Try.func73, Try.ntmps73
  try go_wp2_with (first | ((with_reducible refine aC (N := 1) rfl ?_); refine bxe 1 #[.int .i64 ay, .slice bX ae.length bN] 24 ?_; intro K3 hg w9 hbox hb; have jF := ak (hbox); have adU := ak (gw w hg); have adV := ak (gw w hg); replace HB := ak (bl hb); clear hb hbox hg; have ⟨_, _, _, _⟩ := cf2 jF) | ((with_reducible refine au (f := 44) rfl ?_); refine gl 9 Try.func44 #[.agg #[.int .i64 ay, .slice bX ae.length bN]] ?_; (with_reducible refine (av.calls k ay _ _ ae t586 t587 _ (Kd.cZ bU.out lb) eU.out A2.out).mono ?_); rintro e w11 ⟨rfl, hb⟩; refine ⟨_, rfl, ?_⟩; replace jF := ak (bo jF hb); replace HB := ak (bl hb); clear hb))
  replace jF := ak (aK jF.out); replace HB := ak (bJ HB.out)
  refine stC 8 [] (cX (bc0 jF) (cY (bc1 jF))) bL.tab4 bL.adT fun hHeld HT_ HW_ => ?_
  generalize w11.drew = w12 at jF HB hHeld ⊢
  refine pv HT_ 1 16 ?_; refine pv HT_ 4 19 ?_; refine tv HT_ HW_ hHeld 0 15 ?_; refine tv HT_ HW_ hHeld 2 17 ?_; refine tv HT_ HW_ hHeld 5 20 ?_
  refine wT (i := 3) (N := some 18) #[T, T, T, T, T, T, F, F] rfl rfl (gP HT_.out (by kernel_rfl)) (by decide) (fun K hK => ?_)
  refine Kd.zP (Kd.int .i64) _ 2 (by rfl) (N := 18) rfl 25 _ _ rfl ay rfl rfl Try.underlying25 (.int .i64 0) 8 wW rfl (by decide) (by omega) 0 (ok := fun _ => True) (okp := fun _ => True) rfl (fun _ hk => hk) trivial (oda) (Nat.le_trans (Nat.mul_le_mul_right _ (oda : ay.toNat ≤ 35184372088832)) (by omega)) (Below.refl _ _) (Nat.le_refl _) ?_
  intro v589 w13 ho14 hb hg_ hnew_; clear hg_ hnew_
  (first | rw [← TD.out] at ho14 | (simp only [Int.reduceToNat] at ho14; rw [← TD.out] at ho14))
  have vL := ak (Kd.bY (Kd.lg (M := fun k_ => (w.heap.size ≤ k_)) ho14 (ax lb) (fun k_ h_ => h_)) (ax lb)); replace jF := ak (bo jF hb); replace HB := ak (bl hb); clear hb ho14; obtain ⟨Ao15, co15, eo15⟩ := Kd.bT vL.out
  (first | subst eo15 | (injection eo15 with f1_ f2_ f3_; have f4_ := f1_.symm; have f5_ := f3_.symm; clear f1_ f2_ f3_; subst f4_; subst f5_))
  refine hK.out _ _ ⟨(aH jF.out 0).trans rfl, (aH jF.out 1).trans rfl⟩ (fun hHeld => ?_)
  clear hK K
  refine ol (a' := ?_) ?_ ?_
  rotate_left
  ·
   show Act.put _ (some 18) _ = _
   simp only [Act.put, sA, sZ, sS, jA, jG]
   rfl
  refine wT (i := 6) (N := some 21) #[T, T, T, T, T, T, T, F] rfl rfl (gP HT_.out (by kernel_rfl)) (by decide) (fun K hK => ?_)
  refine DD Try.func89 (by kernel_rfl) rfl #[.agg #[.int .i64 ay, .slice bX ae.length bN], .slice Ao15 Y6.length co15, .int .i64 ay] (by rfl) rfl rfl (by (try simp only [List.map_toArray, List.map_cons, List.map_nil]); first | done | rfl | (simp only [List.length_drop, List.length_take]; rfl)) ?_
  with_reducible refine (az.calls k ay _ _ ae (fun k_ => some k_ = (.slice Ao15 Y6.length co15 : Value).ownBlock) _ _ Y6 ay zL _ (Kd.cZ bU.out lb) eU.out (Kd.R_V (Kd.Iu rfl (Kd.fC (vL.out) jF.out (by decide)))) A6.out).mono ?_
  rintro e w16 ⟨v592, rfl, ho0, hb⟩
  refine ⟨_, rfl, ?_⟩
  have zG := ak (Kd.yI (Kd.kU (ok' := fun k_ => (w.heap.size ≤ k_) ∧ k_ ≠ K3) ho0 (fun k_ hk_ => ⟨Or.elim hk_ (fun hs_ => ((Kd.fC (vL.out) jF.out (by decide)).1 k_ hs_.symm).1.1) (fun hn_ => (Nat.le_trans (ax lb) hn_)), Or.elim hk_ (fun hs_ => ((Kd.fC (vL.out) jF.out (by decide)).1 k_ hs_.symm).2) (fun hn_ => (Kd.ul (g := K3) (o := .cells #[.int .i64 ay, .slice bX ae.length bN] 24 (0, 0)) (bx jF.out) k_ hn_))⟩)) (ax lb)); replace vL := ak (ro vL hb); replace jF := ak (bo jF hb); replace HB := ak (bl hb)
  (try clear hb)
  (try clear hb2)
  (try clear hk)
  (try clear hi)
  (try clear ho0)
  refine hK.out _ _ ⟨(aH jF.out 0).trans rfl, (aH jF.out 1).trans rfl⟩ (fun hHeld => ?_)
  clear hK K
  refine ol (a' := ?_) ?_ ?_
  rotate_left
  ·
   show Act.put _ (some 21) _ = _
   simp only [Act.put, sA, sZ, sS, jA, jG]
   rfl
  refine pv HT_ 7 6 ?_
  refine kN (fV HT_.out (by kernel_rfl)) ?_
  have ⟨_, _, _, _⟩ := cf2 jF; obtain ⟨Ao18, co18, eo18⟩ := Kd.En zG.out; subst eo18
  try go_wp2_with (first | ((with_reducible refine au (f := 90) rfl ?_); refine gl 24 Try.func90 #[.agg #[.int .i64 ay, .slice bX ae.length bN], .slice Ao18 zL.length co18] ?_; (with_reducible refine (bO.calls k ay _ _ ae _ _ zL true _ ?side1 ?side2 ?side3 ?side4 A7.out).mono ?_); (case side1 => exact Kd.cZ bU.out lb); (case side2 => exact eU.out); (case side3 => repeat (first | exact (Kd.l6 zG.out).2.2 | (with_reducible refine Kd.nD ?_ _) | (with_reducible refine Kd.nE ?_ _) | (with_reducible refine Kd.rq ?_))); (case side4 => exact (Kd.l6 zG.out).2.1); rintro e w19 ⟨rfl, hb⟩; refine ⟨_, rfl, ?_⟩; replace vL := ak (ro vL hb); replace zG := ak (Kd.rA (vx zG.out) hb); replace jF := ak (bo jF hb); replace HB := ak (bl hb); clear hb))
  go_ret2
  exact ⟨_, by first | rfl | (simp [dx, dz] <;> rfl) | (simp [*, dx, dz] <;> rfl), by exact vx (Kd.kU zG.out (fun _ hk => hk.1)), lb⟩
 replace c8 := Bool.eq_false_iff.mpr c8; subst c8
 have H1 : (some (([] : List Int), 80)) = some (r1, r2) := by rw [if_neg (show ¬ (false = true) by decide)] at H; exact H
 clear H; have H := H1; clear H1
 simp only [Option.some.injEq, Prod.mk.injEq] at H
 obtain ⟨rfl, rfl⟩ := H
 go_enter Try.func73, Try.ntmps73
 try go_wp2_with (first | ((with_reducible refine aC (N := 1) rfl ?_); refine bxe 1 #[.int .i64 ay, .slice bX ae.length bN] 24 ?_; intro K3 hg w20 hbox hb; have jF := ak (hbox); have adU := ak (gw w hg); have adV := ak (gw w hg); replace HB := ak (bl hb); clear hb hbox hg; have ⟨_, _, _, _⟩ := cf2 jF) | ((with_reducible refine au (f := 44) rfl ?_); refine gl 9 Try.func44 #[.agg #[.int .i64 ay, .slice bX ae.length bN]] ?_; (with_reducible refine (av.calls k ay _ _ ae t586 t587 _ (Kd.cZ bU.out lb) eU.out A2.out).mono ?_); rintro e w22 ⟨rfl, hb⟩; refine ⟨_, rfl, ?_⟩; replace jF := ak (bo jF hb); replace HB := ak (bl hb); clear hb))
 replace jF := ak (aK jF.out); replace HB := ak (bJ HB.out)
 refine stC 8 [] (cX (bc0 jF) (cY (bc1 jF))) bL.tab4 bL.adT fun hHeld HT_ HW_ => ?_
 generalize w22.drew = w23 at jF HB hHeld ⊢
 refine pv HT_ 1 16 ?_; refine pv HT_ 4 19 ?_; refine tv HT_ HW_ hHeld 0 15 ?_; refine tv HT_ HW_ hHeld 2 17 ?_; refine tv HT_ HW_ hHeld 5 20 ?_
 refine wT (i := 3) (N := some 18) #[T, T, T, T, T, T, F, F] rfl rfl (gP HT_.out (by kernel_rfl)) (by decide) (fun K hK => ?_)
 refine Kd.zP (Kd.int .i64) _ 2 (by rfl) (N := 18) rfl 25 _ _ rfl ay rfl rfl Try.underlying25 (.int .i64 0) 8 wW rfl (by decide) (by omega) 0 (ok := fun _ => True) (okp := fun _ => True) rfl (fun _ hk => hk) trivial (oda) (Nat.le_trans (Nat.mul_le_mul_right _ (oda : ay.toNat ≤ 35184372088832)) (by omega)) (Below.refl _ _) (Nat.le_refl _) ?_
 intro v589 w24 ho25 hb hg_ hnew_; clear hg_ hnew_
 (first | rw [← TD.out] at ho25 | (simp only [Int.reduceToNat] at ho25; rw [← TD.out] at ho25))
 have vL := ak (Kd.bY (Kd.lg (M := fun k_ => (w.heap.size ≤ k_)) ho25 (ax lb) (fun k_ h_ => h_)) (ax lb)); replace jF := ak (bo jF hb); replace HB := ak (bl hb); clear hb ho25; obtain ⟨Ao26, co26, eo26⟩ := Kd.bT vL.out
 (first | subst eo26 | (injection eo26 with f1_ f2_ f3_; have f4_ := f1_.symm; have f5_ := f3_.symm; clear f1_ f2_ f3_; subst f4_; subst f5_))
 refine hK.out _ _ ⟨(aH jF.out 0).trans rfl, (aH jF.out 1).trans rfl⟩ (fun hHeld => ?_)
 clear hK K
 refine ol (a' := ?_) ?_ ?_
 rotate_left
 ·
  show Act.put _ (some 18) _ = _
  simp only [Act.put, sA, sZ, sS, jA, jG]
  rfl
 refine wT (i := 6) (N := some 21) #[T, T, T, T, T, T, T, F] rfl rfl (gP HT_.out (by kernel_rfl)) (by decide) (fun K hK => ?_)
 refine DD Try.func89 (by kernel_rfl) rfl #[.agg #[.int .i64 ay, .slice bX ae.length bN], .slice Ao26 Y6.length co26, .int .i64 ay] (by rfl) rfl rfl (by (try simp only [List.map_toArray, List.map_cons, List.map_nil]); first | done | rfl | (simp only [List.length_drop, List.length_take]; rfl)) ?_
 with_reducible refine (az.calls k ay _ _ ae (fun k_ => some k_ = (.slice Ao26 Y6.length co26 : Value).ownBlock) _ _ Y6 ay zL _ (Kd.cZ bU.out lb) eU.out (Kd.R_V (Kd.Iu rfl (Kd.fC (vL.out) jF.out (by decide)))) A6.out).mono ?_
 rintro e w27 ⟨v592, rfl, ho0, hb⟩
 refine ⟨_, rfl, ?_⟩
 have zG := ak (Kd.yI (Kd.kU (ok' := fun k_ => (w.heap.size ≤ k_) ∧ k_ ≠ K3) ho0 (fun k_ hk_ => ⟨Or.elim hk_ (fun hs_ => ((Kd.fC (vL.out) jF.out (by decide)).1 k_ hs_.symm).1.1) (fun hn_ => (Nat.le_trans (ax lb) hn_)), Or.elim hk_ (fun hs_ => ((Kd.fC (vL.out) jF.out (by decide)).1 k_ hs_.symm).2) (fun hn_ => (Kd.ul (g := K3) (o := .cells #[.int .i64 ay, .slice bX ae.length bN] 24 (0, 0)) (bx jF.out) k_ hn_))⟩)) (ax lb)); replace vL := ak (ro vL hb); replace jF := ak (bo jF hb); replace HB := ak (bl hb)
 (try clear hb)
 (try clear hb2)
 (try clear hk)
 (try clear hi)
 (try clear ho0)
 refine hK.out _ _ ⟨(aH jF.out 0).trans rfl, (aH jF.out 1).trans rfl⟩ (fun hHeld => ?_)
 clear hK K
 refine ol (a' := ?_) ?_ ?_
 rotate_left
 ·
  show Act.put _ (some 21) _ = _
  simp only [Act.put, sA, sZ, sS, jA, jG]
  rfl
 refine pv HT_ 7 6 ?_
 refine kN (fV HT_.out (by kernel_rfl)) ?_
 have ⟨_, _, _, _⟩ := cf2 jF; obtain ⟨Ao29, co29, eo29⟩ := Kd.En zG.out; subst eo29
 try go_wp2_with (first | ((with_reducible refine au (f := 90) rfl ?_); refine gl 24 Try.func90 #[.agg #[.int .i64 ay, .slice bX ae.length bN], .slice Ao29 zL.length co29] ?_; (with_reducible refine (bO.calls k ay _ _ ae _ _ zL false _ ?side1 ?side2 ?side3 ?side4 A7.out).mono ?_); (case side1 => exact Kd.cZ bU.out lb); (case side2 => exact eU.out); (case side3 => repeat (first | exact (Kd.l6 zG.out).2.2 | (with_reducible refine Kd.nD ?_ _) | (with_reducible refine Kd.nE ?_ _) | (with_reducible refine Kd.rq ?_))); (case side4 => exact (Kd.l6 zG.out).2.1); rintro e w30 ⟨rfl, hb⟩; refine ⟨_, rfl, ?_⟩; replace vL := ak (ro vL hb); replace zG := ak (Kd.rA (vx zG.out) hb); replace jF := ak (bo jF hb); replace HB := ak (bl hb); clear hb))
 go_ret2
 exact ⟨_, by first | rfl | (simp [dx, dz] <;> rfl) | (simp [*, dx, dz] <;> rfl), Kd.uw _ _ _ _ _, lb⟩
end Go.Proofs.Ytkdoihcjhccliaa.Q
