import Derived.Test.YtkdoihcjhccliaaK
import Derived.Test.YtkdoihcjhccliaaQ0
import Derived.Test.YtkdoihcjhccliaaQ3
namespace Go.Proofs.Ytkdoihcjhccliaa.Q
open Go.RowKit Go.Proofs.YtkdoihcjhccliaaW.PrintWords Go.Proofs.YtkdoihcjhccliaaW.PrintLast Go.Proofs.YtkdoihcjhccliaaW.PrintMore
attribute [local go_sem] dF dG eG eH cz cB dH dI   -- for this text's walks alone
set_option linter.unusedVariables false
set_option linter.unusedSimpArgs false

/-! ### bv: function 62 -/
mutual
def bv.l0 : Nat → List Int → Int → List Int → Int → Int → Int → List (S98) → Option (Int × List Int)
  | 0, _, _, _, _, _, _, _ => none
  | k + 1, x1, x2, x18, x19, x20, VU, Af => if x20 < x19 then (if 0 ≤ x20 then (if x20 < (x18.length : Int) then (if (rd x18 x20) ≥ (-4398046511104) then (if (rd x18 x20) ≤ 4398046511104 then (bv.l0 k x1 x2 x18 x19 (wrap64 (x20 + 1)) VU Af) else (some (221, ([] : List Int)))) else (some (221, ([] : List Int)))) else (none)) else (none)) else (if 0 ≤ (Af.length : Int) then (if ((Af.length : Int) : Int).toNat ≤ 35184372088832 then (bv.l1 k x1 x2 (([] : List Int)) Af (Af.length : Int) 0) else (none)) else (none))
def bv.l1 : Nat → List Int → Int → List Int → List (S98) → Int → Int → Option (Int × List Int)
  | 0, _, _, _, _, _, _ => none
  | k + 1, x1, x2, x9, x37, x38, x39 => if x39 < x38 then (if 0 ≤ x39 then (if x39 < (x37.length : Int) then (if 0 ≤ ((aa x37 x39).f0) then (if ((aa x37 x39).f0) < (x1.length : Int) then (if 0 ≤ ((aa x37 x39).f1) then (if ((aa x37 x39).f1) < (x1.length : Int) then (if x9.length < 17592186044416 then (bv.l1 k x1 x2 (x9 ++ [wrap64 ((wrap64 ((wrap64 (x2 * ((aa x37 x39).f3))) + (rd x1 ((aa x37 x39).f0)))) - (rd x1 ((aa x37 x39).f1)))]) x37 x38 (wrap64 (x39 + 1))) else (none)) else (none)) else (none)) else (none)) else (none)) else (none)) else (none)) else (some (0, x9))
end
def bv.f (k : Nat) (ay : Int) (ae : List (S98)) (l1 : List Int) (a2 : Int) : Option (Int × List Int) := if (l1.length : Int) = ay then (bv.l0 k l1 a2 l1 (l1.length : Int) 0 ay ae) else (some (221, ([] : List Int)))
def bv.T11 : Bool × List (List Nat × List Nat) := (true, [([], []), ([], []), ([], []), ([2], [2]), ([1, 3], [1, 3]), ([], []), ([], []), ([6], [6]), ([5, 7], [5, 7]), ([8], [8]), ([4, 9], [4, 9]), ([], []), ([], []), ([12], [12]), ([11, 13], [11, 13]), ([14], [14]), ([10, 15], [10, 15]), ([16], [16]), ([0, 17], [0, 17]), ([18, 18, 0, 1, 2, 3, 4, 5, 6, 7, 8, 9, 10, 11, 12, 13, 14, 15, 16, 17, 18], [0, 18])])
def bv.B11 : List Nat := [0, 0, 0, 4, 14, 0, 0, 64, 224, 480, 1022, 0, 0, 4096, 14336, 30720, 65534, 131070, 262143, 524287]
theorem bv.KG : oO .any (opsOf Try.f62 11) = bv.T11 := by kernel_rfl
theorem bv.Ed : gM bv.T11.2 bv.B11 = true := by kernel_rfl
set_option maxHeartbeats 8000000 in
set_option maxRecDepth 100000 in
theorem bv.calls (k : Nat) (ay : Int) (bX : Option Addr) (bN : Nat) (ae : List (S98)) (A1 : Option Addr) (c1 : Nat) (l1 : List Int) (a2 : Int) (r1 : Int) (r2 : List Int) (w : World) (dB : Kd.C k98 w bX ae.length ae) (dC : ae.length ≤ bN) (hr1 : Kd.C (Kd.int .i64) w A1 l1.length l1) (hc1 : l1.length ≤ c1) (h : bv.f k ay ae l1 a2 = some (r1, r2)) :
    Calls Try.prog 62 #[.agg #[.int .i64 ay, .slice bX ae.length bN], .slice A1 l1.length c1, .int .i64 a2] w fun e w' => oQ r1 (∃ v1_ : Value, e = .returned (v1_) ∧ Kd.R (Kd.int .i64) 2 w' w.heap.size (fun _ => True) v1_ r2 ∧ Below w.heap.size w w') (e = gave r1 ∧ Below w.heap.size w w') := by
 have hu24 := Try.underlying24; have hu98 := Try.underlying98; have bU := ak dB; have eU := ak dC; clear dB dC; have HR1 := ak hr1; have HC1 := ak hc1; clear hr1 hc1; have HB := ak (Below.refl w.heap.size w); have H : (if (l1.length : Int) = ay then (bv.l0 k l1 a2 l1 (l1.length : Int) 0 ay ae) else (some (221, ([] : List Int)))) = some (r1, r2) := h; clear h
 by_cases c4 : (l1.length : Int) = ay
 rotate_left
 ·
  rw [if_neg c4] at H; have c4b := bn2 c4
  simp only [Option.some.injEq, Prod.mk.injEq] at H
  obtain ⟨rfl, rfl⟩ := H
  go_enter Try.func62, Try.ntmps62
  go_wp2_with (first | ((with_reducible refine aC (N := 3) rfl ?_); refine bxe 3 #[.int .i64 ay, .slice bX ae.length bN] 24 ?_; intro SY hg w34 hbox hb; have n_ := a4 (bl hb) hbox (gw w hg) (gw w hg); clear HB; obtain ⟨HB, nK, GW147, GE147⟩ := n_; clear hb hbox hg; have ⟨_, _, _, _⟩ := cf2 nK) | ((with_reducible refine au (f := 51) rfl ?_); refine pl 17 Try.func51 #[.bool false, .int .i64 221] ?_; refine (aQ.bad 221 _).mono ?_; rintro e w' ⟨rfl, rfl⟩; refine ⟨_, rfl, ?_⟩; (repeat (first | refine fO ?_ | refine fu ?_)); exact fP rfl (oQ.no da ⟨rfl, lb⟩)))
 rw [if_pos c4] at H; have c4b := be2 c4; clear c4; have A5 := ak (show aQ.f true 221 = some () from rfl); have H' := ak H; clear H
 go_enter Try.func62, Try.ntmps62
 go_wp2_with (first | ((with_reducible refine aC (N := 3) rfl ?_); refine bxe 3 #[.int .i64 ay, .slice bX ae.length bN] 24 ?_; intro SY hg w6 hbox hb; have n_ := a4 (bl hb) hbox (gw w hg) (gw w hg); clear HB; obtain ⟨HB, nK, GW147, GE147⟩ := n_; clear hb hbox hg; have ⟨_, _, _, _⟩ := cf2 nK) | ((with_reducible refine au (f := 51) rfl ?_); refine gl 17 Try.func51 #[.bool true, .int .i64 221] ?_; (with_reducible refine (aQ.calls true 221  _ A5.out).mono ?_); rintro e w' ⟨rfl, ⟨nd, rfl⟩⟩; refine ⟨_, rfl, ?_⟩))
 go_loopg [20] k (fun kq v20 w' => ∃ (rT : Int), v20 = .int .i64 rT ∧ ag (bv.l0 kq l1 a2 l1 (l1.length : Int) rT ay ae = some (r1, r2)) ∧ ag (kq ≤ k) ∧ ag (w'.heap[SY]? = some (.cells #[.int .i64 ay, (.slice bX ae.length bN)] 24 (0, 0))) ∧ ag (Below w.heap.size w w'))
 case atStart => exact ⟨(0), sr, H', ⟨Nat.le_refl _⟩, xb nK, ⟨lb⟩⟩
 clear H'; obtain ⟨rT, rfl, HA, HK1, nK, HB⟩ := hrel
 cases gk with
 | zero => exact absurd HA.out (by simp [bv.l0])
 | succ k1 => ?_
 have H := HA.out; clear HA
 simp only [bv.l0] at H
 by_cases c8 : rT < (l1.length : Int)
 ·
  rw [if_pos c8] at H; have c8b0 := decide_eq_true c8; clear c8; replace H := if2 H; obtain ⟨c9b0, c10b0, H⟩ := H
  by_cases c11 : (rd l1 rT) ≥ (-4398046511104)
  rotate_left
  ·
   rw [if_neg c11] at H; have c11b0 := decide_eq_false c11; clear c11
   simp only [Option.some.injEq, Prod.mk.injEq] at H
   obtain ⟨rfl, rfl⟩ := H; obtain ⟨p148, q148, abq, abr, uA⟩ := wq (Kd.bB HR1.out rT); cases abr
   (try replace uA := hbc HB uA)
   go_wp2_with (first | ((with_reducible refine au (f := 51) rfl ?_); refine pl 30 Try.func51 #[.bool false, .int .i64 221] ?_; refine (aQ.bad 221 _).mono ?_; rintro e w' ⟨rfl, rfl⟩; refine ⟨_, rfl, ?_⟩; (repeat (first | refine fO ?_ | refine fu ?_)); exact fP rfl (oQ.no da ⟨rfl, lb⟩)))
  rw [if_pos c11] at H; have c11b0 := decide_eq_true c11; clear c11
  by_cases c12 : (rd l1 rT) ≤ 4398046511104
  rotate_left
  ·
   rw [if_neg c12] at H; have c12b0 := decide_eq_false c12; clear c12
   simp only [Option.some.injEq, Prod.mk.injEq] at H
   obtain ⟨rfl, rfl⟩ := H; obtain ⟨p148, q148, abq, abr, uA⟩ := wq (Kd.bB HR1.out rT); cases abr
   (try replace uA := hbc HB uA)
   go_wp2_with (first | ((with_reducible refine au (f := 51) rfl ?_); refine pl 30 Try.func51 #[.bool false, .int .i64 221] ?_; refine (aQ.bad 221 _).mono ?_; rintro e w' ⟨rfl, rfl⟩; refine ⟨_, rfl, ?_⟩; (repeat (first | refine fO ?_ | refine fu ?_)); exact fP rfl (oQ.no da ⟨rfl, lb⟩)))
  rw [if_pos c12] at H; have c12b0 := decide_eq_true c12; clear c12; have A13 := ak (show aQ.f true 221 = some () from rfl); have H' := ak H; clear H; obtain ⟨p148, q148, abq, abr, uA⟩ := wq (Kd.bB HR1.out rT); cases abr
  (try replace uA := hbc HB uA)
  go_wp2_with (first | ((with_reducible refine au (f := 51) rfl ?_); refine gl 30 Try.func51 #[.bool true, .int .i64 221] ?_; (with_reducible refine (aQ.calls true 221  _ A13.out).mono ?_); rintro e w' ⟨rfl, ⟨nd, rfl⟩⟩; refine ⟨_, rfl, ?_⟩))
  go_roundg k1
  case measure => have := HK1.out; omega
  case rel => exact ⟨(wrap64 (rT + 1)), sr, H', ⟨by have := HK1.out; omega⟩, xb nK, ⟨lb⟩⟩
 rw [if_neg c8] at H; have c8b0 := decide_eq_false c8; clear c8; replace H := ife H; obtain ⟨c14b0, c14b1, H⟩ := H; replace H := ife H; obtain ⟨c15b0, c15b1, H⟩ := H; obtain ⟨y149, VV⟩ : ∃ y_ : List Int, y_ = (([] : List Int)) := ⟨_, rfl⟩; replace H : (bv.l1 k1 l1 a2 y149 ae (ae.length : Int) 0) = some (r1, r2) := by first | (rw [VV]; exact H) | exact H
 have abt := ak VV; clear VV; have H' := ak H; clear H; have ⟨_, _, _, _⟩ := cf2 nK
 go_wp2_with (first | ((with_reducible refine aC (N := 35) rfl ?_); refine Kd.Vw (Kd.int .i64) _ 2 rfl (N := 35) rfl 25 _ _ rfl (ae.length : Int) rfl rfl Try.underlying25 (.int .i64 0) 8 wW rfl (by decide) (by omega) 0 (ok := fun _ => True) (okp := fun _ => True) rfl (fun _ hk => hk) trivial (oda) (Nat.le_trans (Nat.mul_le_mul_right _ (oda : (ae.length : Int).toNat ≤ 35184372088832)) (by omega)) (Below.refl _ _) (Nat.le_refl _) ?_; intro v150 w17 ho18 hb hg_ hnew_; clear hg_ hnew_; (first | rw [← abt.out] at ho18 | (simp only [Int.reduceToNat] at ho18; rw [← abt.out] at ho18)); have n_ := a3 (Kd.bY ho18 (ax lb)) (bo nK hb) (bl hb); clear nK HB; obtain ⟨HO151, nK, HB⟩ := n_; clear hb ho18; have ⟨_, _, _, _⟩ := cf2 nK))
 go_loopg [9, 39] k1 (fun kq v9 v39 w' => ∃ (eP : List Int) (gN : Int), v39 = .int .i64 gN ∧ ag (bv.l1 kq l1 a2 eP ae (ae.length : Int) gN = some (r1, r2)) ∧ ag (kq ≤ k1) ∧ ag (Kd.R (Kd.int .i64) 2 w' w.heap.size (fun _ => True) v9 eP) ∧ ag (w'.heap[SY]? = some (.cells #[.int .i64 ay, (.slice bX ae.length bN)] 24 (0, 0))) ∧ ag (Below w.heap.size w w'))
 case atStart => exact ⟨(y149), (0), sr, H', ⟨Nat.le_refl _⟩, ⟨rx HO151.out⟩, xb nK, ⟨lb⟩⟩
 clear H'; obtain ⟨eP, gN, rfl, HA, HK2, IM, nK, HB⟩ := hrel
 cases gk with
 | zero => exact absurd HA.out (by simp [bv.l1])
 | succ k2 => ?_
 have H := HA.out; clear HA
 simp only [bv.l1] at H
 by_cases c20 : gN < (ae.length : Int)
 rotate_left
 ·
  rw [if_neg c20] at H; have c20b0 := decide_eq_false c20; clear c20
  simp only [Option.some.injEq, Prod.mk.injEq] at H
  obtain ⟨rfl, rfl⟩ := H
  go_wp2
  go_ret
  exact oQ.ok ⟨_, by first | rfl | (simp [dx, dz] <;> rfl) | (simp [*, dx, dz] <;> rfl), by exact rx IM.out, lb⟩
 rw [if_pos c20] at H; have c20b0 := decide_eq_true c20; clear c20; replace H := if3 H; obtain ⟨c21b0, c22b0, c23b0, H⟩ := H; replace H := if3 H; obtain ⟨c24b0, c25b0, c26b0, H⟩ := H; replace H := ifn H; obtain ⟨c27, H⟩ := H; have LMc27 := ak c27; clear c27; obtain ⟨y156, VW⟩ : ∃ y_ : List Int, y_ = (eP ++ [wrap64 ((wrap64 ((wrap64 (a2 * ((aa ae gN).f3))) + (rd l1 ((aa ae gN).f0)))) - (rd l1 ((aa ae gN).f1)))]) := ⟨_, rfl⟩; replace H : (bv.l1 k2 l1 a2 y156 ae (ae.length : Int) (wrap64 (gN + 1))) = some (r1, r2) := by first | (rw [VW]; exact H) | exact H
 have Ny156 := ak VW; clear VW; have H' := ak H; clear H; obtain ⟨p152, q152, ad152, e152, Na, Nb, Nc, Nf⟩ := wq (dU bU.out gN); cases e152
 (try replace Na := hbc HB Na)
 (try replace Nb := hbc HB Nb)
 (try replace Nc := hbc HB Nc)
 (try replace Nf := hbc HB Nf)
 try go_wp2_with (first | ((with_reducible refine aC (N := 11) rfl ?_); refine bxe 11 #[.int .i64 0, .int .i64 0, .int .i64 0, .int .i64 0] 98 ?_; intro pG hg w28 hbox hb; have n_ := a8 (ro IM hb) (bo nK hb) (bl hb) hbox (gw w hg) (gw w hg) (nl hg nK) (nr hg nK); clear IM nK HB; obtain ⟨IM, nK, HB, pV, GW153, GE153, abu, Ng⟩ := n_; clear hb hbox hg; have ⟨_, _⟩ := nn Ng; have ⟨_, _, _, _, _, _, _, _⟩ := cf4 pV))
 have n0_ : ag (Kd.R (Kd.int .i64) 2 ((((w28.setCell ⟨pG, 0, none⟩ (.int .i64 ((aa ae gN).f0))).setCell ⟨pG, 1, none⟩ (.int .i64 ((aa ae gN).f1))).setCell ⟨pG, 2, none⟩ (.int .i64 ((aa ae gN).f2))).setCell ⟨pG, 3, none⟩ (.int .i64 ((aa ae gN).f3))) w.heap.size (fun _ => True) u9 eP) := ⟨by exact rx (Kd.cO (Kd.dN (p := ⟨pG, 3, none⟩) (Kd.dN (p := ⟨pG, 2, none⟩) (Kd.dN (p := ⟨pG, 1, none⟩) (Kd.dN (p := ⟨pG, 0, none⟩) (Kd.fC IM.out pV.out (by decide)) (fun _ hk => hk.2) (.int .i64 ((aa ae gN).f0))) (fun _ hk => hk.2) (.int .i64 ((aa ae gN).f1))) (fun _ hk => hk.2) (.int .i64 ((aa ae gN).f2))) (fun _ hk => hk.2) (.int .i64 ((aa ae gN).f3))) (fun _ hk => trivial))⟩
 have n1_ : ag (((((w28.setCell ⟨pG, 0, none⟩ (.int .i64 ((aa ae gN).f0))).setCell ⟨pG, 1, none⟩ (.int .i64 ((aa ae gN).f1))).setCell ⟨pG, 2, none⟩ (.int .i64 ((aa ae gN).f2))).setCell ⟨pG, 3, none⟩ (.int .i64 ((aa ae gN).f3))).heap[SY]? = some (.cells #[.int .i64 ay, .slice (some ad152) ae.length bN] 24 (0, 0))) := ⟨bz⟩
 have n2_ : ag (((((w28.setCell ⟨pG, 0, none⟩ (.int .i64 ((aa ae gN).f0))).setCell ⟨pG, 1, none⟩ (.int .i64 ((aa ae gN).f1))).setCell ⟨pG, 2, none⟩ (.int .i64 ((aa ae gN).f2))).setCell ⟨pG, 3, none⟩ (.int .i64 ((aa ae gN).f3))).heap[pG]? = some (.cells #[.int .i64 ((aa ae gN).f0), .int .i64 ((aa ae gN).f1), .int .i64 ((aa ae gN).f2), .int .i64 ((aa ae gN).f3)] 98 (0, 0))) := ⟨bz⟩
 have n3_ : ag (Below w.heap.size w ((((w28.setCell ⟨pG, 0, none⟩ (.int .i64 ((aa ae gN).f0))).setCell ⟨pG, 1, none⟩ (.int .i64 ((aa ae gN).f1))).setCell ⟨pG, 2, none⟩ (.int .i64 ((aa ae gN).f2))).setCell ⟨pG, 3, none⟩ (.int .i64 ((aa ae gN).f3)))) := ⟨lb⟩
 (try clear IM)
 (try clear nK)
 (try clear pV)
 (try clear HB)
 generalize ((((w28.setCell ⟨pG, 0, none⟩ (.int .i64 ((aa ae gN).f0))).setCell ⟨pG, 1, none⟩ (.int .i64 ((aa ae gN).f1))).setCell ⟨pG, 2, none⟩ (.int .i64 ((aa ae gN).f2))).setCell ⟨pG, 3, none⟩ (.int .i64 ((aa ae gN).f3))) = w31 at n0_ n1_ n2_ n3_ ⊢
 have IM := n0_; have nK := n1_; have pV := n2_; have HB := n3_; clear n0_ n1_ n2_ n3_; have n_ := a4 (Kd.fH IM.out) (aK nK.out) (aK pV.out) (bJ HB.out); clear IM nK pV HB; obtain ⟨IM, nK, pV, HB⟩ := n_; obtain ⟨p154, q154, ad154, e154, EE⟩ := wq (Kd.bB HR1.out ((aa ae gN).f0)); have EF := EE; cases e154
 (try replace EE := hbc HB EE); obtain ⟨p155, q155, ad155, e155, EG⟩ := wq (Kd.bB HR1.out ((aa ae gN).f1)); have EH := EG
 obtain rfl : ad154 = ad155 := (by injection e155)
 (try replace EG := hbc HB EG)
 refine stC 20 [] (cX (bc0 pV) (cX (bc1 pV) (cX (bc2 pV) (cX (bc3 pV) (cX (hbc HB EF) (cY (hbc HB EH))))))) bv.KG bv.Ed fun hHeld HT_ HW_ => ?_
 generalize w31.drew = w32 at IM nK pV HB EE EG hHeld ⊢
 refine pv HT_ 0 43 ?_; refine pv HT_ 1 44 ?_; refine pv HT_ 2 45 ?_; refine pv HT_ 5 48 ?_; refine pv HT_ 6 49 ?_; refine pv HT_ 11 54 ?_; refine pv HT_ 12 55 ?_; refine tv HT_ HW_ hHeld 3 46 ?_; refine pv HT_ 4 47 ?_; refine tv HT_ HW_ hHeld 7 50 ?_; refine pv HT_ 8 51 ?_; refine tv HT_ HW_ hHeld 9 52 ?_; refine pv HT_ 10 53 ?_; refine tv HT_ HW_ hHeld 13 56 ?_; refine pv HT_ 14 57 ?_; refine tv HT_ HW_ hHeld 15 58 ?_; refine pv HT_ 16 59 ?_
 refine wT (i := 17) (N := some 60) #[T, T, T, T, T, T, T, T, T, T, T, T, T, T, T, T, T, T, F, F] rfl rfl (gP HT_.out (by kernel_rfl)) (by decide) (fun K hK => ?_)
 refine zV (w1 := ?_) (v := ?_) (by rfl) rfl ?_ ?_
 rotate_left 2
 ·
  go_simp
  constructor
  ·
   rfl
  ·
   rfl
 refine hK.out _ _ ⟨(aH (bg pV.out _) 0).trans rfl, (aH (bg pV.out _) 1).trans rfl, (aH (bg pV.out _) 2).trans rfl, (aH (bg pV.out _) 3).trans rfl, (World.cell?_alloc_lt _ _ _ (World.block_lt_of_cell? _ _ ((hbc HB EF)))).trans ((hbc HB EF)), (World.cell?_alloc_lt _ _ _ (World.block_lt_of_cell? _ _ ((hbc HB EH)))).trans ((hbc HB EH))⟩ (fun hHeld => ?_)
 clear hK K
 refine ol (a' := ?_) ?_ ?_
 rotate_left
 ·
  show Act.put _ (some 60) _ = _
  simp only [Act.put, sA, sZ, sS, jA, jG]
  rfl
 refine wT (i := 18) (N := some 61) #[T, T, T, T, T, T, T, T, T, T, T, T, T, T, T, T, T, T, T, F] rfl rfl (gP HT_.out (by kernel_rfl)) (by decide) (fun K hK => ?_)
 refine Kd.kV (Kd.int .i64) (w0 := w) w.heap.size (by rfl) (.tmp 43) (.tmp 60) 25 2 (.int .i64 0) 8 rfl Try.underlying25 wW rfl (by decide) (by omega) u9 eP (wrap64 ((wrap64 ((wrap64 (a2 * ((aa ae gN).f3))) + (rd l1 ((aa ae gN).f0)))) - (rd l1 ((aa ae gN).f1)))) [.int .i64 (wrap64 ((wrap64 ((wrap64 (a2 * ((aa ae gN).f3))) + (rd l1 ((aa ae gN).f0)))) - (rd l1 ((aa ae gN).f1))))] (fun _ => True) (fun _ => False) rfl rfl ?aP (fun _ hk => hk.elim) ?aF ?aO ?aB ?aS ?aL ?_
 (case aP => exact rfl)
 (case aB => exact lb)
 (case aF => exact (fun _ _ => trivial))
 (case aO => exact (rx IM.out))
 (case aS => exact (ax lb))
 (case aL => have := LMc27.out; omega)
 intro v157 w33 ho hb hg hat; rw [← Ny156.out] at ho
 have n_ := a4 (bH (bx nK.out) hg (Kd.gQ IM.out nK.out (by decide))) (bH (bx pV.out) hg (Kd.gQ IM.out pV.out (by decide))) hb ho; clear nK pV HB IM; obtain ⟨nK, pV, HB, HO158⟩ := n_
 clear ho hb hg hat
 refine hK.out _ _ ⟨(aH pV.out 0).trans rfl, (aH pV.out 1).trans rfl, (aH pV.out 2).trans rfl, (aH pV.out 3).trans rfl, (hbc HB EF), (hbc HB EH)⟩ (fun hHeld => ?_)
 clear hK K
 refine ol (a' := ?_) ?_ ?_
 rotate_left
 ·
  show Act.put _ (some 61) _ = _
  simp only [Act.put, sA, sZ, sS, jA, jG]
  rfl
 refine pv HT_ 19 9 ?_
 refine kN (fV HT_.out (by kernel_rfl)) ?_
 try go_wp2
 go_roundg k2
 case measure => have := HK1.out; have := HK2.out; omega
 case rel => exact ⟨(y156), (wrap64 (gN + 1)), sr, H', ⟨by have := HK1.out; have := HK2.out; omega⟩, ⟨rx HO158.out⟩, xb nK, ⟨lb⟩⟩
theorem bv.ok (k : Nat) (ay : Int) (bX : Option Addr) (bN : Nat) (ae : List (S98)) (A1 : Option Addr) (c1 : Nat) (l1 : List Int) (a2 : Int) (r2 : List Int) (w : World) (dB : Kd.C k98 w bX ae.length ae) (dC : ae.length ≤ bN) (hr1 : Kd.C (Kd.int .i64) w A1 l1.length l1) (hc1 : l1.length ≤ c1) (h : bv.f k ay ae l1 a2 = some (0, r2)) :
    Calls Try.prog 62 #[.agg #[.int .i64 ay, .slice bX ae.length bN], .slice A1 l1.length c1, .int .i64 a2] w fun e w' => ∃ v1_ : Value, e = .returned (v1_) ∧ Kd.R (Kd.int .i64) 2 w' w.heap.size (fun _ => True) v1_ r2 ∧ Below w.heap.size w w' :=
 (bv.calls k ay bX bN ae A1 c1 l1 a2 0 r2 w dB dC hr1 hc1 h).mono fun e w' h_ => h_.good rfl
theorem bv.bad (k : Nat) (ay : Int) (bX : Option Addr) (bN : Nat) (ae : List (S98)) (A1 : Option Addr) (c1 : Nat) (l1 : List Int) (a2 : Int) (r1 : Int) (r2 : List Int) (w : World) (dB : Kd.C k98 w bX ae.length ae) (dC : ae.length ≤ bN) (hr1 : Kd.C (Kd.int .i64) w A1 l1.length l1) (hc1 : l1.length ≤ c1) (h : bv.f k ay ae l1 a2 = some (r1, r2)) (hne_ : r1 ≠ 0) :
    Calls Try.prog 62 #[.agg #[.int .i64 ay, .slice bX ae.length bN], .slice A1 l1.length c1, .int .i64 a2] w fun e w' => e = gave r1 ∧ Below w.heap.size w w' :=
 (bv.calls k ay bX bN ae A1 c1 l1 a2 r1 r2 w dB dC hr1 hc1 h).mono fun e w' h_ => h_.bad hne_

end Go.Proofs.Ytkdoihcjhccliaa.Q
