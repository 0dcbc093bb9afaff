import Derived.Test.YtkdoihcjhccliaaK
import Derived.Test.YtkdoihcjhccliaaQ0
import Derived.Test.YtkdoihcjhccliaaQ3
import Derived.Test.YtkdoihcjhccliaaQ5
namespace Go.Proofs.Ytkdoihcjhccliaa.Q
open Go.RowKit Go.Proofs.YtkdoihcjhccliaaW.PrintWords Go.Proofs.YtkdoihcjhccliaaW.PrintLast Go.Proofs.YtkdoihcjhccliaaW.PrintMore
attribute [local go_sem] dF dG eG eH cz cB dH dI   -- for this text's walks alone
set_option linter.unusedVariables false
set_option linter.unusedSimpArgs false

/-! ### aZ: function 69 -/
def aZ.l0 : Nat → Bool → Bool → List (S98) → Int → Int → List Bool → Option (Int)
  | 0, _, _, _, _, _, _ => none
  | k + 1, x2, x3, x15, x16, x17, kF => if x17 < x16 then (if 0 ≤ x17 then (if x17 < (x15.length : Int) then (if 0 ≤ ((aa x15 x17).f0) then (if ((aa x15 x17).f0) < (kF.length : Int) then (if (fF false kF ((aa x15 x17).f0) = true) then (if 0 ≤ ((aa x15 x17).f1) then (if ((aa x15 x17).f1) < (kF.length : Int) then (if fF false kF ((aa x15 x17).f1) = true then (if x2 = true then (if x3 = true then (aZ.l0 k true true x15 x16 (wrap64 (x17 + 1)) kF) else (aZ.l0 k true (!(fF false kF ((aa x15 x17).f0))) x15 x16 (wrap64 (x17 + 1)) kF)) else (if x3 = true then (aZ.l0 k (fF false kF ((aa x15 x17).f1)) true x15 x16 (wrap64 (x17 + 1)) kF) else (aZ.l0 k (fF false kF ((aa x15 x17).f1)) (!(fF false kF ((aa x15 x17).f0))) x15 x16 (wrap64 (x17 + 1)) kF))) else (some 221)) else (none)) else (none)) else (if x2 = true then (if x3 = true then (aZ.l0 k true true x15 x16 (wrap64 (x17 + 1)) kF) else (aZ.l0 k true (!(fF false kF ((aa x15 x17).f0))) x15 x16 (wrap64 (x17 + 1)) kF)) else (if 0 ≤ ((aa x15 x17).f1) then (if ((aa x15 x17).f1) < (kF.length : Int) then (if x3 = true then (aZ.l0 k (fF false kF ((aa x15 x17).f1)) true x15 x16 (wrap64 (x17 + 1)) kF) else (aZ.l0 k (fF false kF ((aa x15 x17).f1)) (!(fF false kF ((aa x15 x17).f0))) x15 x16 (wrap64 (x17 + 1)) kF)) else (none)) else (none)))) else (none)) else (none)) else (none)) else (none)) else (if x2 = true then (if x3 = true then (some 0) else (some 221)) else (some 221))
def aZ.f (k : Nat) (ay : Int) (ae : List (S98)) (l1 : List Bool) : Option (Int) := (dM.f k ay ae).bind fun KO => (if KO = 0 then (if (l1.length : Int) = ay then (aZ.l0 k false false ae (ae.length : Int) 0 l1) else (some 221)) else (some KO))
set_option maxHeartbeats 8000000 in
set_option maxRecDepth 100000 in
theorem aZ.calls (k : Nat) (ay : Int) (bX : Option Addr) (bN : Nat) (ae : List (S98)) (A1 : Option Addr) (c1 : Nat) (l1 : List Bool) (r : Int) (w wc0 : World) (KP KQ gbx : Nat) (dB : Kd.C k98 w bX ae.length ae) (dC : ae.length ≤ bN) (hr1 : Kd.C Kd.bool w A1 l1.length l1) (hc1 : l1.length ≤ c1) (hB : Below w.heap.size w wc0) (hb0_ : wc0.heap[KP]? = some (.cells #[.int .i64 ay, .slice bX ae.length bN] 24 (0, 0))) (hg0_ : w.heap.size ≤ KP) (hb1_ : wc0.heap[KQ]? = some (.cells #[.slice A1 l1.length c1] 26 (0, 0))) (hg1_ : w.heap.size ≤ KQ) (hb2_ : wc0.heap[gbx]? = some (.cells #[.int .i64 0] 30 (0, 0))) (hg2_ : w.heap.size ≤ gbx) (hn0_1_ : KP ≠ KQ) (hn0_2_ : KP ≠ gbx) (hn1_2_ : KQ ≠ gbx) (h : aZ.f k ay ae l1 = some r) (hr_ : r = 0 := by first | rfl | assumption | omega) :
    Calls Try.prog 69 #[.pointer (some ⟨KP, 0, none⟩), .pointer (some ⟨KQ, 0, none⟩)] wc0 fun e w' => oQ r (e = .returned (.tuple #[])) (e = gave r) ∧ w'.heap[gbx]? = some (.cells #[.int .i64 0] 30 (0, 0)) ∧ Below w.heap.size w w' := by
 have hu24 := Try.underlying24; have hu98 := Try.underlying98; have bU := ak dB; have eU := ak dC; clear dB dC; have HR1 := ak hr1; have HC1 := ak hc1; clear hr1 hc1; have HB := ak hB; clear hB; have jO := ak hb0_; have GW526 := ak hg0_; have GE526 := ak hg0_; have jg := ak hb1_; have GW527 := ak hg1_; have GE527 := ak hg1_; have bC := ak hb2_; have SS := ak hg2_; have KD := ak hg2_; have OU := ak hn0_1_; have o5 := ak hn0_1_.symm; have OV := ak hn0_2_; have acE := ak hn0_2_.symm; have nT := ak hn1_2_; have acF := ak hn1_2_.symm; clear hb0_ hg0_ hb1_ hg1_ hb2_ hg2_ hn0_1_ hn0_2_ hn1_2_; have H : ((dM.f k ay ae).bind fun KO => (if KO = 0 then (if (l1.length : Int) = ay then (aZ.l0 k false false ae (ae.length : Int) 0 l1) else (some 221)) else (some KO))) = some r := h; clear h; replace H := Option.bind_eq_some_iff.mp H; obtain ⟨KO, A30, H⟩ := H
 by_cases c4 : KO = 0
 rotate_left
 ·
  rw [if_neg c4] at H; have A3 := ak A30; clear A30; obtain rfl := Option.some.inj H; exact nb hr_
 subst c4
 replace H := ip H; have A3 := ak A30; clear A30
 by_cases c5 : (l1.length : Int) = ay
 rotate_left
 ·
  rw [if_neg c5] at H; have c5b := bn2 c5; obtain rfl := Option.some.inj H; exact nb hr_
 rw [if_pos c5] at H; have c5b := be2 c5; clear c5; have A6 := ak (show aQ.f true 221 = some () from rfl); have H' := ak H; clear H; have ⟨_, _⟩ := nn OU; have ⟨_, _⟩ := nn OV; have ⟨_, _, _, _⟩ := cf2 jO
 go_enter Try.func69, Try.ntmps69
 go_wp2_with (first | ((with_reducible refine au (f := 50) rfl ?_); refine gl 7 Try.func50 #[.agg #[.int .i64 ay, .slice bX ae.length bN]] ?_; (with_reducible refine (dM.ok k ay _ _ ae  _ (Kd.cZ bU.out lb) eU.out A3.out).mono ?_); rintro e w10 ⟨rfl, hb⟩; refine ⟨_, rfl, ?_⟩; have n_ := a4 (bo jO hb) (bo jg hb) (bI (g := gbx) (o := .cells #[.int .i64 0] 30 (0, 0)) (bx bC.out) hb) (bl hb); clear jO jg bC HB; obtain ⟨jO, jg, bC, HB⟩ := n_; clear hb; have ⟨_, _⟩ := nn nT; have ⟨_, _⟩ := cf1 jg; have ⟨_, _, _, _⟩ := cf2 jO) | ((with_reducible refine au (f := 51) rfl ?_); refine gl 13 Try.func51 #[.bool true, .int .i64 221] ?_; (with_reducible refine (aQ.calls true 221  _ A6.out).mono ?_); rintro e w' ⟨rfl, ⟨nd, rfl⟩⟩; refine ⟨_, rfl, ?_⟩))
 go_loopg [2, 3, 17] k (fun kq v2 v3 v17 w' => ∃ (Sj : Bool) (ny : Bool) (bF : Int), v2 = .bool Sj ∧ v3 = .bool ny ∧ v17 = .int .i64 bF ∧ ag (aZ.l0 kq Sj ny ae (ae.length : Int) bF l1 = some r) ∧ ag (kq ≤ k) ∧ ag (w'.heap[KP]? = some (.cells #[.int .i64 ay, (.slice bX ae.length bN)] 24 (0, 0))) ∧ ag (w'.heap[KQ]? = some (.cells #[(.slice A1 l1.length c1)] 26 (0, 0))) ∧ ag (w'.heap[gbx]? = some (.cells #[.int .i64 0] 30 (0, 0))) ∧ ag (Below w.heap.size w w'))
 case atStart => exact ⟨(false), (false), (0), sr, sr, sr, H', ⟨Nat.le_refl _⟩, xb jO, xb jg, xb bC, ⟨lb⟩⟩
 clear H'; obtain ⟨Sj, ny, bF, rfl, rfl, rfl, HA, HK1, jO, jg, bC, HB⟩ := hrel
 cases gk with
 | zero => exact absurd HA.out (by simp [aZ.l0])
 | succ k1 => ?_
 have H := HA.out; clear HA
 simp only [aZ.l0] at H
 by_cases c14 : bF < (ae.length : Int)
 rotate_left
 ·
  rw [if_neg c14] at H; have c14b0 := decide_eq_false c14; clear c14
  by_cases c107 : Sj = true
  rotate_left
  ·
   replace c107 := Bool.eq_false_iff.mpr c107; subst c107
   have H1 : (some 221) = some r := by rw [if_neg (show ¬ (false = true) by decide)] at H; exact H
   clear H; have H := H1; clear H1; obtain rfl := Option.some.inj H; exact nb hr_
  subst c107
  replace H := ip H
  by_cases c108 : ny = true
  rotate_left
  ·
   replace c108 := Bool.eq_false_iff.mpr c108; subst c108
   have H1 : (some 221) = some r := by rw [if_neg (show ¬ (false = true) by decide)] at H; exact H
   clear H; have H := H1; clear H1; obtain rfl := Option.some.inj H; exact nb hr_
  subst c108
  replace H := ip H; have A109 := ak (show aQ.f true 221 = some () from rfl); obtain rfl := Option.some.inj H
  go_wp2_with (first | ((with_reducible refine au (f := 51) rfl ?_); refine gl 57 Try.func51 #[.bool true, .int .i64 221] ?_; (with_reducible refine (aQ.calls true 221  _ A109.out).mono ?_); rintro e w' ⟨rfl, ⟨nd, rfl⟩⟩; refine ⟨_, rfl, ?_⟩))
  first | go_end0 | ((try simp only [Exit.inBlock, Exit.then]); refine bodyPost_ret (results_none rfl _ _ _) rfl ?_)
  exact ⟨oQ.ok (by first | rfl | (simp <;> rfl)), (bx bC.out), lb⟩
 rw [if_pos c14] at H; have c14b0 := decide_eq_true c14; clear c14; replace H := if3 H; obtain ⟨c15b0, c16b0, c17b0, H⟩ := H; replace H := ifd H; obtain ⟨c18b0, H⟩ := H; obtain ⟨bq19, hbq19⟩ : ∃ b_ : Bool, b_ = (fF false l1 ((aa ae bF).f0)) := ⟨_, rfl⟩; replace H : (if (bq19 = true) then (if 0 ≤ ((aa ae bF).f1) then (if ((aa ae bF).f1) < (l1.length : Int) then (if fF false l1 ((aa ae bF).f1) = true then (if Sj = true then (if ny = true then (aZ.l0 k1 true true ae (ae.length : Int) (wrap64 (bF + 1)) l1) else (aZ.l0 k1 true (!(bq19)) ae (ae.length : Int) (wrap64 (bF + 1)) l1)) else (if ny = true then (aZ.l0 k1 (fF false l1 ((aa ae bF).f1)) true ae (ae.length : Int) (wrap64 (bF + 1)) l1) else (aZ.l0 k1 (fF false l1 ((aa ae bF).f1)) (!(bq19)) ae (ae.length : Int) (wrap64 (bF + 1)) l1))) else (some 221)) else (none)) else (none)) else (if Sj = true then (if ny = true then (aZ.l0 k1 true true ae (ae.length : Int) (wrap64 (bF + 1)) l1) else (aZ.l0 k1 true (!(bq19)) ae (ae.length : Int) (wrap64 (bF + 1)) l1)) else (if 0 ≤ ((aa ae bF).f1) then (if ((aa ae bF).f1) < (l1.length : Int) then (if ny = true then (aZ.l0 k1 (fF false l1 ((aa ae bF).f1)) true ae (ae.length : Int) (wrap64 (bF + 1)) l1) else (aZ.l0 k1 (fF false l1 ((aa ae bF).f1)) (!(bq19)) ae (ae.length : Int) (wrap64 (bF + 1)) l1)) else (none)) else (none)))) = some r := by rw [← hbq19] at H; exact H
 have Nbq19 := ak hbq19; clear hbq19
 by_cases c20 : (bq19 = true)
 rotate_left
 ·
  replace c20 := Bool.eq_false_iff.mpr c20; subst c20
  have H1 : (if Sj = true then (if ny = true then (aZ.l0 k1 true true ae (ae.length : Int) (wrap64 (bF + 1)) l1) else (aZ.l0 k1 true (!(false)) ae (ae.length : Int) (wrap64 (bF + 1)) l1)) else (if 0 ≤ ((aa ae bF).f1) then (if ((aa ae bF).f1) < (l1.length : Int) then (if ny = true then (aZ.l0 k1 (fF false l1 ((aa ae bF).f1)) true ae (ae.length : Int) (wrap64 (bF + 1)) l1) else (aZ.l0 k1 (fF false l1 ((aa ae bF).f1)) (!(false)) ae (ae.length : Int) (wrap64 (bF + 1)) l1)) else (none)) else (none))) = some r := by rw [if_neg (show ¬ (false = true) by decide)] at H; exact H
  clear H; have H := H1; clear H1; have A69 := ak (show aQ.f true 221 = some () from rfl)
  by_cases c70 : Sj = true
  ·
   subst c70
   replace H := ip H
   by_cases c71 : ny = true
   ·
    subst c71
    replace H := ip H; have H' := ak H; clear H; obtain ⟨XE, XF, I9, Ja, jP, jQ, jR, jS⟩ := wq (dU bU.out bF); cases Ja
    (try replace jP := hbc HB jP)
    (try replace jQ := hbc HB jQ)
    (try replace jR := hbc HB jR)
    (try replace jS := hbc HB jS)
    go_wp2_with (first | ((with_reducible refine aC (N := 5) rfl ?_); refine bxe 5 #[.int .i64 0, .int .i64 0, .int .i64 0, .int .i64 0] 98 ?_; intro fo hg w72 hbox hb; have n_ := a13 (bo jO hb) (bo jg hb) (bI (g := gbx) (o := .cells #[.int .i64 0] 30 (0, 0)) (bx bC.out) hb) (bl hb) hbox (gw w hg) (gw w hg) (nl hg jO) (nr hg jO) (nl hg jg) (nr hg jg) (by rw [hg]; exact Nat.ne_of_lt (eB (g := gbx) (o := .cells #[.int .i64 0] 30 (0, 0)) (bx bC.out)) : gbx ≠ fo) (by rw [hg]; exact Nat.ne_of_gt (eB (g := gbx) (o := .cells #[.int .i64 0] 30 (0, 0)) (bx bC.out)) : fo ≠ gbx); clear jO jg bC HB; obtain ⟨jO, jg, bC, HB, xu, fM, Jb, qA, jT, qB, jU, qC, jV⟩ := n_; clear hb hbox hg; have ⟨_, _⟩ := nn jT; have ⟨_, _⟩ := nn jU; have ⟨_, _⟩ := nn jV; have ⟨_, _, _, _, _, _, _, _⟩ := cf4 xu; have ⟨_, _⟩ := nn o5; have ⟨_, _⟩ := nn nT; have ⟨_, _⟩ := cf1 jg; obtain ⟨XG, XH, sU, Jc, bq⟩ := wq (Kd.gu HR1.out ((aa ae bF).f0)); (try rw [← Nbq19.out] at bq); cases Jc; have jW := an bq fM; have jX := an bq fM; have jY := an bq fM; have jZ := an bq fM; replace bq := hbc HB bq; replace bq := cg ⟨fo, 0, none⟩ (.int .i64 ((aa ae bF).f0)) bq jW; replace bq := cg ⟨fo, 1, none⟩ (.int .i64 ((aa ae bF).f1)) bq jX; replace bq := cg ⟨fo, 2, none⟩ (.int .i64 ((aa ae bF).f2)) bq jY; replace bq := cg ⟨fo, 3, none⟩ (.int .i64 ((aa ae bF).f3)) bq jZ; clear jW; clear jX; clear jY; clear jZ) | ((with_reducible refine au (f := 51) rfl ?_); refine gl 34 Try.func51 #[.bool true, .int .i64 221] ?_; (with_reducible refine (aQ.calls true 221  _ A69.out).mono ?_); rintro e w' ⟨rfl, ⟨nd, rfl⟩⟩; refine ⟨_, rfl, ?_⟩))
    go_roundg k1
    case measure => have := HK1.out; omega
    case rel => exact ⟨(true), (true), (wrap64 (bF + 1)), sr, sr, sr, H', ⟨by have := HK1.out; omega⟩, ⟨bz⟩, ⟨bz⟩, ⟨bz⟩, ⟨lb⟩⟩
   replace c71 := Bool.eq_false_iff.mpr c71; subst c71
   have H1 : (aZ.l0 k1 true (!(false)) ae (ae.length : Int) (wrap64 (bF + 1)) l1) = some r := by rw [if_neg (show ¬ (false = true) by decide)] at H; exact H
   clear H; have H := H1; clear H1; have H' := ak H; clear H; obtain ⟨XE, XF, I9, Ja, jP, jQ, jR, jS⟩ := wq (dU bU.out bF); cases Ja
   (try replace jP := hbc HB jP)
   (try replace jQ := hbc HB jQ)
   (try replace jR := hbc HB jR)
   (try replace jS := hbc HB jS)
   go_wp2_with (first | ((with_reducible refine aC (N := 5) rfl ?_); refine bxe 5 #[.int .i64 0, .int .i64 0, .int .i64 0, .int .i64 0] 98 ?_; intro fo hg w80 hbox hb; have n_ := a13 (bo jO hb) (bo jg hb) (bI (g := gbx) (o := .cells #[.int .i64 0] 30 (0, 0)) (bx bC.out) hb) (bl hb) hbox (gw w hg) (gw w hg) (nl hg jO) (nr hg jO) (nl hg jg) (nr hg jg) (by rw [hg]; exact Nat.ne_of_lt (eB (g := gbx) (o := .cells #[.int .i64 0] 30 (0, 0)) (bx bC.out)) : gbx ≠ fo) (by rw [hg]; exact Nat.ne_of_gt (eB (g := gbx) (o := .cells #[.int .i64 0] 30 (0, 0)) (bx bC.out)) : fo ≠ gbx); clear jO jg bC HB; obtain ⟨jO, jg, bC, HB, xu, fM, Jb, qA, jT, qB, jU, qC, jV⟩ := n_; clear hb hbox hg; have ⟨_, _⟩ := nn jT; have ⟨_, _⟩ := nn jU; have ⟨_, _⟩ := nn jV; have ⟨_, _, _, _, _, _, _, _⟩ := cf4 xu; have ⟨_, _⟩ := nn o5; have ⟨_, _⟩ := nn nT; have ⟨_, _⟩ := cf1 jg; obtain ⟨XG, XH, sU, Jc, bq⟩ := wq (Kd.gu HR1.out ((aa ae bF).f0)); (try rw [← Nbq19.out] at bq); cases Jc; have jW := an bq fM; have jX := an bq fM; have jY := an bq fM; have jZ := an bq fM; replace bq := hbc HB bq; replace bq := cg ⟨fo, 0, none⟩ (.int .i64 ((aa ae bF).f0)) bq jW; replace bq := cg ⟨fo, 1, none⟩ (.int .i64 ((aa ae bF).f1)) bq jX; replace bq := cg ⟨fo, 2, none⟩ (.int .i64 ((aa ae bF).f2)) bq jY; replace bq := cg ⟨fo, 3, none⟩ (.int .i64 ((aa ae bF).f3)) bq jZ; clear jW; clear jX; clear jY; clear jZ) | ((with_reducible refine au (f := 51) rfl ?_); refine gl 34 Try.func51 #[.bool true, .int .i64 221] ?_; (with_reducible refine (aQ.calls true 221  _ A69.out).mono ?_); rintro e w' ⟨rfl, ⟨nd, rfl⟩⟩; refine ⟨_, rfl, ?_⟩; obtain ⟨p536, q536, ad536, e536, mR⟩ := wq (Kd.gu HR1.out ((aa ae bF).f0)); (try rw [← Nbq19.out] at mR); obtain rfl : sU = ad536 := (by injection e536); have OW := an mR fM; have OX := an mR fM; have OY := an mR fM; have OZ := an mR fM; replace mR := hbc HB mR; replace mR := cg ⟨fo, 0, none⟩ (.int .i64 ((aa ae bF).f0)) mR OW; replace mR := cg ⟨fo, 1, none⟩ (.int .i64 ((aa ae bF).f1)) mR OX; replace mR := cg ⟨fo, 2, none⟩ (.int .i64 ((aa ae bF).f2)) mR OY; replace mR := cg ⟨fo, 3, none⟩ (.int .i64 ((aa ae bF).f3)) mR OZ; clear OW; clear OX; clear OY; clear OZ))
   go_roundg k1
   case measure => have := HK1.out; omega
   case rel => exact ⟨(true), (!(false)), (wrap64 (bF + 1)), sr, sr, sr, H', ⟨by have := HK1.out; omega⟩, ⟨bz⟩, ⟨bz⟩, ⟨bz⟩, ⟨lb⟩⟩
  replace c70 := Bool.eq_false_iff.mpr c70; subst c70
  have H1 : (if 0 ≤ ((aa ae bF).f1) then (if ((aa ae bF).f1) < (l1.length : Int) then (if ny = true then (aZ.l0 k1 (fF false l1 ((aa ae bF).f1)) true ae (ae.length : Int) (wrap64 (bF + 1)) l1) else (aZ.l0 k1 (fF false l1 ((aa ae bF).f1)) (!(false)) ae (ae.length : Int) (wrap64 (bF + 1)) l1)) else (none)) else (none)) = some r := by rw [if_neg (show ¬ (false = true) by decide)] at H; exact H
  clear H; have H := H1; clear H1; replace H := if2 H; obtain ⟨c88b0, c89b0, H⟩ := H
  by_cases c90 : ny = true
  ·
   subst c90
   replace H := ip H; have H' := ak H; clear H; obtain ⟨XE, XF, I9, Ja, jP, jQ, jR, jS⟩ := wq (dU bU.out bF); cases Ja
   (try replace jP := hbc HB jP)
   (try replace jQ := hbc HB jQ)
   (try replace jR := hbc HB jR)
   (try replace jS := hbc HB jS)
   go_wp2_with (first | ((with_reducible refine aC (N := 5) rfl ?_); refine bxe 5 #[.int .i64 0, .int .i64 0, .int .i64 0, .int .i64 0] 98 ?_; intro fo hg w91 hbox hb; have n_ := a13 (bo jO hb) (bo jg hb) (bI (g := gbx) (o := .cells #[.int .i64 0] 30 (0, 0)) (bx bC.out) hb) (bl hb) hbox (gw w hg) (gw w hg) (nl hg jO) (nr hg jO) (nl hg jg) (nr hg jg) (by rw [hg]; exact Nat.ne_of_lt (eB (g := gbx) (o := .cells #[.int .i64 0] 30 (0, 0)) (bx bC.out)) : gbx ≠ fo) (by rw [hg]; exact Nat.ne_of_gt (eB (g := gbx) (o := .cells #[.int .i64 0] 30 (0, 0)) (bx bC.out)) : fo ≠ gbx); clear jO jg bC HB; obtain ⟨jO, jg, bC, HB, xu, fM, Jb, qA, jT, qB, jU, qC, jV⟩ := n_; clear hb hbox hg; have ⟨_, _⟩ := nn jT; have ⟨_, _⟩ := nn jU; have ⟨_, _⟩ := nn jV; have ⟨_, _, _, _, _, _, _, _⟩ := cf4 xu; have ⟨_, _⟩ := nn o5; have ⟨_, _⟩ := nn nT; have ⟨_, _⟩ := cf1 jg; obtain ⟨XG, XH, sU, Jc, bq⟩ := wq (Kd.gu HR1.out ((aa ae bF).f0)); (try rw [← Nbq19.out] at bq); cases Jc; have jW := an bq fM; have jX := an bq fM; have jY := an bq fM; have jZ := an bq fM; replace bq := hbc HB bq; replace bq := cg ⟨fo, 0, none⟩ (.int .i64 ((aa ae bF).f0)) bq jW; replace bq := cg ⟨fo, 1, none⟩ (.int .i64 ((aa ae bF).f1)) bq jX; replace bq := cg ⟨fo, 2, none⟩ (.int .i64 ((aa ae bF).f2)) bq jY; replace bq := cg ⟨fo, 3, none⟩ (.int .i64 ((aa ae bF).f3)) bq jZ; clear jW; clear jX; clear jY; clear jZ) | ((with_reducible refine au (f := 51) rfl ?_); refine gl 34 Try.func51 #[.bool true, .int .i64 221] ?_; (with_reducible refine (aQ.calls true 221  _ A69.out).mono ?_); rintro e w' ⟨rfl, ⟨nd, rfl⟩⟩; refine ⟨_, rfl, ?_⟩; obtain ⟨p537, q537, XI, e537, iC⟩ := wq (Kd.gu HR1.out ((aa ae bF).f1)); (try rw [← Nbq19.out] at iC); obtain rfl : sU = XI := (by injection e537); have BH := an iC fM; have BI := an iC fM; have BJ := an iC fM; have BK := an iC fM; replace iC := hbc HB iC; replace iC := cg ⟨fo, 0, none⟩ (.int .i64 ((aa ae bF).f0)) iC BH; replace iC := cg ⟨fo, 1, none⟩ (.int .i64 ((aa ae bF).f1)) iC BI; replace iC := cg ⟨fo, 2, none⟩ (.int .i64 ((aa ae bF).f2)) iC BJ; replace iC := cg ⟨fo, 3, none⟩ (.int .i64 ((aa ae bF).f3)) iC BK; clear BH; clear BI; clear BJ; clear BK))
   go_roundg k1
   case measure => have := HK1.out; omega
   case rel => exact ⟨(fF false l1 ((aa ae bF).f1)), (true), (wrap64 (bF + 1)), sr, sr, sr, H', ⟨by have := HK1.out; omega⟩, ⟨bz⟩, ⟨bz⟩, ⟨bz⟩, ⟨lb⟩⟩
  replace c90 := Bool.eq_false_iff.mpr c90; subst c90
  have H1 : (aZ.l0 k1 (fF false l1 ((aa ae bF).f1)) (!(false)) ae (ae.length : Int) (wrap64 (bF + 1)) l1) = some r := by rw [if_neg (show ¬ (false = true) by decide)] at H; exact H
  clear H; have H := H1; clear H1; have H' := ak H; clear H; obtain ⟨XE, XF, I9, Ja, jP, jQ, jR, jS⟩ := wq (dU bU.out bF); cases Ja
  (try replace jP := hbc HB jP)
  (try replace jQ := hbc HB jQ)
  (try replace jR := hbc HB jR)
  (try replace jS := hbc HB jS)
  go_wp2_with (first | ((with_reducible refine aC (N := 5) rfl ?_); refine bxe 5 #[.int .i64 0, .int .i64 0, .int .i64 0, .int .i64 0] 98 ?_; intro fo hg w99 hbox hb; have n_ := a13 (bo jO hb) (bo jg hb) (bI (g := gbx) (o := .cells #[.int .i64 0] 30 (0, 0)) (bx bC.out) hb) (bl hb) hbox (gw w hg) (gw w hg) (nl hg jO) (nr hg jO) (nl hg jg) (nr hg jg) (by rw [hg]; exact Nat.ne_of_lt (eB (g := gbx) (o := .cells #[.int .i64 0] 30 (0, 0)) (bx bC.out)) : gbx ≠ fo) (by rw [hg]; exact Nat.ne_of_gt (eB (g := gbx) (o := .cells #[.int .i64 0] 30 (0, 0)) (bx bC.out)) : fo ≠ gbx); clear jO jg bC HB; obtain ⟨jO, jg, bC, HB, xu, fM, Jb, qA, jT, qB, jU, qC, jV⟩ := n_; clear hb hbox hg; have ⟨_, _⟩ := nn jT; have ⟨_, _⟩ := nn jU; have ⟨_, _⟩ := nn jV; have ⟨_, _, _, _, _, _, _, _⟩ := cf4 xu; have ⟨_, _⟩ := nn o5; have ⟨_, _⟩ := nn nT; have ⟨_, _⟩ := cf1 jg; obtain ⟨XG, XH, sU, Jc, bq⟩ := wq (Kd.gu HR1.out ((aa ae bF).f0)); (try rw [← Nbq19.out] at bq); cases Jc; have jW := an bq fM; have jX := an bq fM; have jY := an bq fM; have jZ := an bq fM; replace bq := hbc HB bq; replace bq := cg ⟨fo, 0, none⟩ (.int .i64 ((aa ae bF).f0)) bq jW; replace bq := cg ⟨fo, 1, none⟩ (.int .i64 ((aa ae bF).f1)) bq jX; replace bq := cg ⟨fo, 2, none⟩ (.int .i64 ((aa ae bF).f2)) bq jY; replace bq := cg ⟨fo, 3, none⟩ (.int .i64 ((aa ae bF).f3)) bq jZ; clear jW; clear jX; clear jY; clear jZ) | ((with_reducible refine au (f := 51) rfl ?_); refine gl 34 Try.func51 #[.bool true, .int .i64 221] ?_; (with_reducible refine (aQ.calls true 221  _ A69.out).mono ?_); rintro e w' ⟨rfl, ⟨nd, rfl⟩⟩; refine ⟨_, rfl, ?_⟩; obtain ⟨p537, q537, XI, e537, iC⟩ := wq (Kd.gu HR1.out ((aa ae bF).f1)); (try rw [← Nbq19.out] at iC); obtain rfl : sU = XI := (by injection e537); have BH := an iC fM; have BI := an iC fM; have BJ := an iC fM; have BK := an iC fM; replace iC := hbc HB iC; replace iC := cg ⟨fo, 0, none⟩ (.int .i64 ((aa ae bF).f0)) iC BH; replace iC := cg ⟨fo, 1, none⟩ (.int .i64 ((aa ae bF).f1)) iC BI; replace iC := cg ⟨fo, 2, none⟩ (.int .i64 ((aa ae bF).f2)) iC BJ; replace iC := cg ⟨fo, 3, none⟩ (.int .i64 ((aa ae bF).f3)) iC BK; clear BH; clear BI; clear BJ; clear BK; obtain ⟨p538, q538, ad538, e538, mU⟩ := wq (Kd.gu HR1.out ((aa ae bF).f0)); (try rw [← Nbq19.out] at mU); obtain rfl : sU = ad538 := (by injection e538); have O0 := an mU fM; have O1 := an mU fM; have O3 := an mU fM; have O4 := an mU fM; replace mU := hbc HB mU; replace mU := cg ⟨fo, 0, none⟩ (.int .i64 ((aa ae bF).f0)) mU O0; replace mU := cg ⟨fo, 1, none⟩ (.int .i64 ((aa ae bF).f1)) mU O1; replace mU := cg ⟨fo, 2, none⟩ (.int .i64 ((aa ae bF).f2)) mU O3; replace mU := cg ⟨fo, 3, none⟩ (.int .i64 ((aa ae bF).f3)) mU O4; clear O0; clear O1; clear O3; clear O4))
  go_roundg k1
  case measure => have := HK1.out; omega
  case rel => exact ⟨(fF false l1 ((aa ae bF).f1)), (!(false)), (wrap64 (bF + 1)), sr, sr, sr, H', ⟨by have := HK1.out; omega⟩, ⟨bz⟩, ⟨bz⟩, ⟨bz⟩, ⟨lb⟩⟩
 subst c20
 replace H := ip H; replace H := if2 H; obtain ⟨c21b0, c22b0, H⟩ := H; obtain ⟨bq23, hbq23⟩ : ∃ b_ : Bool, b_ = (fF false l1 ((aa ae bF).f1)) := ⟨_, rfl⟩; replace H : (if bq23 = true then (if Sj = true then (if ny = true then (aZ.l0 k1 true true ae (ae.length : Int) (wrap64 (bF + 1)) l1) else (aZ.l0 k1 true (!(true)) ae (ae.length : Int) (wrap64 (bF + 1)) l1)) else (if ny = true then (aZ.l0 k1 bq23 true ae (ae.length : Int) (wrap64 (bF + 1)) l1) else (aZ.l0 k1 bq23 (!(true)) ae (ae.length : Int) (wrap64 (bF + 1)) l1))) else (some 221)) = some r := by rw [← hbq23] at H; exact H
 have Nbq23 := ak hbq23; clear hbq23
 by_cases c24 : bq23 = true
 rotate_left
 ·
  replace c24 := Bool.eq_false_iff.mpr c24; subst c24
  have H1 : (some 221) = some r := by rw [if_neg (show ¬ (false = true) by decide)] at H; exact H
  clear H; have H := H1; clear H1; obtain rfl := Option.some.inj H; exact nb hr_
 subst c24
 replace H := ip H; have A25 := ak (show aQ.f true 221 = some () from rfl)
 by_cases c26 : Sj = true
 ·
  subst c26
  replace H := ip H
  by_cases c27 : ny = true
  ·
   subst c27
   replace H := ip H; have H' := ak H; clear H; obtain ⟨XE, XF, I9, Ja, jP, jQ, jR, jS⟩ := wq (dU bU.out bF); cases Ja
   (try replace jP := hbc HB jP)
   (try replace jQ := hbc HB jQ)
   (try replace jR := hbc HB jR)
   (try replace jS := hbc HB jS)
   go_wp2_with (first | ((with_reducible refine aC (N := 5) rfl ?_); refine bxe 5 #[.int .i64 0, .int .i64 0, .int .i64 0, .int .i64 0] 98 ?_; intro fo hg w28 hbox hb; have n_ := a13 (bo jO hb) (bo jg hb) (bI (g := gbx) (o := .cells #[.int .i64 0] 30 (0, 0)) (bx bC.out) hb) (bl hb) hbox (gw w hg) (gw w hg) (nl hg jO) (nr hg jO) (nl hg jg) (nr hg jg) (by rw [hg]; exact Nat.ne_of_lt (eB (g := gbx) (o := .cells #[.int .i64 0] 30 (0, 0)) (bx bC.out)) : gbx ≠ fo) (by rw [hg]; exact Nat.ne_of_gt (eB (g := gbx) (o := .cells #[.int .i64 0] 30 (0, 0)) (bx bC.out)) : fo ≠ gbx); clear jO jg bC HB; obtain ⟨jO, jg, bC, HB, xu, fM, Jb, qA, jT, qB, jU, qC, jV⟩ := n_; clear hb hbox hg; have ⟨_, _⟩ := nn jT; have ⟨_, _⟩ := nn jU; have ⟨_, _⟩ := nn jV; have ⟨_, _, _, _, _, _, _, _⟩ := cf4 xu; have ⟨_, _⟩ := nn o5; have ⟨_, _⟩ := nn nT; have ⟨_, _⟩ := cf1 jg; obtain ⟨XG, XH, sU, Jc, bq⟩ := wq (Kd.gu HR1.out ((aa ae bF).f0)); (try rw [← Nbq19.out] at bq); (try rw [← Nbq23.out] at bq); cases Jc; have jW := an bq fM; have jX := an bq fM; have jY := an bq fM; have jZ := an bq fM; replace bq := hbc HB bq; replace bq := cg ⟨fo, 0, none⟩ (.int .i64 ((aa ae bF).f0)) bq jW; replace bq := cg ⟨fo, 1, none⟩ (.int .i64 ((aa ae bF).f1)) bq jX; replace bq := cg ⟨fo, 2, none⟩ (.int .i64 ((aa ae bF).f2)) bq jY; replace bq := cg ⟨fo, 3, none⟩ (.int .i64 ((aa ae bF).f3)) bq jZ; clear jW; clear jX; clear jY; clear jZ; obtain ⟨p532, q532, Jd, XJ, dK⟩ := wq (Kd.gu HR1.out ((aa ae bF).f1)); (try rw [← Nbq19.out] at dK); (try rw [← Nbq23.out] at dK); obtain rfl : sU = Jd := (by injection XJ); have qD := an dK fM; have qE := an dK fM; have qF := an dK fM; have qG := an dK fM; replace dK := hbc HB dK; replace dK := cg ⟨fo, 0, none⟩ (.int .i64 ((aa ae bF).f0)) dK qD; replace dK := cg ⟨fo, 1, none⟩ (.int .i64 ((aa ae bF).f1)) dK qE; replace dK := cg ⟨fo, 2, none⟩ (.int .i64 ((aa ae bF).f2)) dK qF; replace dK := cg ⟨fo, 3, none⟩ (.int .i64 ((aa ae bF).f3)) dK qG; clear qD; clear qE; clear qF; clear qG) | ((with_reducible refine au (f := 51) rfl ?_); refine gl 34 Try.func51 #[.bool true, .int .i64 221] ?_; (with_reducible refine (aQ.calls true 221  _ A25.out).mono ?_); rintro e w' ⟨rfl, ⟨nd, rfl⟩⟩; refine ⟨_, rfl, ?_⟩))
   go_roundg k1
   case measure => have := HK1.out; omega
   case rel => exact ⟨(true), (true), (wrap64 (bF + 1)), sr, sr, sr, H', ⟨by have := HK1.out; omega⟩, ⟨bz⟩, ⟨bz⟩, ⟨bz⟩, ⟨lb⟩⟩
  replace c27 := Bool.eq_false_iff.mpr c27; subst c27
  have H1 : (aZ.l0 k1 true (!(true)) ae (ae.length : Int) (wrap64 (bF + 1)) l1) = some r := by rw [if_neg (show ¬ (false = true) by decide)] at H; exact H
  clear H; have H := H1; clear H1; have H' := ak H; clear H; obtain ⟨XE, XF, I9, Ja, jP, jQ, jR, jS⟩ := wq (dU bU.out bF); cases Ja
  (try replace jP := hbc HB jP)
  (try replace jQ := hbc HB jQ)
  (try replace jR := hbc HB jR)
  (try replace jS := hbc HB jS)
  go_wp2_with (first | ((with_reducible refine aC (N := 5) rfl ?_); refine bxe 5 #[.int .i64 0, .int .i64 0, .int .i64 0, .int .i64 0] 98 ?_; intro fo hg w36 hbox hb; have n_ := a13 (bo jO hb) (bo jg hb) (bI (g := gbx) (o := .cells #[.int .i64 0] 30 (0, 0)) (bx bC.out) hb) (bl hb) hbox (gw w hg) (gw w hg) (nl hg jO) (nr hg jO) (nl hg jg) (nr hg jg) (by rw [hg]; exact Nat.ne_of_lt (eB (g := gbx) (o := .cells #[.int .i64 0] 30 (0, 0)) (bx bC.out)) : gbx ≠ fo) (by rw [hg]; exact Nat.ne_of_gt (eB (g := gbx) (o := .cells #[.int .i64 0] 30 (0, 0)) (bx bC.out)) : fo ≠ gbx); clear jO jg bC HB; obtain ⟨jO, jg, bC, HB, xu, fM, Jb, qA, jT, qB, jU, qC, jV⟩ := n_; clear hb hbox hg; have ⟨_, _⟩ := nn jT; have ⟨_, _⟩ := nn jU; have ⟨_, _⟩ := nn jV; have ⟨_, _, _, _, _, _, _, _⟩ := cf4 xu; have ⟨_, _⟩ := nn o5; have ⟨_, _⟩ := nn nT; have ⟨_, _⟩ := cf1 jg; obtain ⟨XG, XH, sU, Jc, bq⟩ := wq (Kd.gu HR1.out ((aa ae bF).f0)); (try rw [← Nbq19.out] at bq); (try rw [← Nbq23.out] at bq); cases Jc; have jW := an bq fM; have jX := an bq fM; have jY := an bq fM; have jZ := an bq fM; replace bq := hbc HB bq; replace bq := cg ⟨fo, 0, none⟩ (.int .i64 ((aa ae bF).f0)) bq jW; replace bq := cg ⟨fo, 1, none⟩ (.int .i64 ((aa ae bF).f1)) bq jX; replace bq := cg ⟨fo, 2, none⟩ (.int .i64 ((aa ae bF).f2)) bq jY; replace bq := cg ⟨fo, 3, none⟩ (.int .i64 ((aa ae bF).f3)) bq jZ; clear jW; clear jX; clear jY; clear jZ; obtain ⟨p532, q532, Jd, XJ, dK⟩ := wq (Kd.gu HR1.out ((aa ae bF).f1)); (try rw [← Nbq19.out] at dK); (try rw [← Nbq23.out] at dK); obtain rfl : sU = Jd := (by injection XJ); have qD := an dK fM; have qE := an dK fM; have qF := an dK fM; have qG := an dK fM; replace dK := hbc HB dK; replace dK := cg ⟨fo, 0, none⟩ (.int .i64 ((aa ae bF).f0)) dK qD; replace dK := cg ⟨fo, 1, none⟩ (.int .i64 ((aa ae bF).f1)) dK qE; replace dK := cg ⟨fo, 2, none⟩ (.int .i64 ((aa ae bF).f2)) dK qF; replace dK := cg ⟨fo, 3, none⟩ (.int .i64 ((aa ae bF).f3)) dK qG; clear qD; clear qE; clear qF; clear qG) | ((with_reducible refine au (f := 51) rfl ?_); refine gl 34 Try.func51 #[.bool true, .int .i64 221] ?_; (with_reducible refine (aQ.calls true 221  _ A25.out).mono ?_); rintro e w' ⟨rfl, ⟨nd, rfl⟩⟩; refine ⟨_, rfl, ?_⟩; obtain ⟨p533, q533, ad533, e533, mD⟩ := wq (Kd.gu HR1.out ((aa ae bF).f0)); (try rw [← Nbq19.out] at mD); (try rw [← Nbq23.out] at mD); obtain rfl : sU = ad533 := (by injection e533); have O5 := an mD fM; have O6 := an mD fM; have O7 := an mD fM; have O8 := an mD fM; replace mD := hbc HB mD; replace mD := cg ⟨fo, 0, none⟩ (.int .i64 ((aa ae bF).f0)) mD O5; replace mD := cg ⟨fo, 1, none⟩ (.int .i64 ((aa ae bF).f1)) mD O6; replace mD := cg ⟨fo, 2, none⟩ (.int .i64 ((aa ae bF).f2)) mD O7; replace mD := cg ⟨fo, 3, none⟩ (.int .i64 ((aa ae bF).f3)) mD O8; clear O5; clear O6; clear O7; clear O8))
  go_roundg k1
  case measure => have := HK1.out; omega
  case rel => exact ⟨(true), (!(true)), (wrap64 (bF + 1)), sr, sr, sr, H', ⟨by have := HK1.out; omega⟩, ⟨bz⟩, ⟨bz⟩, ⟨bz⟩, ⟨lb⟩⟩
 replace c26 := Bool.eq_false_iff.mpr c26; subst c26
 have H1 : (if ny = true then (aZ.l0 k1 true true ae (ae.length : Int) (wrap64 (bF + 1)) l1) else (aZ.l0 k1 true (!(true)) ae (ae.length : Int) (wrap64 (bF + 1)) l1)) = some r := by rw [if_neg (show ¬ (false = true) by decide)] at H; exact H
 clear H; have H := H1; clear H1
 by_cases c44 : ny = true
 ·
  subst c44
  replace H := ip H; have H' := ak H; clear H; obtain ⟨XE, XF, I9, Ja, jP, jQ, jR, jS⟩ := wq (dU bU.out bF); cases Ja
  (try replace jP := hbc HB jP)
  (try replace jQ := hbc HB jQ)
  (try replace jR := hbc HB jR)
  (try replace jS := hbc HB jS)
  go_wp2_with (first | ((with_reducible refine aC (N := 5) rfl ?_); refine bxe 5 #[.int .i64 0, .int .i64 0, .int .i64 0, .int .i64 0] 98 ?_; intro fo hg w45 hbox hb; have n_ := a13 (bo jO hb) (bo jg hb) (bI (g := gbx) (o := .cells #[.int .i64 0] 30 (0, 0)) (bx bC.out) hb) (bl hb) hbox (gw w hg) (gw w hg) (nl hg jO) (nr hg jO) (nl hg jg) (nr hg jg) (by rw [hg]; exact Nat.ne_of_lt (eB (g := gbx) (o := .cells #[.int .i64 0] 30 (0, 0)) (bx bC.out)) : gbx ≠ fo) (by rw [hg]; exact Nat.ne_of_gt (eB (g := gbx) (o := .cells #[.int .i64 0] 30 (0, 0)) (bx bC.out)) : fo ≠ gbx); clear jO jg bC HB; obtain ⟨jO, jg, bC, HB, xu, fM, Jb, qA, jT, qB, jU, qC, jV⟩ := n_; clear hb hbox hg; have ⟨_, _⟩ := nn jT; have ⟨_, _⟩ := nn jU; have ⟨_, _⟩ := nn jV; have ⟨_, _, _, _, _, _, _, _⟩ := cf4 xu; have ⟨_, _⟩ := nn o5; have ⟨_, _⟩ := nn nT; have ⟨_, _⟩ := cf1 jg; obtain ⟨XG, XH, sU, Jc, bq⟩ := wq (Kd.gu HR1.out ((aa ae bF).f0)); (try rw [← Nbq19.out] at bq); (try rw [← Nbq23.out] at bq); cases Jc; have jW := an bq fM; have jX := an bq fM; have jY := an bq fM; have jZ := an bq fM; replace bq := hbc HB bq; replace bq := cg ⟨fo, 0, none⟩ (.int .i64 ((aa ae bF).f0)) bq jW; replace bq := cg ⟨fo, 1, none⟩ (.int .i64 ((aa ae bF).f1)) bq jX; replace bq := cg ⟨fo, 2, none⟩ (.int .i64 ((aa ae bF).f2)) bq jY; replace bq := cg ⟨fo, 3, none⟩ (.int .i64 ((aa ae bF).f3)) bq jZ; clear jW; clear jX; clear jY; clear jZ; obtain ⟨p532, q532, Jd, XJ, dK⟩ := wq (Kd.gu HR1.out ((aa ae bF).f1)); (try rw [← Nbq19.out] at dK); (try rw [← Nbq23.out] at dK); obtain rfl : sU = Jd := (by injection XJ); have qD := an dK fM; have qE := an dK fM; have qF := an dK fM; have qG := an dK fM; replace dK := hbc HB dK; replace dK := cg ⟨fo, 0, none⟩ (.int .i64 ((aa ae bF).f0)) dK qD; replace dK := cg ⟨fo, 1, none⟩ (.int .i64 ((aa ae bF).f1)) dK qE; replace dK := cg ⟨fo, 2, none⟩ (.int .i64 ((aa ae bF).f2)) dK qF; replace dK := cg ⟨fo, 3, none⟩ (.int .i64 ((aa ae bF).f3)) dK qG; clear qD; clear qE; clear qF; clear qG) | ((with_reducible refine au (f := 51) rfl ?_); refine gl 34 Try.func51 #[.bool true, .int .i64 221] ?_; (with_reducible refine (aQ.calls true 221  _ A25.out).mono ?_); rintro e w' ⟨rfl, ⟨nd, rfl⟩⟩; refine ⟨_, rfl, ?_⟩; obtain ⟨p534, q534, XK, e534, ic⟩ := wq (Kd.gu HR1.out ((aa ae bF).f1)); (try rw [← Nbq19.out] at ic); (try rw [← Nbq23.out] at ic); obtain rfl : sU = XK := (by injection e534); have BL := an ic fM; have BM := an ic fM; have BN := an ic fM; have BO := an ic fM; replace ic := hbc HB ic; replace ic := cg ⟨fo, 0, none⟩ (.int .i64 ((aa ae bF).f0)) ic BL; replace ic := cg ⟨fo, 1, none⟩ (.int .i64 ((aa ae bF).f1)) ic BM; replace ic := cg ⟨fo, 2, none⟩ (.int .i64 ((aa ae bF).f2)) ic BN; replace ic := cg ⟨fo, 3, none⟩ (.int .i64 ((aa ae bF).f3)) ic BO; clear BL; clear BM; clear BN; clear BO))
  go_roundg k1
  case measure => have := HK1.out; omega
  case rel => exact ⟨(true), (true), (wrap64 (bF + 1)), sr, sr, sr, H', ⟨by have := HK1.out; omega⟩, ⟨bz⟩, ⟨bz⟩, ⟨bz⟩, ⟨lb⟩⟩
 replace c44 := Bool.eq_false_iff.mpr c44; subst c44
 have H1 : (aZ.l0 k1 true (!(true)) ae (ae.length : Int) (wrap64 (bF + 1)) l1) = some r := by rw [if_neg (show ¬ (false = true) by decide)] at H; exact H
 clear H; have H := H1; clear H1; have H' := ak H; clear H; obtain ⟨XE, XF, I9, Ja, jP, jQ, jR, jS⟩ := wq (dU bU.out bF); cases Ja
 (try replace jP := hbc HB jP)
 (try replace jQ := hbc HB jQ)
 (try replace jR := hbc HB jR)
 (try replace jS := hbc HB jS)
 go_wp2_with (first | ((with_reducible refine aC (N := 5) rfl ?_); refine bxe 5 #[.int .i64 0, .int .i64 0, .int .i64 0, .int .i64 0] 98 ?_; intro fo hg w53 hbox hb; have n_ := a13 (bo jO hb) (bo jg hb) (bI (g := gbx) (o := .cells #[.int .i64 0] 30 (0, 0)) (bx bC.out) hb) (bl hb) hbox (gw w hg) (gw w hg) (nl hg jO) (nr hg jO) (nl hg jg) (nr hg jg) (by rw [hg]; exact Nat.ne_of_lt (eB (g := gbx) (o := .cells #[.int .i64 0] 30 (0, 0)) (bx bC.out)) : gbx ≠ fo) (by rw [hg]; exact Nat.ne_of_gt (eB (g := gbx) (o := .cells #[.int .i64 0] 30 (0, 0)) (bx bC.out)) : fo ≠ gbx); clear jO jg bC HB; obtain ⟨jO, jg, bC, HB, xu, fM, Jb, qA, jT, qB, jU, qC, jV⟩ := n_; clear hb hbox hg; have ⟨_, _⟩ := nn jT; have ⟨_, _⟩ := nn jU; have ⟨_, _⟩ := nn jV; have ⟨_, _, _, _, _, _, _, _⟩ := cf4 xu; have ⟨_, _⟩ := nn o5; have ⟨_, _⟩ := nn nT; have ⟨_, _⟩ := cf1 jg; obtain ⟨XG, XH, sU, Jc, bq⟩ := wq (Kd.gu HR1.out ((aa ae bF).f0)); (try rw [← Nbq19.out] at bq); (try rw [← Nbq23.out] at bq); cases Jc; have jW := an bq fM; have jX := an bq fM; have jY := an bq fM; have jZ := an bq fM; replace bq := hbc HB bq; replace bq := cg ⟨fo, 0, none⟩ (.int .i64 ((aa ae bF).f0)) bq jW; replace bq := cg ⟨fo, 1, none⟩ (.int .i64 ((aa ae bF).f1)) bq jX; replace bq := cg ⟨fo, 2, none⟩ (.int .i64 ((aa ae bF).f2)) bq jY; replace bq := cg ⟨fo, 3, none⟩ (.int .i64 ((aa ae bF).f3)) bq jZ; clear jW; clear jX; clear jY; clear jZ; obtain ⟨p532, q532, Jd, XJ, dK⟩ := wq (Kd.gu HR1.out ((aa ae bF).f1)); (try rw [← Nbq19.out] at dK); (try rw [← Nbq23.out] at dK); obtain rfl : sU = Jd := (by injection XJ); have qD := an dK fM; have qE := an dK fM; have qF := an dK fM; have qG := an dK fM; replace dK := hbc HB dK; replace dK := cg ⟨fo, 0, none⟩ (.int .i64 ((aa ae bF).f0)) dK qD; replace dK := cg ⟨fo, 1, none⟩ (.int .i64 ((aa ae bF).f1)) dK qE; replace dK := cg ⟨fo, 2, none⟩ (.int .i64 ((aa ae bF).f2)) dK qF; replace dK := cg ⟨fo, 3, none⟩ (.int .i64 ((aa ae bF).f3)) dK qG; clear qD; clear qE; clear qF; clear qG) | ((with_reducible refine au (f := 51) rfl ?_); refine gl 34 Try.func51 #[.bool true, .int .i64 221] ?_; (with_reducible refine (aQ.calls true 221  _ A25.out).mono ?_); rintro e w' ⟨rfl, ⟨nd, rfl⟩⟩; refine ⟨_, rfl, ?_⟩; obtain ⟨p534, q534, XK, e534, ic⟩ := wq (Kd.gu HR1.out ((aa ae bF).f1)); (try rw [← Nbq19.out] at ic); (try rw [← Nbq23.out] at ic); obtain rfl : sU = XK := (by injection e534); have BL := an ic fM; have BM := an ic fM; have BN := an ic fM; have BO := an ic fM; replace ic := hbc HB ic; replace ic := cg ⟨fo, 0, none⟩ (.int .i64 ((aa ae bF).f0)) ic BL; replace ic := cg ⟨fo, 1, none⟩ (.int .i64 ((aa ae bF).f1)) ic BM; replace ic := cg ⟨fo, 2, none⟩ (.int .i64 ((aa ae bF).f2)) ic BN; replace ic := cg ⟨fo, 3, none⟩ (.int .i64 ((aa ae bF).f3)) ic BO; clear BL; clear BM; clear BN; clear BO; obtain ⟨p535, q535, ad535, e535, mE⟩ := wq (Kd.gu HR1.out ((aa ae bF).f0)); (try rw [← Nbq19.out] at mE); (try rw [← Nbq23.out] at mE); obtain rfl : sU = ad535 := (by injection e535); have O9 := an mE fM; have Pb := an mE fM; have Pf := an mE fM; have Pg := an mE fM; replace mE := hbc HB mE; replace mE := cg ⟨fo, 0, none⟩ (.int .i64 ((aa ae bF).f0)) mE O9; replace mE := cg ⟨fo, 1, none⟩ (.int .i64 ((aa ae bF).f1)) mE Pb; replace mE := cg ⟨fo, 2, none⟩ (.int .i64 ((aa ae bF).f2)) mE Pf; replace mE := cg ⟨fo, 3, none⟩ (.int .i64 ((aa ae bF).f3)) mE Pg; clear O9; clear Pb; clear Pf; clear Pg))
 go_roundg k1
 case measure => have := HK1.out; omega
 case rel => exact ⟨(true), (!(true)), (wrap64 (bF + 1)), sr, sr, sr, H', ⟨by have := HK1.out; omega⟩, ⟨bz⟩, ⟨bz⟩, ⟨bz⟩, ⟨lb⟩⟩
end Go.Proofs.Ytkdoihcjhccliaa.Q
