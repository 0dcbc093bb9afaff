import Derived.Test.YtkdoihcjhccliaaQ0
import Derived.Test.YtkdoihcjhccliaaQ23
namespace Go.Proofs.Ytkdoihcjhccliaa.Q
open Go.RowKit Go.Proofs.YtkdoihcjhccliaaW.PrintWords Go.Proofs.YtkdoihcjhccliaaW.PrintLast Go.Proofs.YtkdoihcjhccliaaW.PrintMore
attribute [local go_sem] dF dG eG eH cz cB dH dI   -- for this text's walks alone
set_option linter.unusedVariables false
set_option linter.unusedSimpArgs false

/-! ### cK: function 31 -/
def cK.l0 : Nat → List Int → Int → Int → Int → List (S98) → Option (Int)
  | 0, _, _, _, _, _ => none
  | k + 1, x1, x5, x6, Xv, I7 => if x6 < (x1.length : Int) then (if 0 ≤ x6 then (if x6 < (I7.length : Int) then (cK.l0 k x1 (wrap64 (x5 + (wrap64 (((aa I7 x6).f3) * (rd x1 x6))))) (wrap64 (x6 + 1)) Xv I7) else (none)) else (none)) else (some x5)
def cK.f (k : Nat) (ay : Int) (ae : List (S98)) (l1 : List Int) : Option (Int) := cK.l0 k l1 0 0 ay ae
set_option maxHeartbeats 8000000 in
set_option maxRecDepth 100000 in
theorem cK.calls (k : Nat) (ay : Int) (bX : Option Addr) (bN : Nat) (ae : List (S98)) (A1 : Option Addr) (c1 : Nat) (l1 : List Int) (r : Int) (w : World) (dB : Kd.C k98 w bX ae.length ae) (dC : ae.length ≤ bN) (hr1 : Kd.C (Kd.int .i64) w A1 l1.length l1) (hc1 : l1.length ≤ c1) (h : cK.f k ay ae l1 = some r) :
    Calls Try.prog 31 #[.agg #[.int .i64 ay, .slice bX ae.length bN], .slice A1 l1.length c1] w fun e w' => e = .returned (.int .i64 r) ∧ Below w.heap.size w w' := by
 have hu24 := Try.underlying24; have bU := ak dB; have eU := ak dC; clear dB dC; have HR1 := ak hr1; have HC1 := ak hc1; clear hr1 hc1; have HB := ak (Below.refl w.heap.size w); have H : (cK.l0 k l1 0 0 ay ae) = some r := h; clear h; have H' := ak H; clear H
 go_enter Try.func31, Try.ntmps31
 go_wp2_with (first | ((with_reducible refine aC (N := 2) rfl ?_); refine bxe 2 #[.int .i64 ay, .slice bX ae.length bN] 24 ?_; intro Xw hg w3 hbox hb; have n_ := a4 (bl hb) hbox (gw w hg) (gw w hg); clear HB; obtain ⟨HB, KN, acz, acA⟩ := n_; clear hb hbox hg))
 repeat (go_quiet (first | ((with_reducible refine aC (N := 2) rfl ?_); refine bxe 2 #[.int .i64 ay, .slice bX ae.length bN] 24 ?_; intro Xw hg w3 hbox hb; have n_ := a4 (bl hb) hbox (gw w hg) (gw w hg); clear HB; obtain ⟨HB, KN, acz, acA⟩ := n_; clear hb hbox hg)); try go_wp2_with (first | ((with_reducible refine aC (N := 2) rfl ?_); refine bxe 2 #[.int .i64 ay, .slice bX ae.length bN] 24 ?_; intro Xw hg w3 hbox hb; have n_ := a4 (bl hb) hbox (gw w hg) (gw w hg); clear HB; obtain ⟨HB, KN, acz, acA⟩ := n_; clear hb hbox hg)))
 go_loopg [5, 6] k (fun kq v5 v6 w' => ∃ (bV : Int) (eD : Int), v5 = .int .i64 bV ∧ v6 = .int .i64 eD ∧ ag (cK.l0 kq l1 bV eD ay ae = some r) ∧ ag (kq ≤ k) ∧ ag (w'.heap[Xw]? = some (.cells #[.int .i64 ay, (.slice bX ae.length bN)] 24 (0, 0))) ∧ ag (Below w.heap.size w w'))
 case atStart => exact ⟨(0), (0), sr, sr, H', ⟨Nat.le_refl _⟩, xb KN, ⟨lb⟩⟩
 clear H'; obtain ⟨bV, eD, rfl, rfl, HA, HK1, KN, HB⟩ := hrel
 cases gk with
 | zero => exact absurd HA.out (by simp [cK.l0])
 | succ k1 => ?_
 have H := HA.out; clear HA
 simp only [cK.l0] at H
 by_cases c4 : eD < (l1.length : Int)
 rotate_left
 ·
  rw [if_neg c4] at H; have c4b0 := decide_eq_false c4; clear c4; obtain rfl := Option.some.inj H
  go_wp2
  repeat (go_quiet (fail); try go_wp2)
  go_ret
  exact ⟨er, lb⟩

 rw [if_pos c4] at H; have c4b0 := decide_eq_true c4; clear c4; replace H := if2 H; obtain ⟨c5b0, c6b0, H⟩ := H; have H' := ak H; clear H; have ⟨_, _, _, _⟩ := cf2 KN; obtain ⟨p361, q361, ad361, e361, OH, OI, OJ, OL⟩ := wq (dU bU.out eD); cases e361
 (try replace OH := hbc HB OH)
 (try replace OI := hbc HB OI)
 (try replace OJ := hbc HB OJ)
 (try replace OL := hbc HB OL); obtain ⟨p362, q362, acB, e362, Bj⟩ := wq (Kd.bB HR1.out eD); cases e362
 (try replace Bj := hbc HB Bj)
 go_wp2
 repeat (go_quiet (fail); try go_wp2)
 go_roundg k1
 case measure => have := HK1.out; omega
 case rel => exact ⟨(wrap64 (bV + (wrap64 (((aa ae eD).f3) * (rd l1 eD))))), (wrap64 (eD + 1)), sr, sr, H', ⟨by have := HK1.out; omega⟩, xb KN, ⟨lb⟩⟩
/-! ### lT: function 33 -/
def lT.l0 : Nat → List Int → Int → Int → Int → List (S98) → Option (Int)
  | 0, _, _, _, _, _ => none
  | k + 1, x1, x7, x8, OM, Xx => if x8 < OM then (if 0 ≤ x8 then (if x8 < (x1.length : Int) then (if (rd x1 x8) < (-1048576) then (some 130) else (if (rd x1 x8) > 1048576 then (some 130) else (lT.l0 k x1 (wrap64 (x7 + (rd x1 x8))) (wrap64 (x8 + 1)) OM Xx))) else (none)) else (none)) else (if x7 = 0 then (some 0) else (some 130))
def lT.f (k : Nat) (ay : Int) (ae : List (S98)) (l1 : List Int) : Option (Int) := (av.f k ay ae).bind fun acC => (if acC.1 = 0 then (if (l1.length : Int) = ay then (lT.l0 k l1 0 0 ay ae) else (some 130)) else (some acC.1))
end Go.Proofs.Ytkdoihcjhccliaa.Q
namespace Go.Proofs.Ytkdoihcjhccliaa.Q
open Go.RowKit Go.Proofs.YtkdoihcjhccliaaW.PrintWords Go.Proofs.YtkdoihcjhccliaaW.PrintLast Go.Proofs.YtkdoihcjhccliaaW.PrintMore
attribute [local go_sem] dF dG eG eH cz cB dH dI   -- for this text's walks alone
set_option linter.unusedVariables false
set_option linter.unusedSimpArgs false

/-! ### dL: function 63 -/
def dL.l0 : Nat → List Int → Int → Int → List (S98) → Option (Bool)
  | 0, _, _, _, _ => none
  | k + 1, x1, x5, R9, aad => if x5 < R9 then (if 0 ≤ x5 then (if x5 < (x1.length : Int) then (if (rd x1 x5) < (-4398046511104) then (some false) else (if (rd x1 x5) > 4398046511104 then (some false) else (dL.l0 k x1 (wrap64 (x5 + 1)) R9 aad))) else (none)) else (none)) else (some true)
def dL.f (k : Nat) (ay : Int) (ae : List (S98)) (l1 : List Int) : Option (Bool) := if (l1.length : Int) = ay then (dL.l0 k l1 0 ay ae) else (some false)
/-! ### mG: function 64 -/
def mG.f (ay : Int) (IG : Int) (Gf : Int) (Gg : Int) (l1 : List Int) : Option (Int) := if 0 ≤ ay then (if ay < (l1.length : Int) then (if 0 ≤ IG then (if IG < (l1.length : Int) then (some (wrap64 ((wrap64 (Gg + (rd l1 ay))) - (rd l1 IG)))) else (none)) else (none)) else (none)) else (none)
end Go.Proofs.Ytkdoihcjhccliaa.Q
-- PRINTED by print.py (a twelfth state) out of the translation. Not trusted: Lean checks it.
namespace Go.Proofs.Ytkdoihcjhccliaa.Q
open Go.RowKit Go.Proofs.YtkdoihcjhccliaaW.PrintWords Go.Proofs.YtkdoihcjhccliaaW.PrintLast Go.Proofs.YtkdoihcjhccliaaW.PrintMore
attribute [local go_sem] dF dG eG eH cz cB dH dI   -- for this text's walks alone
set_option linter.unusedVariables false
set_option linter.unusedSimpArgs false

/-! ### bQ: function 32 -/
mutual
def bQ.l0 : Nat → List Int → Int → Int → List (S98) → Option (Bool)
  | 0, _, _, _, _ => none
  | k + 1, x1, x5, zi, Dw => if x5 < (x1.length : Int) then (if 0 ≤ x5 then (if (rd x1 x5) < 1 then (some false) else (if (rd x1 x5) > 1048576 then (some false) else (bQ.l0 k x1 (wrap64 (x5 + 1)) zi Dw))) else (none)) else (bQ.l1 k x1 0 zi Dw)
def bQ.l1 : Nat → List Int → Int → Int → List (S98) → Option (Bool)
  | 0, _, _, _, _ => none
  | k + 1, x1, x6, zi, Dw => if x6 < zi then ((bP.f k zi Dw x1 x6).bind fun aeH => (if aeH = 0 then (bQ.l1 k x1 (wrap64 (x6 + 1)) zi Dw) else (some false))) else (some true)
end
def bQ.f (k : Nat) (ay : Int) (ae : List (S98)) (l1 : List Int) : Option (Bool) := if (l1.length : Int) = (ae.length : Int) then (bQ.l0 k l1 0 ay ae) else (some false)
end Go.Proofs.Ytkdoihcjhccliaa.Q
-- PRINTED by print.py (a twelfth state) out of the translation. Not trusted: Lean checks it.
namespace Go.Proofs.Ytkdoihcjhccliaa.Q
open Go.RowKit Go.Proofs.YtkdoihcjhccliaaW.PrintWords Go.Proofs.YtkdoihcjhccliaaW.PrintLast Go.Proofs.YtkdoihcjhccliaaW.PrintMore
attribute [local go_sem] dF dG eG eH cz cB dH dI   -- for this text's walks alone
set_option linter.unusedVariables false
set_option linter.unusedSimpArgs false

/-! ### aT: function 35 -/
mutual
def aT.l0 : Nat → Int → Int → Int → List (S98) → Option (Int)
  | 0, _, _, _, _ => none
  | k + 1, x3, x5, BB, vz => if x3 = 0 then (aT.j1 k x3 x5 (decide (x5 < (vz.length : Int))) BB vz) else (aT.j1 k x3 x5 false BB vz)
def aT.j1 : Nat → Int → Int → Bool → Int → List (S98) → Option (Int)
  | 0, _, _, _, _, _ => none
  | k + 1, x3, x5, x19, BB, vz => if x19 = true then (if 0 ≤ x5 then (if x5 < (vz.length : Int) then (if ((aa vz x5).f3) < 0 then (aT.l0 k 80 (wrap64 (x5 + 1)) BB vz) else (aT.l0 k x3 (wrap64 (x5 + 1)) BB vz)) else (none)) else (none)) else (some x3)
end
def aT.f (k : Nat) (ay : Int) (ae : List (S98)) : Option (Int) := (av.f k ay ae).bind fun XB => (aT.l0 k XB.1 0 ay ae)
set_option maxHeartbeats 8000000 in
set_option maxRecDepth 100000 in
theorem aT.calls (k : Nat) (ay : Int) (bX : Option Addr) (bN : Nat) (ae : List (S98)) (r : Int) (w : World) (dB : Kd.C k98 w bX ae.length ae) (dC : ae.length ≤ bN) (h : aT.f k ay ae = some r) :
    Calls Try.prog 35 #[.agg #[.int .i64 ay, .slice bX ae.length bN]] w fun e w' => e = .returned (.int .i64 r) ∧ Below w.heap.size w w' := by
 have hu24 := Try.underlying24
 have bU := ak dB
 have eU := ak dC
 clear dB dC
 have HB := ak (Below.refl w.heap.size w)
 have H : ((av.f k ay ae).bind fun XB => (aT.l0 k XB.1 0 ay ae)) = some r := h
 clear h
 replace H := Option.bind_eq_some_iff.mp H
 obtain ⟨⟨t479, t480⟩, A20, H⟩ := H
 replace H : (aT.l0 k t479 0 ay ae) = some r := H
 have A2 := ak A20
 clear A20
 have H' := ak H
 clear H
 go_enter Try.func35, Try.ntmps35
 go_wp2_with (first | ((with_reducible refine aC (N := 1) rfl ?_); (try (refine oC (by rfl) ?_; dsimp only)); refine bxe 1 #[.int .i64 ay, .slice bX ae.length bN] 24 ?_; intro zD hg w3 hbox hb; have pO := ak (hbox); have GW478 := ak ((by rw [hg]; exact (ax lb) : w.heap.size ≤ zD)); have GE478 := ak ((by rw [hg]; exact (ax lb) : w.heap.size ≤ zD)); replace HB := ak (bl hb); clear hb hbox hg; have UO : w3.cell? ⟨zD, 0, none⟩ = some (.int .i64 ay) := (aH pO.out 0).trans rfl; have UQ : w3.cell? ⟨zD, 1, none⟩ = some (.slice bX ae.length bN) := (aH pO.out 1).trans rfl; have UR := bG pO.out 0; have UT := bG pO.out 1) | ((with_reducible refine au (f := 44) rfl ?_); refine gl 8 Try.func44 #[.agg #[.int .i64 ay, .slice bX ae.length bN]] ?_; (with_reducible refine (av.calls k ay _ _ ae t479 t480 _ (Kd.cZ bU.out lb) eU.out A2.out).mono ?_); rintro e w5 ⟨rfl, hb⟩; refine ⟨_, rfl, ?_⟩; replace pO := ak (bo pO hb); replace HB := ak (bl hb); clear hb))
 go_loopg [3, 5] k (fun kq v3 v5 w' => ∃ (ny : Int) (bV : Int), v3 = .int .i64 ny ∧ v5 = .int .i64 bV ∧ ag (aT.l0 kq ny bV ay ae = some r) ∧ ag (kq ≤ k) ∧ ag (w'.heap[zD]? = some (.cells #[.int .i64 ay, (.slice bX ae.length bN)] 24 (0, 0))) ∧ ag (Below w.heap.size w w'))
 case atStart => exact ⟨(t479), (0), sr, sr, H', ⟨Nat.le_refl _⟩, xb pO, ⟨lb⟩⟩
 clear H'
 try clear p2; try clear c3; try clear c4; try clear UO; try clear UQ; try clear UR; try clear UT
 obtain ⟨ny, bV, rfl, rfl, HA, HK1, pO, HB⟩ := hrel
 cases gk with
 | zero => exact absurd HA.out (by simp [aT.l0])
 | succ k1 => ?_
 have H := HA.out
 clear HA
 simp only [aT.l0] at H
 have HC6 := ak H
 clear H
 go_upto_region 3 with (fail)
 go_cut [19] (fun v19 wc => ∃ (kq : Nat) (Tj : Bool), v19 = .bool Tj ∧ ag (aT.j1 kq ny bV Tj ay ae = some r) ∧ ag (kq ≤ k1) ∧ ag (wc.heap[zD]? = some (.cells #[.int .i64 ay, (.slice bX ae.length bN)] 24 (0, 0))) ∧ ag (Below w.heap.size w wc))
 case first =>
  have H := HC6.out
  clear HC6
  by_cases c7 : ny = 0
  rotate_left
  ·
   rw [if_neg c7] at H
   have c7b0 := bn c7
   have c7b1 : (ny != 0) = true := bne_iff_ne.mpr c7
   (first | rw [c7b0] | (simp only [jA, jG]; rw [c7b0]) | skip)
   have H' := ak H
   clear H
   go_wp2
   go_meet
   case rel => exact ⟨_, (false), sr, H', ⟨by have := HK1.out; first | omega | exact Nat.le_refl _⟩, xb pO, ⟨lb⟩⟩
  rw [if_pos c7] at H
  have c7b0 := be c7
  have c7b1 : (ny != 0) = false := bne_eq_false_iff_eq.mpr c7
  clear c7
  (first | rw [c7b0] | (simp only [jA, jG]; rw [c7b0]) | skip)
  have H' := ak H
  clear H
  have UD : wr.cell? ⟨zD, 0, none⟩ = some (.int .i64 ay) := (aH pO.out 0).trans rfl
  have UE : wr.cell? ⟨zD, 1, none⟩ = some (.slice bX ae.length bN) := (aH pO.out 1).trans rfl
  have UF := bG pO.out 0
  have UG := bG pO.out 1
  go_wp2
  go_meet
  case rel => exact ⟨_, (decide (bV < (ae.length : Int))), sr, H', ⟨by have := HK1.out; first | omega | exact Nat.le_refl _⟩, xb pO, ⟨lb⟩⟩
 case rest =>
  clear HC6
  try clear p2; try clear c3; try clear c4; try clear c7; try clear c7b0; try clear c7b1; try clear UO; try clear UQ; try clear UD; try clear UE; try clear UR; try clear UT; try clear UF; try clear UG; try clear p2
  obtain ⟨kq, Tj, rfl, HA, HJ5, pO, HB⟩ := hcut
  cases kq with
  | zero => exact absurd HA.out (by simp [aT.j1])
  | succ kj5 =>
   have H := HA.out
   clear HA
   simp only [aT.j1] at H
   by_cases c9 : Tj = true
   rotate_left
   ·
    replace c9 := Bool.eq_false_iff.mpr c9
    subst c9
    have H1 : (some ny) = some r := by rw [if_neg (show ¬ (false = true) by decide)] at H; exact H
    clear H
    have H := H1
    clear H1
    obtain rfl := Option.some.inj H
    go_wp2
    go_ret
    exact ⟨er, lb⟩

   subst c9
   have H1 : (if 0 ≤ bV then (if bV < (ae.length : Int) then (if ((aa ae bV).f3) < 0 then (aT.l0 kj5 80 (wrap64 (bV + 1)) ay ae) else (aT.l0 kj5 ny (wrap64 (bV + 1)) ay ae)) else (none)) else (none)) = some r := by rw [if_pos rfl] at H; exact H
   clear H
   have H := H1
   clear H1
   by_cases c10 : 0 ≤ bV
   rotate_left
   ·
    rw [if_neg c10] at H
    exact absurd H (by simp)
   rw [if_pos c10] at H
   have c10b0 := decide_eq_true c10
   clear c10
   by_cases c11 : bV < (ae.length : Int)
   rotate_left
   ·
    rw [if_neg c11] at H
    exact absurd H (by simp)
   rw [if_pos c11] at H
   have c11b0 := decide_eq_true c11
   clear c11
   by_cases c12 : ((aa ae bV).f3) < 0
   rotate_left
   ·
    rw [if_neg c12] at H
    have c12b0 := decide_eq_false c12
    clear c12
    have H' := ak H
    clear H
    have hcz14_0 : wc.cell? ⟨zD, 0, none⟩ = some (.int .i64 ay) := (aH pO.out 0).trans rfl
    have hcz14_1 : wc.cell? ⟨zD, 1, none⟩ = some (.slice bX ae.length bN) := (aH pO.out 1).trans rfl
    have hfz14_0 := bG pO.out 0
    have hfz14_1 := bG pO.out 1
    have XC : 0 ≤ (bV : Int) := oda
    have XD : bV < (ae.length : Int) := oda
    obtain ⟨ad481, e481, BC, BD, BF, BG⟩ := dU bU.out bV XC XD
    cases e481
    (try replace BC := hbc HB BC)
    (try replace BD := hbc HB BD)
    (try replace BF := hbc HB BF)
    (try replace BG := hbc HB BG)
    replace XC := eq_true XC
    replace XD := eq_true XD
    go_wp2
    go_roundg kj5
    case measure => have := HK1.out; have := HJ5.out; omega
    case rel => exact ⟨(ny), (wrap64 (bV + 1)), sr, sr, H', ⟨by have := HK1.out; have := HJ5.out; omega⟩, xb pO, ⟨lb⟩⟩
   rw [if_pos c12] at H
   have c12b0 := decide_eq_true c12
   clear c12
   have H' := ak H
   clear H
   have hcz13_0 : wc.cell? ⟨zD, 0, none⟩ = some (.int .i64 ay) := (aH pO.out 0).trans rfl
   have hcz13_1 : wc.cell? ⟨zD, 1, none⟩ = some (.slice bX ae.length bN) := (aH pO.out 1).trans rfl
   have hfz13_0 := bG pO.out 0
   have hfz13_1 := bG pO.out 1
   have XC : 0 ≤ (bV : Int) := oda
   have XD : bV < (ae.length : Int) := oda
   obtain ⟨ad481, e481, BC, BD, BF, BG⟩ := dU bU.out bV XC XD
   cases e481
   (try replace BC := hbc HB BC)
   (try replace BD := hbc HB BD)
   (try replace BF := hbc HB BF)
   (try replace BG := hbc HB BG)
   replace XC := eq_true XC
   replace XD := eq_true XD
   go_wp2
   go_roundg kj5
   case measure => have := HK1.out; have := HJ5.out; omega
   case rel => exact ⟨(80), (wrap64 (bV + 1)), sr, sr, H', ⟨by have := HK1.out; have := HJ5.out; omega⟩, xb pO, ⟨lb⟩⟩
end Go.Proofs.Ytkdoihcjhccliaa.Q
-- PRINTED by print.py (a twelfth state) out of the translation. Not trusted: Lean checks it.
namespace Go.Proofs.Ytkdoihcjhccliaa.Q
open Go.RowKit Go.Proofs.YtkdoihcjhccliaaW.PrintWords Go.Proofs.YtkdoihcjhccliaaW.PrintLast Go.Proofs.YtkdoihcjhccliaaW.PrintMore
attribute [local go_sem] dF dG eG eH cz cB dH dI   -- for this text's walks alone
set_option linter.unusedVariables false
set_option linter.unusedSimpArgs false

/-! ### bD: function 92 -/
def bD.l0 : Nat → List Int → List Int → Int → Int → Option (List Int)
  | 0, _, _, _, _ => none
  | k + 1, x0, x3, x4, x5 => if x5 < (x0.length : Int) then (if 0 ≤ x5 then (if (rd x0 x5) = x5 then (if x5 < (x3.length : Int) then (bD.l0 k x0 (x3.set (x5 : Int).toNat x4) (wrap64 (x4 + 1)) (wrap64 (x5 + 1))) else (none)) else (if 0 ≤ (rd x0 x5) then (if (rd x0 x5) < (x3.length : Int) then (if x5 < (x3.length : Int) then (bD.l0 k x0 (x3.set (x5 : Int).toNat (rd x3 (rd x0 x5))) x4 (wrap64 (x5 + 1))) else (none)) else (none)) else (none))) else (none)) else (some x3)
def bD.f (k : Nat) (l0 : List Int) : Option (List Int) := if 0 ≤ (l0.length : Int) then (if ((l0.length : Int) : Int).toNat ≤ 35184372088832 then (bD.l0 k l0 (List.replicate ((l0.length : Int) : Int).toNat 0) 0 0) else (none)) else (none)
set_option maxHeartbeats 8000000 in
set_option maxRecDepth 100000 in
theorem bD.calls (k : Nat) (A0 : Option Addr) (c0 : Nat) (l0 : List Int) (r : List Int) (w : World) (hr0 : Kd.C (Kd.int .i64) w A0 l0.length l0) (hc0 : l0.length ≤ c0) (h : bD.f k l0 = some r) :
    Calls Try.prog 92 #[.slice A0 l0.length c0] w fun e w' => ∃ v0_ : Value, e = .returned (v0_) ∧ Kd.R (Kd.int .i64) 3 w' w.heap.size (fun _ => True) v0_ r ∧ Below w.heap.size w w' := by
 have HR0 := ak hr0
 have HC0 := ak hc0
 clear hr0 hc0
 have HB := ak (Below.refl w.heap.size w)
 have H : (if 0 ≤ (l0.length : Int) then (if ((l0.length : Int) : Int).toNat ≤ 35184372088832 then (bD.l0 k l0 (List.replicate ((l0.length : Int) : Int).toNat 0) 0 0) else (none)) else (none)) = some r := h
 clear h
 by_cases c2 : 0 ≤ (l0.length : Int)
 rotate_left
 ·
  rw [if_neg c2] at H
  exact absurd H (by simp)

 rw [if_pos c2] at H
 have c2b0 := eq_true c2
 have c2b1 : decide (0 ≤ (l0.length : Int)) = true := decide_eq_true c2
 clear c2
 by_cases c3 : ((l0.length : Int) : Int).toNat ≤ 35184372088832
 rotate_left
 ·
  rw [if_neg c3] at H
  exact absurd H (by simp)
 rw [if_pos c3] at H
 have c3b0 := eq_true c3
 have c3b1 : decide (((l0.length : Int) : Int).toNat ≤ 35184372088832) = true := decide_eq_true c3
 clear c3
 obtain ⟨y482, Zv⟩ : ∃ y_ : List Int, y_ = (List.replicate ((l0.length : Int) : Int).toNat 0) := ⟨_, rfl⟩
 replace H : (bD.l0 k l0 y482 0 0) = some r := by first | (rw [Zv]; exact H) | exact H
 have aeg := ak Zv
 clear Zv
 have H' := ak H
 clear H
 go_enter Try.func92, Try.ntmps92
 go_wp2_with (first | ((with_reducible refine aC (N := 8) rfl ?_); refine Kd.ni (Kd.int .i64) _ 3 rfl (N := 8) rfl 70 _ _ rfl (l0.length : Int) rfl rfl Try.underlying70 (.int .i64 0) 8 info3 rfl (by decide) (by omega) 0 (ok := fun _ => True) (okp := fun _ => True) rfl (fun _ hk => hk) trivial (oda) (Nat.le_trans (Nat.mul_le_mul_right _ (oda : (l0.length : Int).toNat ≤ 35184372088832)) (by omega)) (Below.refl _ _) (Nat.le_refl _) ?_; intro v483 w4 ho5 hb hg_ hnew_; clear hg_ hnew_; (first | rw [← aeg.out] at ho5 | (simp only [Int.reduceToNat] at ho5; rw [← aeg.out] at ho5)); have n0_ := ak (Kd.bY ho5 (ax lb)); have n1_ := ak (bl hb); clear HB; have HO484 := n0_; have HB := n1_; clear n0_ n1_; clear hb ho5))
 go_loopg [4, 5] k (fun kq v4 v5 w' => ∃ (ny : List Int) (kJ : Int) (bV : Int), v4 = .int .i64 kJ ∧ v5 = .int .i64 bV ∧ ag (bD.l0 kq l0 ny kJ bV = some r) ∧ ag (kq ≤ k) ∧ ag (Kd.R (Kd.int .i64) 3 w' w.heap.size (fun _ => True) v483 ny) ∧ ag (Below w.heap.size w w'))
 case atStart => exact ⟨(y482), (0), (0), sr, sr, H', ⟨Nat.le_refl _⟩, ⟨rx HO484.out⟩, ⟨lb⟩⟩
 clear H'
 try clear c2; try clear c2b0; try clear c2b1; try clear p2; try clear c3; try clear c3b0; try clear c3b1
 obtain ⟨ny, kJ, bV, rfl, rfl, HA, HK1, gz, HB⟩ := hrel
 cases gk with
 | zero => exact absurd HA.out (by simp [bD.l0])
 | succ k1 => ?_
 have H := HA.out
 clear HA
 simp only [bD.l0] at H
 by_cases c6 : bV < (l0.length : Int)
 rotate_left
 ·
  rw [if_neg c6] at H
  have c6b0 := decide_eq_false c6
  clear c6
  obtain rfl := Option.some.inj H
  go_wp2
  go_ret
  exact ⟨_, by first | rfl | (simp [dx, dz] <;> rfl) | (simp [*, dx, dz] <;> rfl), by exact rx gz.out, lb⟩
 rw [if_pos c6] at H
 have c6b0 := decide_eq_true c6
 clear c6
 by_cases c7 : 0 ≤ bV
 rotate_left
 ·
  rw [if_neg c7] at H
  exact absurd H (by simp)
 rw [if_pos c7] at H
 have c7b0 := decide_eq_true c7
 clear c7
 by_cases c8 : (rd l0 bV) = bV
 ·
  rw [if_pos c8] at H
  have c8b0 := be c8
  have c8b1 : ((rd l0 bV) != bV) = false := bne_eq_false_iff_eq.mpr c8
  clear c8
  by_cases c9 : bV < (ny.length : Int)
  rotate_left
  ·
   rw [if_neg c9] at H
   exact absurd H (by simp)
  rw [if_pos c9] at H
  have c9b0 := decide_eq_true c9
  clear c9
  obtain ⟨y486, Zw⟩ : ∃ y_ : List Int, y_ = (ny.set (bV : Int).toNat kJ) := ⟨_, rfl⟩
  replace H : (bD.l0 k1 l0 y486 (wrap64 (kJ + 1)) (wrap64 (bV + 1))) = some r := by first | (rw [Zw]; exact H) | exact H
  have Ny486 := ak Zw
  clear Zw
  have H' := ak H
  clear H
  have Zx : 0 ≤ (bV : Int) := oda
  have Zy : bV < (l0.length : Int) := oda
  obtain ⟨aeh, e485, Di⟩ := Kd.bB HR0.out bV Zx Zy
  cases e485
  (try replace Di := hbc HB Di)
  replace Zx := eq_true Zx
  replace Zy := eq_true Zy
  have p10 : 0 ≤ (bV : Int) := oda
  have q10 : (bV : Int) < ((ny.length : Int) : Int) := oda
  obtain ⟨go10, co10, eo10, gb10, gl10, cl10, HG10⟩ := Kd.l9 gz.out (by omega)
  (first | cases eo10 | (injection eo10 with ea_ en_ ec_; (first | subst ea_ | (injection ea_ with ea_; subst ea_)); subst ec_; clear en_))
  have GB10 := ak gb10
  have GG10 := ak HG10
  clear gb10 gl10 HG10
  obtain ⟨abw, abx⟩ := Kd.gJ 0 gz.out (bV : Int) p10 q10
  replace p10 := eq_true p10
  replace q10 := eq_true q10
  have HP11 := Kd.lL gz.out (bV : Int) kJ
  go_wp2_with (first | ((with_reducible refine fG (t := 3) (p := 24) rfl ?_); refine eQ (t := 3) (p := 24) (v := ?vo_w12) (w1 := (wr.setCell ⟨go10, (bV : Int).toNat, none⟩ (.int .i64 kJ))) ?hg ?ho ?hn ?hr ?_; (case ho => rfl); (case hg => rfl); (case hn => rfl); (case hr => first | (go_simp; done) | (go_simp; rfl)); intro w12 hw; have hg : wr.grownBy w12 (some go10) := (by rw [hw]; exact HP11.2); have hp_ : Kd.R (Kd.int .i64) 3 w12 w.heap.size (fun _ => True) (.slice (some ⟨go10, 0, none⟩) ny.length co10) y486 := (by rw [hw, Ny486.out]; exact HP11.1); clear HP11; have n0_ := ak (hp_); have n1_ := ak ((by rw [hw]; exact bR (HB.out) GB10.out : Below w.heap.size w w12)); clear gz; clear HB; have gz := n0_; have HB := n1_; clear n0_ n1_; clear hg hw hp_))
  go_roundg k1
  case measure => have := HK1.out; omega
  case rel => exact ⟨(y486), (wrap64 (kJ + 1)), (wrap64 (bV + 1)), sr, sr, H', ⟨by have := HK1.out; omega⟩, ⟨rx gz.out⟩, ⟨lb⟩⟩
 rw [if_neg c8] at H
 have c8b0 := bn c8
 have c8b1 : ((rd l0 bV) != bV) = true := bne_iff_ne.mpr c8
 by_cases c13 : 0 ≤ (rd l0 bV)
 rotate_left
 ·
  rw [if_neg c13] at H
  exact absurd H (by simp)
 rw [if_pos c13] at H
 have c13b0 := decide_eq_true c13
 clear c13
 by_cases c14 : (rd l0 bV) < (ny.length : Int)
 rotate_left
 ·
  rw [if_neg c14] at H
  exact absurd H (by simp)
 rw [if_pos c14] at H
 have c14b0 := decide_eq_true c14
 clear c14
 by_cases c15 : bV < (ny.length : Int)
 rotate_left
 ·
  rw [if_neg c15] at H
  exact absurd H (by simp)
 rw [if_pos c15] at H
 have c15b0 := decide_eq_true c15
 clear c15
 obtain ⟨y489, Zz⟩ : ∃ y_ : List Int, y_ = (ny.set (bV : Int).toNat (rd ny (rd l0 bV))) := ⟨_, rfl⟩
 replace H : (bD.l0 k1 l0 y489 kJ (wrap64 (bV + 1))) = some r := by first | (rw [Zz]; exact H) | exact H
 have Ny489 := ak Zz
 clear Zz
 have H' := ak H
 clear H
 have Zx : 0 ≤ (bV : Int) := oda
 have Zy : bV < (l0.length : Int) := oda
 obtain ⟨aeh, e485, Di⟩ := Kd.bB HR0.out bV Zx Zy
 cases e485
 (try replace Di := hbc HB Di)
 replace Zx := eq_true Zx
 replace Zy := eq_true Zy
 have p487 : 0 ≤ (bV : Int) := oda
 have q487 : bV < (l0.length : Int) := oda
 obtain ⟨ad487, e487, QU⟩ := Kd.bB HR0.out bV p487 q487
 obtain rfl : aeh = ad487 := (by injection e487)
 (try replace QU := hbc HB QU)
 replace p487 := eq_true p487
 replace q487 := eq_true q487
 obtain ⟨Ao17, co17, eo17⟩ := Kd.bT gz.out
 subst eo17
 have p488 : 0 ≤ ((rd l0 bV) : Int) := oda
 have q488 : (rd l0 bV) < (ny.length : Int) := oda
 obtain ⟨ad488, e488, ZA⟩ := Kd.bB (Kd.aA gz.out).2.2 (rd l0 bV) p488 q488
 cases e488
 replace p488 := eq_true p488
 replace q488 := eq_true q488
 have p16 : 0 ≤ (bV : Int) := oda
 have q16 : (bV : Int) < ((ny.length : Int) : Int) := oda
 obtain ⟨go16, co16, eo16, gb16, gl16, cl16, HG16⟩ := Kd.l9 gz.out (by omega)
 (first | cases eo16 | (injection eo16 with ea_ en_ ec_; (first | subst ea_ | (injection ea_ with ea_; subst ea_)); subst ec_; clear en_))
 have GB16 := ak gb16
 have GG16 := ak HG16
 clear gb16 gl16 HG16
 (first | simp only [add_plain] at ZA | skip)
 obtain ⟨QM, QN⟩ := Kd.gJ 0 gz.out (bV : Int) p16 q16
 replace p16 := eq_true p16
 replace q16 := eq_true q16
 have HP18 := Kd.lL gz.out (bV : Int) (rd ny (rd l0 bV))
 go_wp2_with (first | ((with_reducible refine fG (t := 3) (p := 36) rfl ?_); refine eQ (t := 3) (p := 36) (v := ?vo_w19) (w1 := (wr.setCell ⟨go16, (bV : Int).toNat, none⟩ (.int .i64 (rd ny (rd l0 bV))))) ?hg ?ho ?hn ?hr ?_; (case ho => rfl); (case hg => rfl); (case hn => rfl); (case hr => first | (go_simp; done) | (go_simp; rfl)); intro w19 hw; have hg : wr.grownBy w19 (some go16) := (by rw [hw]; exact HP18.2); have hp_ : Kd.R (Kd.int .i64) 3 w19 w.heap.size (fun _ => True) (.slice (some ⟨go16, 0, none⟩) ny.length co17) y489 := (by rw [hw, Ny489.out]; exact HP18.1); clear HP18; have n0_ := ak (hp_); have n1_ := ak ((by rw [hw]; exact bR (HB.out) GB16.out : Below w.heap.size w w19)); clear gz; clear HB; have gz := n0_; have HB := n1_; clear n0_ n1_; clear hg hw hp_))
 go_roundg k1
 case measure => have := HK1.out; omega
 case rel => exact ⟨(y489), (kJ), (wrap64 (bV + 1)), sr, sr, H', ⟨by have := HK1.out; omega⟩, ⟨rx gz.out⟩, ⟨lb⟩⟩
end Go.Proofs.Ytkdoihcjhccliaa.Q
namespace Go.Proofs.Ytkdoihcjhccliaa.Q
open Go.RowKit Go.Proofs.YtkdoihcjhccliaaW.PrintWords Go.Proofs.YtkdoihcjhccliaaW.PrintLast Go.Proofs.YtkdoihcjhccliaaW.PrintMore
attribute [local go_sem] dF dG eG eH cz cB dH dI   -- for this text's walks alone
set_option linter.unusedVariables false
set_option linter.unusedSimpArgs false

/-! ### bM: function 88 -/
mutual
def bM.l0 : Nat → List Int → Int → Int → List (S98) → Option (List Int × Int)
  | 0, _, _, _, _ => none
  | k + 1, x6, x7, rM, kZ => if x7 < rM then (if 0 ≤ x7 then (if x7 < (x6.length : Int) then (bM.l0 k (x6.set (x7 : Int).toNat x7) (wrap64 (x7 + 1)) rM kZ) else (none)) else (none)) else (bM.l1 k x6 0 rM kZ)
def bM.l1 : Nat → List Int → Int → Int → List (S98) → Option (List Int × Int)
  | 0, _, _, _, _ => none
  | k + 1, x6, x8, rM, kZ => if x8 < rM then (bM.l2 k x6 x8 0 rM kZ) else ((bD.f k x6).bind fun t497 => (some (t497, 0)))
def bM.l2 : Nat → List Int → Int → Int → Int → List (S98) → Option (List Int × Int)
  | 0, _, _, _, _, _ => none
  | k + 1, x6, x8, x9, rM, kZ => if x9 < (kZ.length : Int) then (if 0 ≤ x9 then (if 0 ≤ ((aa kZ x9).f0) then (if ((aa kZ x9).f0) < (x6.length : Int) then (if 0 ≤ ((aa kZ x9).f1) then (if ((aa kZ x9).f1) < (x6.length : Int) then (if (rd x6 ((aa kZ x9).f0)) < (rd x6 ((aa kZ x9).f1)) then (bM.l2 k (x6.set (((aa kZ x9).f1) : Int).toNat (rd x6 ((aa kZ x9).f0))) x8 (wrap64 (x9 + 1)) rM kZ) else (bM.l2 k (x6.set (((aa kZ x9).f0) : Int).toNat (rd x6 ((aa kZ x9).f1))) x8 (wrap64 (x9 + 1)) rM kZ)) else (none)) else (none)) else (none)) else (none)) else (none)) else (bM.l1 k x6 (wrap64 (x8 + 1)) rM kZ)
end
def bM.f (k : Nat) (ay : Int) (ae : List (S98)) : Option (List Int × Int) := (av.f k ay ae).bind fun aeK => (if aeK.1 = 0 then (if 0 ≤ ay then (if (ay : Int).toNat ≤ 35184372088832 then (bM.l0 k (List.replicate (ay : Int).toNat 0) 0 ay ae) else (none)) else (none)) else (some (([] : List Int), aeK.1)))
end Go.Proofs.Ytkdoihcjhccliaa.Q
-- PRINTED by print.py (a twelfth state) out of the translation. Not trusted: Lean checks it.
namespace Go.Proofs.Ytkdoihcjhccliaa.Q
open Go.RowKit Go.Proofs.YtkdoihcjhccliaaW.PrintWords Go.Proofs.YtkdoihcjhccliaaW.PrintLast Go.Proofs.YtkdoihcjhccliaaW.PrintMore
attribute [local go_sem] dF dG eG eH cz cB dH dI   -- for this text's walks alone
set_option linter.unusedVariables false
set_option linter.unusedSimpArgs false

/-! ### dD: function 68 -/
def dD.l0 : Nat → List Int → Int → Int → List (S98) → Option (Bool)
  | 0, _, _, _, _ => none
  | k + 1, x3, x5, aae, tL => if x5 < (tL.length : Int) then (if 0 ≤ x5 then (if 0 ≤ ((aa tL x5).f0) then (if ((aa tL x5).f0) < (x3.length : Int) then (if 0 < (tL.length : Int) then (if 0 ≤ ((aa tL 0).f0) then (if ((aa tL 0).f0) < (x3.length : Int) then (if (rd x3 ((aa tL x5).f0)) = (rd x3 ((aa tL 0).f0)) then (dD.l0 k x3 (wrap64 (x5 + 1)) aae tL) else (some false)) else (none)) else (none)) else (none)) else (none)) else (none)) else (none)) else (some true)
def dD.f (k : Nat) (ay : Int) (ae : List (S98)) : Option (Bool) := (bM.f k ay ae).bind fun ZZ => (dD.l0 k ZZ.1 1 ay ae)
end Go.Proofs.Ytkdoihcjhccliaa.Q
-- PRINTED by print.py (a twelfth state) out of the translation. Not trusted: Lean checks it.
namespace Go.Proofs.Ytkdoihcjhccliaa.Q
open Go.RowKit Go.Proofs.YtkdoihcjhccliaaW.PrintWords Go.Proofs.YtkdoihcjhccliaaW.PrintLast Go.Proofs.YtkdoihcjhccliaaW.PrintMore
attribute [local go_sem] dF dG eG eH cz cB dH dI   -- for this text's walks alone
set_option linter.unusedVariables false
set_option linter.unusedSimpArgs false

/-! ### aU: function 27 -/
mutual
def aU.j0 : Nat → List Int → List Int → Bool → Int → List (S98) → Option (Int × Int)
  | 0, _, _, _, _, _ => none
  | k + 1, x1, x2, x30, Dx, rO => if x30 = true then (some (0, 221)) else (aU.l0 k x1 x2 0 Dx rO)
def aU.l0 : Nat → List Int → List Int → Int → Int → List (S98) → Option (Int × Int)
  | 0, _, _, _, _, _ => none
  | k + 1, x1, x2, x9, Dx, rO => if x9 < (x1.length : Int) then (if 0 ≤ x9 then (if x9 < (rO.length : Int) then ((mG.f ((aa rO x9).f0) ((aa rO x9).f1) ((aa rO x9).f2) ((aa rO x9).f3) x2).bind fun t523 => (if t523 < 0 then (some (0, 221)) else (if t523 > 0 then (if (rd x1 x9) > 1 then (some (0, 221)) else (aU.l0 k x1 x2 (wrap64 (x9 + 1)) Dx rO)) else (aU.l0 k x1 x2 (wrap64 (x9 + 1)) Dx rO)))) else (none)) else (none)) else ((cK.f k Dx rO x1).bind fun t525 => (some (t525, 0)))
end
def aU.f (k : Nat) (ay : Int) (ae : List (S98)) (l1 : List Int) (l2 : List Int) : Option (Int × Int) := (aT.f k ay ae).bind fun aeJ => (if aeJ = 0 then ((bQ.f k ay ae l1).bind fun Z9 => (if Z9 = true then ((dD.f k ay ae).bind fun R6 => (if R6 = true then ((dL.f k ay ae l2).bind fun JM => (aU.j0 k l1 l2 (!JM) ay ae)) else (aU.j0 k l1 l2 true ay ae))) else (aU.j0 k l1 l2 true ay ae))) else (some (0, aeJ)))
end Go.Proofs.Ytkdoihcjhccliaa.Q
-- PRINTED by print.py (a twelfth state) out of the translation. Not trusted: Lean checks it.
namespace Go.Proofs.Ytkdoihcjhccliaa.Q
open Go.RowKit Go.Proofs.YtkdoihcjhccliaaW.PrintWords Go.Proofs.YtkdoihcjhccliaaW.PrintLast Go.Proofs.YtkdoihcjhccliaaW.PrintMore
attribute [local go_sem] dF dG eG eH cz cB dH dI   -- for this text's walks alone
set_option linter.unusedVariables false
set_option linter.unusedSimpArgs false

/-! ### aW: function 29 -/
mutual
def aW.l0 : Nat → List Bool → Int → Int → Int → Int → List (S98) → Option (Int)
  | 0, _, _, _, _, _, _ => none
  | k + 1, x1, x7, x8, x9, pU, kg => if x9 < (kg.length : Int) then (if 0 ≤ x9 then (if 0 ≤ ((aa kg x9).f0) then (if ((aa kg x9).f0) < (x1.length : Int) then (if 0 ≤ ((aa kg x9).f1) then (if ((aa kg x9).f1) < (x1.length : Int) then (if fF false x1 ((aa kg x9).f0) = true then (aW.j1 k x1 x7 x8 x9 (fF false x1 ((aa kg x9).f0)) (fF false x1 ((aa kg x9).f1)) (!(fF false x1 ((aa kg x9).f1))) pU kg) else (aW.j1 k x1 x7 x8 x9 (fF false x1 ((aa kg x9).f0)) (fF false x1 ((aa kg x9).f1)) false pU kg)) else (none)) else (none)) else (none)) else (none)) else (none)) else (if x7 = 0 then (some 221) else (if x8 = 0 then (some 221) else (some 0)))
def aW.j1 : Nat → List Bool → Int → Int → Int → Bool → Bool → Bool → Int → List (S98) → Option (Int)
  | 0, _, _, _, _, _, _, _, _, _ => none
  | k + 1, x1, x7, x8, x9, x10, x11, x54, pU, kg => if x54 = true then (some 221) else (if x10 = true then (aW.j2 k x1 x7 x8 x9 x10 x11 true pU kg) else (aW.j2 k x1 x7 x8 x9 x10 x11 x11 pU kg))
def aW.j2 : Nat → List Bool → Int → Int → Int → Bool → Bool → Bool → Int → List (S98) → Option (Int)
  | 0, _, _, _, _, _, _, _, _, _ => none
  | k + 1, x1, x7, x8, x9, x10, x11, x58, pU, kg => if x58 = true then (if x10 = true then (if x11 = true then (aW.l0 k x1 (wrap64 (x7 + 1)) x8 (wrap64 (x9 + 1)) pU kg) else (aW.l0 k x1 (wrap64 (x7 + 1)) (wrap64 (x8 + 1)) (wrap64 (x9 + 1)) pU kg)) else (aW.l0 k x1 (wrap64 (x7 + 1)) (wrap64 (x8 + 1)) (wrap64 (x9 + 1)) pU kg)) else (if x10 = true then (if x11 = true then (aW.l0 k x1 x7 x8 (wrap64 (x9 + 1)) pU kg) else (aW.l0 k x1 x7 (wrap64 (x8 + 1)) (wrap64 (x9 + 1)) pU kg)) else (aW.l0 k x1 x7 (wrap64 (x8 + 1)) (wrap64 (x9 + 1)) pU kg))
end
def aW.f (k : Nat) (ay : Int) (ae : List (S98)) (l1 : List Bool) : Option (Int) := (av.f k ay ae).bind fun Ib => (if Ib.1 = 0 then (if (l1.length : Int) = ay then (aW.l0 k l1 0 0 0 ay ae) else (some 221)) else (some Ib.1))
end Go.Proofs.Ytkdoihcjhccliaa.Q
