import Derived.Test.YtkdoihcjhccliaaQ0
namespace Go.Proofs.Ytkdoihcjhccliaa.Q
open Go.RowKit Go.Proofs.YtkdoihcjhccliaaW.PrintWords Go.Proofs.YtkdoihcjhccliaaW.PrintLast Go.Proofs.YtkdoihcjhccliaaW.PrintMore
attribute [local go_sem] dF dG eG eH cz cB dH dI   -- for this text's walks alone
set_option linter.unusedVariables false
set_option linter.unusedSimpArgs false

/-! ### bP: function 18 -/
def bP.l0 : Nat → List Int → Int → Int → Int → Int → List (S98) → Option (Int)
  | 0, _, _, _, _, _, _ => none
  | k + 1, x1, x2, x7, x8, E8, vw => if x8 < (x1.length : Int) then (if 0 ≤ x8 then (if x8 < (vw.length : Int) then (if ((aa vw x8).f0) = x2 then (if ((aa vw x8).f1) = x2 then (bP.l0 k x1 x2 (wrap64 ((wrap64 (x7 + (rd x1 x8))) - (rd x1 x8))) (wrap64 (x8 + 1)) E8 vw) else (bP.l0 k x1 x2 (wrap64 (x7 + (rd x1 x8))) (wrap64 (x8 + 1)) E8 vw)) else (if ((aa vw x8).f1) = x2 then (bP.l0 k x1 x2 (wrap64 (x7 - (rd x1 x8))) (wrap64 (x8 + 1)) E8 vw) else (bP.l0 k x1 x2 x7 (wrap64 (x8 + 1)) E8 vw))) else (none)) else (none)) else (some x7)
def bP.f (k : Nat) (ay : Int) (ae : List (S98)) (l1 : List Int) (a2 : Int) : Option (Int) := bP.l0 k l1 a2 0 0 ay ae
set_option maxHeartbeats 8000000 in
set_option maxRecDepth 100000 in
theorem bP.calls (k : Nat) (ay : Int) (bX : Option Addr) (bN : Nat) (ae : List (S98)) (A1 : Option Addr) (c1 : Nat) (l1 : List Int) (a2 : Int) (r : Int) (w : World) (dB : Kd.C k98 w bX ae.length ae) (dC : ae.length ≤ bN) (hr1 : Kd.C (Kd.int .i64) w A1 l1.length l1) (hc1 : l1.length ≤ c1) (h : bP.f k ay ae l1 a2 = some r) :
    Calls Try.prog 18 #[.agg #[.int .i64 ay, .slice bX ae.length bN], .slice A1 l1.length c1, .int .i64 a2] w fun e w' => e = .returned (.int .i64 r) ∧ Below w.heap.size w w' := by
 have hu24 := Try.underlying24; have bU := ak dB; have eU := ak dC; clear dB dC; have HR1 := ak hr1; have HC1 := ak hc1; clear hr1 hc1; have HB := ak (Below.refl w.heap.size w); have H : (bP.l0 k l1 a2 0 0 ay ae) = some r := h; clear h; have H' := ak H; clear H
 go_enter Try.func18, Try.ntmps18
 go_wp2_with (first | ((with_reducible refine aC (N := 3) rfl ?_); refine bxe 3 #[.int .i64 ay, .slice bX ae.length bN] 24 ?_; intro gb311 hg w4 hbox hb; have n_ := a4 (bl hb) hbox (gw w hg) (gw w hg); clear HB; obtain ⟨HB, DU, GW311, GE311⟩ := n_; clear hb hbox hg))
 go_loopg [7, 8] k (fun kq v7 v8 w' => ∃ (mr : Int) (fQ : Int), v7 = .int .i64 mr ∧ v8 = .int .i64 fQ ∧ ag (bP.l0 kq l1 a2 mr fQ ay ae = some r) ∧ ag (kq ≤ k) ∧ ag (w'.heap[gb311]? = some (.cells #[.int .i64 ay, (.slice bX ae.length bN)] 24 (0, 0))) ∧ ag (Below w.heap.size w w'))
 case atStart => exact ⟨(0), (0), sr, sr, H', ⟨Nat.le_refl _⟩, xb DU, ⟨lb⟩⟩
 clear H'; obtain ⟨mr, fQ, rfl, rfl, HA, HK1, DU, HB⟩ := hrel
 cases gk with
 | zero => exact absurd HA.out (by simp [bP.l0])
 | succ k1 => ?_
 have H := HA.out; clear HA
 simp only [bP.l0] at H
 by_cases c5 : fQ < (l1.length : Int)
 rotate_left
 ·
  rw [if_neg c5] at H; have c5b0 := decide_eq_false c5; clear c5; obtain rfl := Option.some.inj H
  go_wp2
  go_ret
  exact ⟨er, lb⟩

 rw [if_pos c5] at H; have c5b0 := decide_eq_true c5; clear c5; replace H := if2 H; obtain ⟨c6b0, c7b0, H⟩ := H
 by_cases c8 : ((aa ae fQ).f0) = a2
 rotate_left
 ·
  rw [if_neg c8] at H; have c8b := bn2 c8
  by_cases c12 : ((aa ae fQ).f1) = a2
  rotate_left
  ·
   rw [if_neg c12] at H; have c12b := bn2 c12; have H' := ak H; clear H; have ⟨_, _, _, _⟩ := cf2 DU; obtain ⟨p312, q312, I8, e312, qw, qx, qy, qz⟩ := wq (dU bU.out fQ); cases e312
   (try replace qw := hbc HB qw)
   (try replace qx := hbc HB qx)
   (try replace qy := hbc HB qy)
   (try replace qz := hbc HB qz); obtain ⟨p316, q316, Xz, e316, Bp, Bq, Br, Bt⟩ := wq (dU bU.out fQ)
   obtain rfl : I8 = Xz := (by injection e316)
   (try replace Bp := hbc HB Bp)
   (try replace Bq := hbc HB Bq)
   (try replace Br := hbc HB Br)
   (try replace Bt := hbc HB Bt)
   go_wp2
   go_roundg k1
   case measure => have := HK1.out; omega
   case rel => exact ⟨(mr), (wrap64 (fQ + 1)), sr, sr, H', ⟨by have := HK1.out; omega⟩, xb DU, ⟨lb⟩⟩
  rw [if_pos c12] at H; have c12b := be2 c12; clear c12; have H' := ak H; clear H; have ⟨_, _, _, _⟩ := cf2 DU; obtain ⟨p312, q312, I8, e312, qw, qx, qy, qz⟩ := wq (dU bU.out fQ); cases e312
  (try replace qw := hbc HB qw)
  (try replace qx := hbc HB qx)
  (try replace qy := hbc HB qy)
  (try replace qz := hbc HB qz); obtain ⟨p316, q316, Xz, e316, Bp, Bq, Br, Bt⟩ := wq (dU bU.out fQ)
  obtain rfl : I8 = Xz := (by injection e316)
  (try replace Bp := hbc HB Bp)
  (try replace Bq := hbc HB Bq)
  (try replace Br := hbc HB Br)
  (try replace Bt := hbc HB Bt); obtain ⟨p317, q317, ad317, e317, OQ⟩ := wq (Kd.bB HR1.out fQ); cases e317
  (try replace OQ := hbc HB OQ)
  go_wp2
  go_roundg k1
  case measure => have := HK1.out; omega
  case rel => exact ⟨(wrap64 (mr - (rd l1 fQ))), (wrap64 (fQ + 1)), sr, sr, H', ⟨by have := HK1.out; omega⟩, xb DU, ⟨lb⟩⟩
 rw [if_pos c8] at H; have c8b := be2 c8; clear c8
 by_cases c9 : ((aa ae fQ).f1) = a2
 rotate_left
 ·
  rw [if_neg c9] at H; have c9b := bn2 c9; have H' := ak H; clear H; have ⟨_, _, _, _⟩ := cf2 DU; obtain ⟨p312, q312, I8, e312, qw, qx, qy, qz⟩ := wq (dU bU.out fQ); cases e312
  (try replace qw := hbc HB qw)
  (try replace qx := hbc HB qx)
  (try replace qy := hbc HB qy)
  (try replace qz := hbc HB qz); obtain ⟨p313, q313, acD, e313, Bu⟩ := wq (Kd.bB HR1.out fQ); cases e313
  (try replace Bu := hbc HB Bu); obtain ⟨p314, q314, XA, e314, Bv, Bw, Bz, BA⟩ := wq (dU bU.out fQ)
  obtain rfl : I8 = XA := (by injection e314)
  (try replace Bv := hbc HB Bv)
  (try replace Bw := hbc HB Bw)
  (try replace Bz := hbc HB Bz)
  (try replace BA := hbc HB BA)
  go_wp2
  go_roundg k1
  case measure => have := HK1.out; omega
  case rel => exact ⟨(wrap64 (mr + (rd l1 fQ))), (wrap64 (fQ + 1)), sr, sr, H', ⟨by have := HK1.out; omega⟩, xb DU, ⟨lb⟩⟩
 rw [if_pos c9] at H; have c9b := be2 c9; clear c9; have H' := ak H; clear H; have ⟨_, _, _, _⟩ := cf2 DU; obtain ⟨p312, q312, I8, e312, qw, qx, qy, qz⟩ := wq (dU bU.out fQ); cases e312
 (try replace qw := hbc HB qw)
 (try replace qx := hbc HB qx)
 (try replace qy := hbc HB qy)
 (try replace qz := hbc HB qz); obtain ⟨p313, q313, acD, e313, Bu⟩ := wq (Kd.bB HR1.out fQ); cases e313
 (try replace Bu := hbc HB Bu); obtain ⟨p314, q314, XA, e314, Bv, Bw, Bz, BA⟩ := wq (dU bU.out fQ)
 obtain rfl : I8 = XA := (by injection e314)
 (try replace Bv := hbc HB Bv)
 (try replace Bw := hbc HB Bw)
 (try replace Bz := hbc HB Bz)
 (try replace BA := hbc HB BA); obtain ⟨p315, q315, ad315, e315, OT⟩ := wq (Kd.bB HR1.out fQ)
 obtain rfl : acD = ad315 := (by injection e315)
 (try replace OT := hbc HB OT)
 go_wp2
 go_roundg k1
 case measure => have := HK1.out; omega
 case rel => exact ⟨(wrap64 ((wrap64 (mr + (rd l1 fQ))) - (rd l1 fQ))), (wrap64 (fQ + 1)), sr, sr, H', ⟨by have := HK1.out; omega⟩, xb DU, ⟨lb⟩⟩
end Go.Proofs.Ytkdoihcjhccliaa.Q
namespace Go.Proofs.Ytkdoihcjhccliaa.Q
open Go.RowKit Go.Proofs.YtkdoihcjhccliaaW.PrintWords Go.Proofs.YtkdoihcjhccliaaW.PrintLast Go.Proofs.YtkdoihcjhccliaaW.PrintMore
attribute [local go_sem] dF dG eG eH cz cB dH dI   -- for this text's walks alone
set_option linter.unusedVariables false
set_option linter.unusedSimpArgs false

/-! ### jc: function 30 -/
mutual
def jc.l0 : Nat → List Int → List Int → Int → Int → List (S98) → Option (Bool)
  | 0, _, _, _, _, _ => none
  | k + 1, x1, x2, x7, yV, xq => if x7 < (x1.length : Int) then (if 0 ≤ x7 then (if (rd x1 x7) < 0 then (some false) else (if x7 < (xq.length : Int) then (if (rd x1 x7) > ((aa xq x7).f2) then (some false) else (jc.l0 k x1 x2 (wrap64 (x7 + 1)) yV xq)) else (none))) else (none)) else (jc.l1 k x1 x2 0 yV xq)
def jc.l1 : Nat → List Int → List Int → Int → Int → List (S98) → Option (Bool)
  | 0, _, _, _, _, _ => none
  | k + 1, x1, x2, x8, yV, xq => if x8 < yV then ((bP.f k yV xq x1 x8).bind fun t322 => (if 0 ≤ x8 then (if x8 < (x2.length : Int) then (if t322 = (rd x2 x8) then (jc.l1 k x1 x2 (wrap64 (x8 + 1)) yV xq) else (some false)) else (none)) else (none))) else (some true)
end
def jc.f (k : Nat) (ay : Int) (ae : List (S98)) (l1 : List Int) (l2 : List Int) : Option (Bool) := if (l1.length : Int) = (ae.length : Int) then (jc.l0 k l1 l2 0 ay ae) else (some false)
end Go.Proofs.Ytkdoihcjhccliaa.Q
namespace Go.Proofs.Ytkdoihcjhccliaa.Q
open Go.RowKit Go.Proofs.YtkdoihcjhccliaaW.PrintWords Go.Proofs.YtkdoihcjhccliaaW.PrintLast Go.Proofs.YtkdoihcjhccliaaW.PrintMore
attribute [local go_sem] dF dG eG eH cz cB dH dI   -- for this text's walks alone
set_option linter.unusedVariables false
set_option linter.unusedSimpArgs false

/-! ### J7: function 19 -/
def J7.f (k : Nat) (ay : Int) (ae : List (S98)) (a1 : Int) (a2 : Int) (l3 : List Int) (a4 : Int) : Option (Bool) := if 0 ≤ ay then (if (ay : Int).toNat ≤ 35184372088832 then ((some (List.replicate (ay : Int).toNat 0 : List Int)).bind fun y325 => (if 0 ≤ a1 then (if a1 < (y325.length : Int) then (if 0 ≤ a2 then (if a2 < (y325.length : Int) then ((jc.f k ay ae l3 ((y325.set (a1 : Int).toNat a4).set (a2 : Int).toNat (wrap64 (-a4)))).bind fun t330 => (some t330)) else (none)) else (none)) else (none)) else (none))) else (none)) else (none)
/-! ### bW: function 83 -/
def bW.j0 : Nat → Bool → Int → Int → Int → Int → Option (Int)
  | 0, _, _, _, _, _ => none
  | k + 1, x24, x332000, x332001, OO, OP => if x24 = true then (some 30) else (if OO < 0 then (some 31) else (if OO > 1048576 then (some 31) else (if OP < (-1048576) then (some 31) else (if OP > 1048576 then (some 31) else (some 0)))))
def bW.f (k : Nat) (a0 : Int) (mJ : Int) (om : Int) (Gi : Int) (Gj : Int) : Option (Int) := if mJ < 0 then (bW.j0 k true mJ om Gi Gj) else (if om < 0 then (bW.j0 k true mJ om Gi Gj) else (if mJ ≥ a0 then (bW.j0 k true mJ om Gi Gj) else (bW.j0 k (decide (om ≥ a0)) mJ om Gi Gj)))
set_option maxHeartbeats 8000000 in
set_option maxRecDepth 100000 in
theorem bW.calls (k : Nat) (a0 : Int) (mJ : Int) (om : Int) (Gi : Int) (Gj : Int) (r : Int) (w : World) (h : bW.f k a0 mJ om Gi Gj = some r) :
    Calls Try.prog 83 #[.int .i64 a0, .agg #[.int .i64 mJ, .int .i64 om, .int .i64 Gi, .int .i64 Gj]] w fun e w' => e = .returned (.int .i64 r) ∧ Below w.heap.size w w' := by
 have hu98 := Try.underlying98; have HB := ak (Below.refl w.heap.size w); have H : (if mJ < 0 then (bW.j0 k true mJ om Gi Gj) else (if om < 0 then (bW.j0 k true mJ om Gi Gj) else (if mJ ≥ a0 then (bW.j0 k true mJ om Gi Gj) else (bW.j0 k (decide (om ≥ a0)) mJ om Gi Gj)))) = some r := h; clear h; have HC3 := ak H; clear H
 go_enter Try.func83, Try.ntmps83
 go_upto_region 1 with (first | ((with_reducible refine aC (N := 3) rfl ?_); refine bxe 3 #[.int .i64 mJ, .int .i64 om, .int .i64 Gi, .int .i64 Gj] 98 ?_; intro gb331 hg w4 hbox hb; have n0_ := ak (bl hb); have n1_ := ak (hbox); have n2_ := ak (gw w hg); have n3_ := ak (gw w hg); clear HB; have HB := n0_; have yt := n1_; have GW331 := n2_; have GE331 := n3_; clear n0_ n1_ n2_ n3_; clear hb hbox hg))
 (try simp only [Act.put, sA, sZ, sS])
 go_cut [24] (fun v24 wc => ∃ (kq : Nat) (Ti : Bool), v24 = .bool Ti ∧ ag (bW.j0 kq Ti mJ om Gi Gj = some r) ∧ ag (kq ≤ k) ∧ ag (wc.heap[gb331]? = some (.cells #[.int .i64 mJ, .int .i64 om, .int .i64 Gi, .int .i64 Gj] 98 (0, 0))) ∧ ag (Below w.heap.size w wc))
 case first =>
  have H := HC3.out; clear HC3
  by_cases c5 : mJ < 0
  ·
   rw [if_pos c5] at H; have c5b0 := decide_eq_true c5; clear c5
   (first | rw [c5b0] | (simp only [jA, jG]; rw [c5b0]) | skip)
   have H' := ak H; clear H; have ⟨_, _, _, _, _, _, _, _⟩ := cf4 yt
   go_wp2
   go_meet
   case rel => exact ⟨_, (true), sr, H', ⟨by first | omega | exact Nat.le_refl _⟩, xb yt, ⟨lb⟩⟩
  rw [if_neg c5] at H; have c5b0 := decide_eq_false c5; clear c5
  (first | rw [c5b0] | (simp only [jA, jG]; rw [c5b0]) | skip)
  by_cases c7 : om < 0
  ·
   rw [if_pos c7] at H; have c7b0 := decide_eq_true c7; clear c7; have H' := ak H; clear H; have ⟨_, _, _, _, _, _, _, _⟩ := cf4 yt
   go_wp2
   go_meet
   case rel => exact ⟨_, (true), sr, H', ⟨by first | omega | exact Nat.le_refl _⟩, xb yt, ⟨lb⟩⟩
  rw [if_neg c7] at H; have c7b0 := decide_eq_false c7; clear c7
  by_cases c9 : mJ ≥ a0
  rotate_left
  ·
   rw [if_neg c9] at H; have c9b0 := decide_eq_false c9; clear c9; have H' := ak H; clear H; have ⟨_, _, _, _, _, _, _, _⟩ := cf4 yt
   go_wp2
   go_meet
   case rel => exact ⟨_, (decide (om ≥ a0)), sr, H', ⟨by first | omega | exact Nat.le_refl _⟩, xb yt, ⟨lb⟩⟩
  rw [if_pos c9] at H; have c9b0 := decide_eq_true c9; clear c9; have H' := ak H; clear H; have ⟨_, _, _, _, _, _, _, _⟩ := cf4 yt
  go_wp2
  go_meet
  case rel => exact ⟨_, (true), sr, H', ⟨by first | omega | exact Nat.le_refl _⟩, xb yt, ⟨lb⟩⟩
 case rest =>
  clear HC3; obtain ⟨kq, Ti, rfl, HA, HJ2, yt, HB⟩ := hcut
  cases kq with
  | zero => exact absurd HA.out (by simp [bW.j0])
  | succ kj2 =>
   have H := HA.out; clear HA
   simp only [bW.j0] at H
   by_cases c12 : Ti = true
   ·
    subst c12
    replace H := ip H; obtain rfl := Option.some.inj H
    go_wp2
    go_ret
    exact ⟨er, lb⟩
   replace c12 := Bool.eq_false_iff.mpr c12; subst c12
   have H1 : (if Gi < 0 then (some 31) else (if Gi > 1048576 then (some 31) else (if Gj < (-1048576) then (some 31) else (if Gj > 1048576 then (some 31) else (some 0))))) = some r := by rw [if_neg (show ¬ (false = true) by decide)] at H; exact H
   clear H; have H := H1; clear H1
   by_cases c13 : Gi < 0
   ·
    rw [if_pos c13] at H; have c13b0 := decide_eq_true c13; clear c13; obtain rfl := Option.some.inj H; have ⟨_, _, _, _, _, _, _, _⟩ := cf4 yt
    go_wp2
    go_ret
    exact ⟨er, lb⟩
   rw [if_neg c13] at H; have c13b0 := decide_eq_false c13; clear c13
   by_cases c15 : Gi > 1048576
   ·
    rw [if_pos c15] at H; have c15b0 := decide_eq_true c15; clear c15; obtain rfl := Option.some.inj H; have ⟨_, _, _, _, _, _, _, _⟩ := cf4 yt
    go_wp2
    go_ret
    exact ⟨er, lb⟩
   rw [if_neg c15] at H; have c15b0 := decide_eq_false c15; clear c15
   by_cases c17 : Gj < (-1048576)
   ·
    rw [if_pos c17] at H; have c17b0 := decide_eq_true c17; clear c17; obtain rfl := Option.some.inj H; have ⟨_, _, _, _, _, _, _, _⟩ := cf4 yt
    go_wp2
    go_ret
    exact ⟨er, lb⟩
   rw [if_neg c17] at H; have c17b0 := decide_eq_false c17; clear c17
   by_cases c19 : Gj > 1048576
   ·
    rw [if_pos c19] at H; have c19b0 := decide_eq_true c19; clear c19; obtain rfl := Option.some.inj H; have ⟨_, _, _, _, _, _, _, _⟩ := cf4 yt
    go_wp2
    go_ret
    exact ⟨er, lb⟩
   rw [if_neg c19] at H; have c19b0 := decide_eq_false c19; clear c19; obtain rfl := Option.some.inj H; have ⟨_, _, _, _, _, _, _, _⟩ := cf4 yt
   go_wp2
   go_ret
   exact ⟨er, lb⟩

end Go.Proofs.Ytkdoihcjhccliaa.Q
namespace Go.Proofs.Ytkdoihcjhccliaa.Q
open Go.RowKit Go.Proofs.YtkdoihcjhccliaaW.PrintWords Go.Proofs.YtkdoihcjhccliaaW.PrintLast Go.Proofs.YtkdoihcjhccliaaW.PrintMore
attribute [local go_sem] dF dG eG eH cz cB dH dI   -- for this text's walks alone
set_option linter.unusedVariables false
set_option linter.unusedSimpArgs false

/-! ### av: function 44 -/
mutual
def av.j0 : Nat → Bool → Int → List (S98) → Option (Int × Int)
  | 0, _, _, _ => none
  | k + 1, x19, E5, vv => if x19 = true then (some (3, 0)) else (av.l0 k 0 E5 vv)
def av.l0 : Nat → Int → Int → List (S98) → Option (Int × Int)
  | 0, _, _, _ => none
  | k + 1, x4, E5, vv => if x4 < (vv.length : Int) then (if 0 ≤ x4 then ((bW.f k E5 ((aa vv x4).f0) ((aa vv x4).f1) ((aa vv x4).f2) ((aa vv x4).f3)).bind fun aak => (if aak = 0 then (av.l0 k (wrap64 (x4 + 1)) E5 vv) else (some (aak, x4)))) else (none)) else (some (0, 0))
end
def av.f (k : Nat) (ay : Int) (ae : List (S98)) : Option (Int × Int) := if ay < 0 then (av.j0 k true ay ae) else (if ay > 1024 then (av.j0 k true ay ae) else (av.j0 k (decide ((ae.length : Int) > 4096)) ay ae))
def av.T6 : Bool × List (List Nat × List Nat) := (true, [([], []), ([0], [0]), ([], []), ([2], [2]), ([], []), ([3, 4], [3, 4]), ([5], [5]), ([1, 6], [1, 6]), ([7, 7, 0, 1, 2, 3, 4, 5, 6, 7], [7])])
def av.B6 : List Nat := [0, 1, 0, 4, 0, 28, 60, 127, 255]
theorem av.UK : oO .any (opsOf Try.f44 6) = av.T6 := by kernel_rfl
theorem av.GG : gM av.T6.2 av.B6 = true := by kernel_rfl
set_option maxHeartbeats 8000000 in
set_option maxRecDepth 100000 in
theorem av.calls (k : Nat) (ay : Int) (bX : Option Addr) (bN : Nat) (ae : List (S98)) (r1 : Int) (r2 : Int) (w : World) (dB : Kd.C k98 w bX ae.length ae) (dC : ae.length ≤ bN) (h : av.f k ay ae = some (r1, r2)) :
    Calls Try.prog 44 #[.agg #[.int .i64 ay, .slice bX ae.length bN]] w fun e w' => e = .returned (.tuple #[.int .i64 r1, .int .i64 r2]) ∧ Below w.heap.size w w' := by
 have hu24 := Try.underlying24; have hu98 := Try.underlying98; have bU := ak dB; have eU := ak dC; clear dB dC; have HB := ak (Below.refl w.heap.size w); have H : (if ay < 0 then (av.j0 k true ay ae) else (if ay > 1024 then (av.j0 k true ay ae) else (av.j0 k (decide ((ae.length : Int) > 4096)) ay ae))) = some (r1, r2) := h; clear h; have HC2 := ak H; clear H
 go_enter Try.func44, Try.ntmps44
 go_upto_region 1 with (first | ((with_reducible refine aC (N := 1) rfl ?_); (try (refine oC (by rfl) ?_; dsimp only)); refine bxe 1 #[.int .i64 ay, .slice bX ae.length bN] 24 ?_; intro kw hg w3 hbox hb; have n_ := a4 (bl hb) hbox (gw w hg) (gw w hg); clear HB; obtain ⟨HB, gD, GW332, GE332⟩ := n_; clear hb hbox hg))
 (try simp only [Act.put, sA, sZ, sS])
 go_cut [19] (fun v19 wc => ∃ (kq : Nat) (zB : Bool), v19 = .bool zB ∧ ag (av.j0 kq zB ay ae = some (r1, r2)) ∧ ag (kq ≤ k) ∧ ag (wc.heap[kw]? = some (.cells #[.int .i64 ay, (.slice bX ae.length bN)] 24 (0, 0))) ∧ ag (Below w.heap.size w wc))
 case first =>
  have H := HC2.out; clear HC2
  by_cases c4 : ay < 0
  ·
   rw [if_pos c4] at H; have c4b0 := decide_eq_true c4; clear c4
   (first | rw [c4b0] | (simp only [jA, jG]; rw [c4b0]) | skip)
   have H' := ak H; clear H; have ⟨_, _, _, _⟩ := cf2 gD
   go_wp2
   go_meet
   case rel => exact ⟨_, (true), sr, H', ⟨by first | omega | exact Nat.le_refl _⟩, xb gD, ⟨lb⟩⟩
  rw [if_neg c4] at H; have c4b0 := decide_eq_false c4; clear c4
  (first | rw [c4b0] | (simp only [jA, jG]; rw [c4b0]) | skip)
  by_cases c6 : ay > 1024
  rotate_left
  ·
   rw [if_neg c6] at H; have c6b0 := decide_eq_false c6; clear c6; have H' := ak H; clear H; have ⟨_, _, _, _⟩ := cf2 gD
   go_wp2
   go_meet
   case rel => exact ⟨_, (decide ((ae.length : Int) > 4096)), sr, H', ⟨by first | omega | exact Nat.le_refl _⟩, xb gD, ⟨lb⟩⟩
  rw [if_pos c6] at H; have c6b0 := decide_eq_true c6; clear c6; have H' := ak H; clear H; have ⟨_, _, _, _⟩ := cf2 gD
  go_wp2
  go_meet
  case rel => exact ⟨_, (true), sr, H', ⟨by first | omega | exact Nat.le_refl _⟩, xb gD, ⟨lb⟩⟩
 case rest =>
  clear HC2; obtain ⟨kq, zB, rfl, HA, HJ1, gD, HB⟩ := hcut
  cases kq with
  | zero => exact absurd HA.out (by simp [av.j0])
  | succ kj1 =>
   have H := HA.out; clear HA
   simp only [av.j0] at H
   by_cases c9 : zB = true
   ·
    subst c9
    replace H := ip H
    simp only [Option.some.injEq, Prod.mk.injEq] at H
    obtain ⟨rfl, rfl⟩ := H
    go_wp2
    go_ret2
    exact ⟨er, lb⟩
   replace c9 := Bool.eq_false_iff.mpr c9; subst c9
   have H1 : (av.l0 kj1 0 ay ae) = some (r1, r2) := by rw [if_neg (show ¬ (false = true) by decide)] at H; exact H
   clear H; have H := H1; clear H1; have H' := ak H; clear H
   go_wp2
   go_loopg [4] kj1 (fun kq v4 w' => ∃ (tT : Int), v4 = .int .i64 tT ∧ ag (av.l0 kq tT ay ae = some (r1, r2)) ∧ ag (kq ≤ kj1) ∧ ag (w'.heap[kw]? = some (.cells #[.int .i64 ay, (.slice bX ae.length bN)] 24 (0, 0))) ∧ ag (Below w.heap.size w w'))
   case atStart => exact ⟨(0), sr, H', ⟨Nat.le_refl _⟩, xb gD, ⟨lb⟩⟩
   clear H'; obtain ⟨tT, rfl, HA, HK2, gD, HB⟩ := hrel
   cases gk with
   | zero => exact absurd HA.out (by simp [av.l0])
   | succ k2 => ?_
   have H := HA.out; clear HA
   simp only [av.l0] at H
   by_cases c10 : tT < (ae.length : Int)
   rotate_left
   ·
    rw [if_neg c10] at H; have c10b0 := decide_eq_false c10; clear c10
    simp only [Option.some.injEq, Prod.mk.injEq] at H
    obtain ⟨rfl, rfl⟩ := H; have ⟨_, _, _, _⟩ := cf2 gD
    go_wp2
    go_ret2
    exact ⟨er, lb⟩

   rw [if_pos c10] at H; have c10b0 := decide_eq_true c10; clear c10; replace H := ifd H; obtain ⟨c11b0, H⟩ := H; replace H := Option.bind_eq_some_iff.mp H; obtain ⟨aak, A120, H⟩ := H; have A12 := ak A120; clear A120
   by_cases c13 : aak = 0
   ·
    rw [if_pos c13] at H; have c13b := be2 c13; clear c13; have H' := ak H; clear H; have ⟨_, _, _, _⟩ := cf2 gD
    try go_wp2
    have n_ := a2 (aK gD.out) (bJ HB.out); clear gD HB; obtain ⟨gD, HB⟩ := n_; obtain ⟨p333, q333, Xy, e333, nS, sO, sP, sQ⟩ := wq (dU bU.out tT); have Bl := sQ; have Bn := sP; have Bo := sO; have rH := nS; cases e333
    (try replace nS := hbc HB nS)
    (try replace sO := hbc HB sO)
    (try replace sP := hbc HB sP)
    (try replace sQ := hbc HB sQ)
    refine stC 9 [] (cX (bc0 gD) (cX (bc1 gD) (cX (hbc HB rH) (cX (hbc HB Bo) (cX (hbc HB Bn) (cY (hbc HB Bl))))))) av.UK av.GG fun hHeld HT_ HW_ => ?_
    generalize wr.drew = w15 at gD HB nS sO sP sQ hHeld ⊢
    refine pv HT_ 0 27 ?_; refine pv HT_ 2 29 ?_; refine pv HT_ 4 31 ?_; refine tv HT_ HW_ hHeld 1 28 ?_; refine tv HT_ HW_ hHeld 3 30 ?_; refine pv HT_ 5 32 ?_; refine tv HT_ HW_ hHeld 6 33 ?_
    refine wT (i := 7) (N := some 34) #[T, T, T, T, T, T, T, T, F] rfl rfl (gP HT_.out (by kernel_rfl)) (by decide) (fun K hK => ?_)
    refine DD Try.func83 (by kernel_rfl) rfl #[.int .i64 ay, .agg #[.int .i64 ((aa ae tT).f0), .int .i64 ((aa ae tT).f1), .int .i64 ((aa ae tT).f2), .int .i64 ((aa ae tT).f3)]] (by rfl) rfl rfl (by (try simp only [List.map_toArray, List.map_cons, List.map_nil]); first | done | rfl | (simp only [List.length_drop, List.length_take]; rfl)) ?_
    with_reducible refine (bW.calls k2 ay ((aa ae tT).f0) ((aa ae tT).f1) ((aa ae tT).f2) ((aa ae tT).f3) aak _ A12.out).mono ?_
    rintro e w16 ⟨rfl, hb⟩
    refine ⟨_, rfl, ?_⟩
    have n_ := a2 (bo gD hb) (bl hb); clear gD HB; obtain ⟨gD, HB⟩ := n_
    (try clear hb)
    (try clear hb2)
    (try clear hk)
    (try clear hi)
    refine hK.out _ _ ⟨(aH gD.out 0).trans rfl, (aH gD.out 1).trans rfl, (hbc HB rH), (hbc HB Bo), (hbc HB Bn), (hbc HB Bl)⟩ (fun hHeld => ?_)
    clear hK K
    refine ol (a' := ?_) ?_ ?_
    rotate_left
    ·
     show Act.put _ (some 34) _ = _
     simp only [Act.put, sA, sZ, sS, jA, jG]
     rfl
    refine pv HT_ 8 5 ?_
    refine kN (fV HT_.out (by kernel_rfl)) ?_
    try go_wp2
    go_roundg k2
    case measure => have := HJ1.out; have := HK2.out; omega
    case rel => exact ⟨(wrap64 (tT + 1)), sr, H', ⟨by have := HJ1.out; have := HK2.out; omega⟩, xb gD, ⟨lb⟩⟩
   rw [if_neg c13] at H; have c13b := bn2 c13
   simp only [Option.some.injEq, Prod.mk.injEq] at H
   obtain ⟨rfl, rfl⟩ := H; have ⟨_, _, _, _⟩ := cf2 gD
   try go_wp2
   have n_ := a2 (aK gD.out) (bJ HB.out); clear gD HB; obtain ⟨gD, HB⟩ := n_; obtain ⟨p333, q333, Xy, e333, nS, sO, sP, sQ⟩ := wq (dU bU.out tT); have Bl := sQ; have Bn := sP; have Bo := sO; have rH := nS; cases e333
   (try replace nS := hbc HB nS)
   (try replace sO := hbc HB sO)
   (try replace sP := hbc HB sP)
   (try replace sQ := hbc HB sQ)
   refine stC 9 [] (cX (bc0 gD) (cX (bc1 gD) (cX (hbc HB rH) (cX (hbc HB Bo) (cX (hbc HB Bn) (cY (hbc HB Bl))))))) av.UK av.GG fun hHeld HT_ HW_ => ?_
   generalize wr.drew = w18 at gD HB nS sO sP sQ hHeld ⊢
   refine pv HT_ 0 27 ?_; refine pv HT_ 2 29 ?_; refine pv HT_ 4 31 ?_; refine tv HT_ HW_ hHeld 1 28 ?_; refine tv HT_ HW_ hHeld 3 30 ?_; refine pv HT_ 5 32 ?_; refine tv HT_ HW_ hHeld 6 33 ?_
   refine wT (i := 7) (N := some 34) #[T, T, T, T, T, T, T, T, F] rfl rfl (gP HT_.out (by kernel_rfl)) (by decide) (fun K hK => ?_)
   refine DD Try.func83 (by kernel_rfl) rfl #[.int .i64 ay, .agg #[.int .i64 ((aa ae tT).f0), .int .i64 ((aa ae tT).f1), .int .i64 ((aa ae tT).f2), .int .i64 ((aa ae tT).f3)]] (by rfl) rfl rfl (by (try simp only [List.map_toArray, List.map_cons, List.map_nil]); first | done | rfl | (simp only [List.length_drop, List.length_take]; rfl)) ?_
   with_reducible refine (bW.calls k2 ay ((aa ae tT).f0) ((aa ae tT).f1) ((aa ae tT).f2) ((aa ae tT).f3) aak _ A12.out).mono ?_
   rintro e w19 ⟨rfl, hb⟩
   refine ⟨_, rfl, ?_⟩
   have n_ := a2 (bo gD hb) (bl hb); clear gD HB; obtain ⟨gD, HB⟩ := n_
   (try clear hb)
   (try clear hb2)
   (try clear hk)
   (try clear hi)
   refine hK.out _ _ ⟨(aH gD.out 0).trans rfl, (aH gD.out 1).trans rfl, (hbc HB rH), (hbc HB Bo), (hbc HB Bn), (hbc HB Bl)⟩ (fun hHeld => ?_)
   clear hK K
   refine ol (a' := ?_) ?_ ?_
   rotate_left
   ·
    show Act.put _ (some 34) _ = _
    simp only [Act.put, sA, sZ, sS, jA, jG]
    rfl
   refine pv HT_ 8 5 ?_
   refine kN (fV HT_.out (by kernel_rfl)) ?_
   try go_wp2
   go_ret2
   exact ⟨er, lb⟩
end Go.Proofs.Ytkdoihcjhccliaa.Q
namespace Go.Proofs.Ytkdoihcjhccliaa.Q
open Go.RowKit Go.Proofs.YtkdoihcjhccliaaW.PrintWords Go.Proofs.YtkdoihcjhccliaaW.PrintLast Go.Proofs.YtkdoihcjhccliaaW.PrintMore
attribute [local go_sem] dF dG eG eH cz cB dH dI   -- for this text's walks alone
set_option linter.unusedVariables false
set_option linter.unusedSimpArgs false

/-! ### gL: function 55 -/
def gL.f (k : Nat) (ay : Int) (ae : List (S98)) (a1 : Int) : Option (Int) := (av.f k ay ae).bind fun JA => (if JA.1 = 0 then (if a1 < 0 then (some 30) else (if a1 ≥ ay then (some 30) else (some JA.1))) else (some JA.1))
set_option maxHeartbeats 8000000 in
set_option maxRecDepth 100000 in
theorem gL.calls (k : Nat) (ay : Int) (bX : Option Addr) (bN : Nat) (ae : List (S98)) (a1 : Int) (r : Int) (w : World) (dB : Kd.C k98 w bX ae.length ae) (dC : ae.length ≤ bN) (h : gL.f k ay ae a1 = some r) :
    Calls Try.prog 55 #[.agg #[.int .i64 ay, .slice bX ae.length bN], .int .i64 a1] w fun e w' => e = .returned (.int .i64 r) ∧ Below w.heap.size w w' := by
 have hu24 := Try.underlying24; have bU := ak dB; have eU := ak dC; clear dB dC; have HB := ak (Below.refl w.heap.size w); have H : ((av.f k ay ae).bind fun JA => (if JA.1 = 0 then (if a1 < 0 then (some 30) else (if a1 ≥ ay then (some 30) else (some JA.1))) else (some JA.1))) = some r := h; clear h; replace H := Option.bind_eq_some_iff.mp H; obtain ⟨⟨aen, t337⟩, A30, H⟩ := H; dsimp only at H; have A3 := ak A30; clear A30
 by_cases c4 : aen = 0
 rotate_left
 ·
  rw [if_neg c4] at H; have c4b := bn2 c4; obtain rfl := Option.some.inj H
  go_enter Try.func55, Try.ntmps55
  go_wp2_with (first | ((with_reducible refine aC (N := 2) rfl ?_); refine bxe 2 #[.int .i64 ay, .slice bX ae.length bN] 24 ?_; intro ZI hg w18 hbox hb; have n0_ := ak (bl hb); have n1_ := ak (hbox); have n2_ := ak (gw w hg); have n3_ := ak (gw w hg); clear HB; have HB := n0_; have rJ := n1_; have ZJ := n2_; have ZK := n3_; clear n0_ n1_ n2_ n3_; clear hb hbox hg; have ⟨_, _, _, _⟩ := cf2 rJ) | ((with_reducible refine au (f := 44) rfl ?_); refine gl 9 Try.func44 #[.agg #[.int .i64 ay, .slice bX ae.length bN]] ?_; (with_reducible refine (av.calls k ay _ _ ae aen t337 _ (Kd.cZ bU.out lb) eU.out A3.out).mono ?_); rintro e w20 ⟨rfl, hb⟩; refine ⟨_, rfl, ?_⟩; have n0_ := ak (bo rJ hb); have n1_ := ak (bl hb); clear rJ; clear HB; have rJ := n0_; have HB := n1_; clear n0_ n1_; clear hb))
  go_ret
  exact ⟨er, lb⟩

 rw [if_pos c4] at H; have c4b := be2 c4; clear c4
 by_cases c5 : a1 < 0
 ·
  rw [if_pos c5] at H; have c5b0 := decide_eq_true c5; clear c5; obtain rfl := Option.some.inj H
  go_enter Try.func55, Try.ntmps55
  go_wp2_with (first | ((with_reducible refine aC (N := 2) rfl ?_); refine bxe 2 #[.int .i64 ay, .slice bX ae.length bN] 24 ?_; intro ZI hg w6 hbox hb; have n0_ := ak (bl hb); have n1_ := ak (hbox); have n2_ := ak (gw w hg); have n3_ := ak (gw w hg); clear HB; have HB := n0_; have rJ := n1_; have ZJ := n2_; have ZK := n3_; clear n0_ n1_ n2_ n3_; clear hb hbox hg; have ⟨_, _, _, _⟩ := cf2 rJ) | ((with_reducible refine au (f := 44) rfl ?_); refine gl 9 Try.func44 #[.agg #[.int .i64 ay, .slice bX ae.length bN]] ?_; (with_reducible refine (av.calls k ay _ _ ae aen t337 _ (Kd.cZ bU.out lb) eU.out A3.out).mono ?_); rintro e w8 ⟨rfl, hb⟩; refine ⟨_, rfl, ?_⟩; have n0_ := ak (bo rJ hb); have n1_ := ak (bl hb); clear rJ; clear HB; have rJ := n0_; have HB := n1_; clear n0_ n1_; clear hb))
  go_ret
  exact ⟨er, lb⟩
 rw [if_neg c5] at H; have c5b0 := decide_eq_false c5; clear c5
 by_cases c9 : a1 ≥ ay
 rotate_left
 ·
  rw [if_neg c9] at H; have c9b0 := decide_eq_false c9; clear c9; obtain rfl := Option.some.inj H
  go_enter Try.func55, Try.ntmps55
  go_wp2_with (first | ((with_reducible refine aC (N := 2) rfl ?_); refine bxe 2 #[.int .i64 ay, .slice bX ae.length bN] 24 ?_; intro ZI hg w14 hbox hb; have n0_ := ak (bl hb); have n1_ := ak (hbox); have n2_ := ak (gw w hg); have n3_ := ak (gw w hg); clear HB; have HB := n0_; have rJ := n1_; have ZJ := n2_; have ZK := n3_; clear n0_ n1_ n2_ n3_; clear hb hbox hg; have ⟨_, _, _, _⟩ := cf2 rJ) | ((with_reducible refine au (f := 44) rfl ?_); refine gl 9 Try.func44 #[.agg #[.int .i64 ay, .slice bX ae.length bN]] ?_; (with_reducible refine (av.calls k ay _ _ ae aen t337 _ (Kd.cZ bU.out lb) eU.out A3.out).mono ?_); rintro e w16 ⟨rfl, hb⟩; refine ⟨_, rfl, ?_⟩; have n0_ := ak (bo rJ hb); have n1_ := ak (bl hb); clear rJ; clear HB; have rJ := n0_; have HB := n1_; clear n0_ n1_; clear hb; have ⟨_, _, _, _⟩ := cf2 rJ))
  go_ret
  exact ⟨er, lb⟩
 rw [if_pos c9] at H; have c9b0 := decide_eq_true c9; clear c9; obtain rfl := Option.some.inj H
 go_enter Try.func55, Try.ntmps55
 go_wp2_with (first | ((with_reducible refine aC (N := 2) rfl ?_); refine bxe 2 #[.int .i64 ay, .slice bX ae.length bN] 24 ?_; intro ZI hg w10 hbox hb; have n0_ := ak (bl hb); have n1_ := ak (hbox); have n2_ := ak (gw w hg); have n3_ := ak (gw w hg); clear HB; have HB := n0_; have rJ := n1_; have ZJ := n2_; have ZK := n3_; clear n0_ n1_ n2_ n3_; clear hb hbox hg; have ⟨_, _, _, _⟩ := cf2 rJ) | ((with_reducible refine au (f := 44) rfl ?_); refine gl 9 Try.func44 #[.agg #[.int .i64 ay, .slice bX ae.length bN]] ?_; (with_reducible refine (av.calls k ay _ _ ae aen t337 _ (Kd.cZ bU.out lb) eU.out A3.out).mono ?_); rintro e w12 ⟨rfl, hb⟩; refine ⟨_, rfl, ?_⟩; have n0_ := ak (bo rJ hb); have n1_ := ak (bl hb); clear rJ; clear HB; have rJ := n0_; have HB := n1_; clear n0_ n1_; clear hb; have ⟨_, _, _, _⟩ := cf2 rJ))
 go_ret
 exact ⟨er, lb⟩
/-! ### K5: function 20 -/
def K5.f (k : Nat) (ay : Int) (ae : List (S98)) (a1 : Int) (a2 : Int) : Option (Int) := (gL.f k ay ae a1).bind fun t339 => (if t339 = 0 then ((gL.f k ay ae a2).bind fun t340 => (if t340 = 0 then (if a1 = a2 then (some 120) else (some t340)) else (some t340))) else (some t339))
end Go.Proofs.Ytkdoihcjhccliaa.Q
