import Derived.Test.YtkdoihcjhccliaaK
import Derived.Test.YtkdoihcjhccliaaQ0
namespace Go.Proofs.Ytkdoihcjhccliaa.Q
open Go.RowKit Go.Proofs.YtkdoihcjhccliaaW.PrintWords Go.Proofs.YtkdoihcjhccliaaW.PrintLast Go.Proofs.YtkdoihcjhccliaaW.PrintMore
attribute [local go_sem] dF dG eG eH cz cB dH dI   -- for this text's walks alone
set_option linter.unusedVariables false
set_option linter.unusedSimpArgs false

/-! ### aM: function 67 -/
mutual
def aM.l0 : Nat → List Bool → Int → Int → Int → List (S98) → Option (Bool)
  | 0, _, _, _, _, _ => none
  | k + 1, x3, x23, x24, yR, rF => if x24 < x23 then (aM.l1 k x3 x23 x24 rF (rF.length : Int) 0 yR rF) else (aM.l2 k x3 rF (rF.length : Int) 0)
def aM.l1 : Nat → List Bool → Int → Int → List (S98) → Int → Int → Int → List (S98) → Option (Bool)
  | 0, _, _, _, _, _, _, _, _ => none
  | k + 1, x3, x23, x24, x27, x28, x29, yR, rF => if x29 < x28 then (if 0 ≤ x29 then (if x29 < (x27.length : Int) then (if 0 ≤ ((aa x27 x29).f0) then (if ((aa x27 x29).f0) < (x3.length : Int) then (if fF false x3 ((aa x27 x29).f0) = true then (if 0 ≤ ((aa x27 x29).f1) then (if ((aa x27 x29).f1) < (x3.length : Int) then (aM.l1 k ((x3.set (((aa x27 x29).f0) : Int).toNat true).set (((aa x27 x29).f1) : Int).toNat true) x23 x24 x27 x28 (wrap64 (x29 + 1)) yR rF) else (none)) else (none)) else (if 0 ≤ ((aa x27 x29).f1) then (if ((aa x27 x29).f1) < (x3.length : Int) then (if fF false x3 ((aa x27 x29).f1) = true then (aM.l1 k ((x3.set (((aa x27 x29).f0) : Int).toNat true).set (((aa x27 x29).f1) : Int).toNat true) x23 x24 x27 x28 (wrap64 (x29 + 1)) yR rF) else (aM.l1 k x3 x23 x24 x27 x28 (wrap64 (x29 + 1)) yR rF)) else (none)) else (none))) else (none)) else (none)) else (none)) else (none)) else (aM.l0 k x3 x23 (wrap64 (x24 + 1)) yR rF)
def aM.l2 : Nat → List Bool → List (S98) → Int → Int → Option (Bool)
  | 0, _, _, _, _ => none
  | k + 1, x3, x56, x57, x58 => if x58 < x57 then (if 0 ≤ x58 then (if x58 < (x56.length : Int) then (if 0 ≤ ((aa x56 x58).f0) then (if ((aa x56 x58).f0) < (x3.length : Int) then (if (fF false x3 ((aa x56 x58).f0) = true) then (aM.l2 k x3 x56 x57 (wrap64 (x58 + 1))) else (some false)) else (none)) else (none)) else (none)) else (none)) else (some true)
end
def aM.f (k : Nat) (ay : Int) (ae : List (S98)) : Option (Bool) := if (ae.length : Int) = 0 then (some true) else (if 0 ≤ ay then (if (ay : Int).toNat ≤ 281474976710656 then ((some (List.replicate (ay : Int).toNat false : List Bool)).bind fun Li => (if 0 < (ae.length : Int) then (if 0 ≤ ((aa ae 0).f0) then (if ((aa ae 0).f0) < (Li.length : Int) then (aM.l0 k (Li.set (((aa ae 0).f0) : Int).toNat true) ay 0 ay ae) else (none)) else (none)) else (none))) else (none)) else (none))
def aM.T11 : Bool × List (List Nat × List Nat) := (true, [([], []), ([], []), ([1], [1]), ([], []), ([], []), ([4], [4]), ([0, 2, 0, 1, 2], [0, 2]), ([6, 0, 1, 2], [6]), ([3, 5, 0, 1, 2, 3, 4, 5, 6, 7], [3, 5]), ([8, 7, 0, 1, 2, 3, 4, 5, 6, 7], [8])])
def aM.B11 : List Nat := [0, 0, 2, 0, 0, 16, 7, 71, 255, 511]
theorem aM.KG : oO .any (opsOf Try.f67 11) = aM.T11 := by kernel_rfl
theorem aM.Ed : gM aM.T11.2 aM.B11 = true := by kernel_rfl
set_option maxHeartbeats 8000000 in
set_option maxRecDepth 100000 in
theorem aM.calls (k : Nat) (ay : Int) (bX : Option Addr) (bN : Nat) (ae : List (S98)) (r : Bool) (w : World) (dB : Kd.C k98 w bX ae.length ae) (dC : ae.length ≤ bN) (h : aM.f k ay ae = some r) :
    Calls Try.prog 67 #[.agg #[.int .i64 ay, .slice bX ae.length bN]] w fun e w' => e = .returned (.bool r) ∧ Below w.heap.size w w' := by
 have hu24 := Try.underlying24; have hu98 := Try.underlying98; have bU := ak dB; have eU := ak dC; clear dB dC; have HB := ak (Below.refl w.heap.size w); have H : (if (ae.length : Int) = 0 then (some true) else (if 0 ≤ ay then (if (ay : Int).toNat ≤ 281474976710656 then ((some (List.replicate (ay : Int).toNat false : List Bool)).bind fun Li => (if 0 < (ae.length : Int) then (if 0 ≤ ((aa ae 0).f0) then (if ((aa ae 0).f0) < (Li.length : Int) then (aM.l0 k (Li.set (((aa ae 0).f0) : Int).toNat true) ay 0 ay ae) else (none)) else (none)) else (none))) else (none)) else (none))) = some r := h; clear h
 by_cases c2 : (ae.length : Int) = 0
 ·
  rw [if_pos c2] at H; have c2b := be2 c2; clear c2; obtain rfl := Option.some.inj H
  go_enter Try.func67, Try.ntmps67
  go_wp2_with (first | ((with_reducible refine aC (N := 1) rfl ?_); refine bxe 1 #[.int .i64 ay, .slice bX ae.length bN] 24 ?_; intro KH hg w3 hbox hb; have n_ := a4 (bl hb) hbox (gw w hg) (gw w hg); clear HB; obtain ⟨HB, gX, GW183, VX⟩ := n_; clear hb hbox hg; have ⟨_, _, _, _⟩ := cf2 gX))
  go_ret
  exact ⟨er, lb⟩
 rw [if_neg c2] at H; have c2b := bn2 c2
 have c2b2 : ¬ (ae = []) := fun h_ => c2 (by rw [h_]; rfl)
 replace H := ife H; obtain ⟨c5b0, c5b1, H⟩ := H; replace H := ife H; obtain ⟨c6b0, c6b1, H⟩ := H; obtain ⟨Li, VY⟩ : ∃ y_ : List Bool, y_ = (List.replicate (ay : Int).toNat false) := ⟨_, rfl⟩; replace H : (if 0 < (ae.length : Int) then (if 0 ≤ ((aa ae 0).f0) then (if ((aa ae 0).f0) < (Li.length : Int) then (aM.l0 k (Li.set (((aa ae 0).f0) : Int).toNat true) ay 0 ay ae) else (none)) else (none)) else (none)) = some r := by first | (rw [VY]; exact H) | exact H
 have abv := ak VY; clear VY; replace H := ifn H; obtain ⟨c7, H⟩ := H; have c7b0 := decide_eq_true c7
 have c7b1 : decide (0 < ae.length) = true := decide_eq_true (by omega)
 clear c7; replace H := if2 H; obtain ⟨c8b0, c9b0, H⟩ := H; obtain ⟨y188, VZ⟩ : ∃ y_ : List Bool, y_ = (Li.set (((aa ae 0).f0) : Int).toNat true) := ⟨_, rfl⟩; replace H : (aM.l0 k y188 ay 0 ay ae) = some r := by first | (rw [VZ]; exact H) | exact H
 have Ny188 := ak VZ; clear VZ; have H' := ak H; clear H
 go_enter Try.func67, Try.ntmps67
 go_wp2_with (first | ((with_reducible refine aC (N := 1) rfl ?_); refine bxe 1 #[.int .i64 ay, .slice bX ae.length bN] 24 ?_; intro KH hg w11 hbox hb; have n_ := a4 (bl hb) hbox (gw w hg) (gw w hg); clear HB; obtain ⟨HB, gX, GW183, VX⟩ := n_; clear hb hbox hg; have ⟨_, _, _, _⟩ := cf2 gX) | ((with_reducible refine aC (N := 14) rfl ?_); refine Kd.ni Kd.bool _ 4 rfl (N := 14) rfl 26 _ _ rfl ay rfl rfl Try.underlying26 (.bool false) 1 IC rfl (by decide) (by omega) false (ok := fun _ => True) (okp := fun _ => True) rfl (fun _ hk => hk) trivial (oda) (Nat.le_trans (Nat.mul_le_mul_right _ (oda : ay.toNat ≤ 281474976710656)) (by omega)) (Below.refl _ _) (Nat.le_refl _) ?_; intro v185 w13 ho14 hb hg_ hnew_; clear hg_ hnew_; (first | rw [← abv.out] at ho14 | (simp only [Int.reduceToNat] at ho14; rw [← abv.out] at ho14)); have n_ := a3 (Kd.bY ho14 (ax lb)) (bo gX hb) (bl hb); clear gX HB; obtain ⟨Gy, gX, HB⟩ := n_; clear hb ho14; have ⟨_, _, _, _⟩ := cf2 gX; have p187 : 0 ≤ (0 : Int) := (by omega); have q187 : 0 < (ae.length : Int) := oda; obtain ⟨DK, e187, Ag, Ah, Ai, Aj⟩ := dU bU.out 0 p187 q187; cases e187; have qi187 : (0 < ae.length) = True := eq_true (by omega); (try rw [show ((0 : Int)).toNat = 0 from rfl] at Ag); (try rw [show 0 * 4 = 0 from rfl] at Ag); (try rw [Addr.add_zero'] at Ag); (try rw [show ((0 : Int)).toNat = 0 from rfl] at Ah); (try rw [show 0 * 4 = 0 from rfl] at Ah); (try rw [Addr.add_zero'] at Ah); (try rw [show ((0 : Int)).toNat = 0 from rfl] at Ai); (try rw [show 0 * 4 = 0 from rfl] at Ai); (try rw [Addr.add_zero'] at Ai); (try rw [show ((0 : Int)).toNat = 0 from rfl] at Aj); (try rw [show 0 * 4 = 0 from rfl] at Aj); (try rw [Addr.add_zero'] at Aj); replace Ag := hbc HB Ag; replace Ah := hbc HB Ah; replace Ai := hbc HB Ai; replace Aj := hbc HB Aj; replace p187 := eq_true p187; replace q187 := eq_true q187; have p10 : 0 ≤ (((aa ae 0).f0) : Int) := oda; have q10 : (((aa ae 0).f0) : Int) < ((Li.length : Int) : Int) := oda; obtain ⟨go10, co10, eo10, gb10, gl10, cl10, HG10⟩ := Kd.l9 Gy.out (by omega); (first | cases eo10 | (injection eo10 with ea_ en_ ec_; (first | subst ea_ | (injection ea_ with ea_; subst ea_)); subst ec_; clear en_)); have GB10 := ak gb10; have GG10 := ak HG10; clear gb10 gl10 HG10; obtain ⟨abw, abx⟩ := Kd.gJ false Gy.out (((aa ae 0).f0) : Int) p10 q10; replace p10 := eq_true p10; replace q10 := eq_true q10; obtain ⟨hy16_, hz16_⟩ := Kd.gJ false Gy.out (((aa ae 0).f0) : Int) (oda) (oda); have HP16 := Kd.lL Gy.out (((aa ae 0).f0) : Int) true) | ((with_reducible refine fG (t := 4) (p := 21) rfl ?_); refine eQ (t := 4) (p := 21) (v := ?vo_w17) (w1 := (w13.setCell ⟨go10, (((aa ae 0).f0) : Int).toNat, none⟩ (.bool true))) ?hg ?ho ?hn ?hr ?_; (case ho => rfl); (case hg => rfl); (case hn => rfl); (case hr => first | (go_simp; done) | (go_simp; rfl)); intro w17 hw; have hg : w13.grownBy w17 (some go10) := (by rw [hw]; exact HP16.2); have hp_ : Kd.R Kd.bool 4 w17 w.heap.size (fun _ => True) (.slice (some ⟨go10, 0, none⟩) Li.length co10) y188 := (by rw [hw, Ny188.out]; exact HP16.1); clear HP16; have n_ := a3 (bH (bx gX.out) hg (Kd.gQ Gy.out gX.out (by decide))) hp_ (by rw [hw]; exact bR (HB.out) GB10.out : Below w.heap.size w w17); clear gX Gy HB; obtain ⟨gX, Gy, HB⟩ := n_; clear hg hw hp_; have ⟨_, _, _, _⟩ := cf2 gX))
 go_loopg [24] k (fun kq v24 w' => ∃ (ny : List Bool) (tY : Int), v24 = .int .i64 tY ∧ ag (aM.l0 kq ny ay tY ay ae = some r) ∧ ag (kq ≤ k) ∧ ag (Kd.R Kd.bool 4 w' w.heap.size (fun _ => True) (.slice (some ⟨go10, 0, none⟩) Li.length co10) ny) ∧ ag (w'.heap[KH]? = some (.cells #[.int .i64 ay, (.slice (some DK) ae.length bN)] 24 (0, 0))) ∧ ag (Below w.heap.size w w'))
 case atStart => exact ⟨(y188), (0), sr, H', ⟨Nat.le_refl _⟩, ⟨rx Gy.out⟩, xb gX, ⟨lb⟩⟩
 clear H'; obtain ⟨ny, tY, rfl, HA, HK1, gz, gX, HB⟩ := hrel; have tZ := (Kd.aA gz.out).1; rw [tZ] at gz
 (try simp only [tZ])
 (try simp only [tZ] at gX)
 cases gk with
 | zero => exact absurd HA.out (by simp [aM.l0])
 | succ k1 => ?_
 have H := HA.out; clear HA
 simp only [aM.l0] at H
 by_cases c19 : tY < ay
 rotate_left
 ·
  rw [if_neg c19] at H; have c19b0 := decide_eq_false c19; clear c19; have H' := ak H; clear H; have ⟨_, _, _, _⟩ := cf2 gX
  go_wp2
  go_loopg [58] k1 (fun kq v58 w' => ∃ (ql : Int), v58 = .int .i64 ql ∧ ag (aM.l2 kq ny ae (ae.length : Int) ql = some r) ∧ ag (kq ≤ k1) ∧ ag (Kd.R Kd.bool 4 w' w.heap.size (fun _ => True) (.slice (some ⟨go10, 0, none⟩) ny.length co10) ny) ∧ ag (w'.heap[KH]? = some (.cells #[.int .i64 ay, (.slice (some DK) ae.length bN)] 24 (0, 0))) ∧ ag (Below w.heap.size w w'))
  case atStart => exact ⟨(0), sr, H', ⟨Nat.le_refl _⟩, ⟨by (try simp only [tZ]); exact rx gz.out⟩, ⟨by (try simp only [tZ]); exact bx gX.out⟩, ⟨lb⟩⟩
  clear H'; obtain ⟨ql, rfl, HA, HK2, gz, gX, HB⟩ := hrel
  cases gk with
  | zero => exact absurd HA.out (by simp [aM.l2])
  | succ k2 => ?_
  have H := HA.out; clear HA
  simp only [aM.l2] at H
  by_cases c56 : ql < (ae.length : Int)
  rotate_left
  ·
   rw [if_neg c56] at H; have c56b0 := decide_eq_false c56; clear c56; obtain rfl := Option.some.inj H
   go_wp2
   go_ret
   exact ⟨er, lb⟩
  rw [if_pos c56] at H; have c56b0 := decide_eq_true c56; clear c56; replace H := if3 H; obtain ⟨c57b0, c58b0, c59b0, H⟩ := H; replace H := ifd H; obtain ⟨c60b0, H⟩ := H; obtain ⟨bq61, hbq61⟩ : ∃ b_ : Bool, b_ = (fF false ny ((aa ae ql).f0)) := ⟨_, rfl⟩; replace H : (if (bq61 = true) then (aM.l2 k2 ny ae (ae.length : Int) (wrap64 (ql + 1))) else (some false)) = some r := by rw [← hbq61] at H; exact H
  have Nbq61 := ak hbq61; clear hbq61
  by_cases c62 : (bq61 = true)
  rotate_left
  ·
   replace c62 := Bool.eq_false_iff.mpr c62; subst c62
   have H1 : (some false) = some r := by rw [if_neg (show ¬ (false = true) by decide)] at H; exact H
   clear H; have H := H1; clear H1; obtain rfl := Option.some.inj H; obtain ⟨p197, q197, V3, e197, Ak, Al, Am, Ao⟩ := wq (dU bU.out ql)
   obtain rfl : DK = V3 := (by injection e197)
   (try replace Ak := hbc HB Ak)
   (try replace Al := hbc HB Al)
   (try replace Am := hbc HB Am)
   (try replace Ao := hbc HB Ao)
   go_wp2_with (first | ((with_reducible refine aC (N := 7) rfl ?_); refine bxe 7 #[.int .i64 0, .int .i64 0, .int .i64 0, .int .i64 0] 98 ?_; intro rG hg w66 hbox hb; have n_ := a8 (ro gz hb) (bo gX hb) (bl hb) hbox (gw w hg) (gw w hg) (nl hg gX) (nr hg gX); clear gz gX HB; obtain ⟨gz, gX, HB, zC, GW198, GE198, uB, Ap⟩ := n_; clear hb hbox hg; have ⟨_, _⟩ := nn Ap; have ⟨_, _, _, _, _, _, _, _⟩ := cf4 zC; obtain ⟨p199, q199, V4, e199, jC⟩ := wq (Kd.gu (Kd.aA gz.out).2.2 ((aa ae ql).f0)); (try rw [← Nbq61.out] at jC); obtain rfl : (⟨go10, 0, none⟩ : Addr) = V4 := (by injection e199); (first | simp only [add_plain] at jC | simp only [lI] at jC | simp only [Addr.add, Nat.zero_add] at jC | skip); have Aq : (⟨go10, 0, none⟩ : Addr).block ≠ rG := Kd.dQ (Kd.gQ gz.out zC.out (by decide)); have Ar : (⟨go10, 0, none⟩ : Addr).block ≠ rG := Kd.dQ (Kd.gQ gz.out zC.out (by decide)); have Au : (⟨go10, 0, none⟩ : Addr).block ≠ rG := Kd.dQ (Kd.gQ gz.out zC.out (by decide)); have Av : (⟨go10, 0, none⟩ : Addr).block ≠ rG := Kd.dQ (Kd.gQ gz.out zC.out (by decide)); replace jC := cg ⟨rG, 0, none⟩ (.int .i64 ((aa ae ql).f0)) jC Aq; replace jC := cg ⟨rG, 1, none⟩ (.int .i64 ((aa ae ql).f1)) jC Ar; replace jC := cg ⟨rG, 2, none⟩ (.int .i64 ((aa ae ql).f2)) jC Au; replace jC := cg ⟨rG, 3, none⟩ (.int .i64 ((aa ae ql).f3)) jC Av; clear Aq; clear Ar; clear Au; clear Av))
   go_ret
   exact ⟨er, lb⟩
  subst c62
  replace H := ip H; have H' := ak H; clear H; obtain ⟨p197, q197, V3, e197, Ak, Al, Am, Ao⟩ := wq (dU bU.out ql)
  obtain rfl : DK = V3 := (by injection e197)
  (try replace Ak := hbc HB Ak)
  (try replace Al := hbc HB Al)
  (try replace Am := hbc HB Am)
  (try replace Ao := hbc HB Ao)
  go_wp2_with (first | ((with_reducible refine aC (N := 7) rfl ?_); refine bxe 7 #[.int .i64 0, .int .i64 0, .int .i64 0, .int .i64 0] 98 ?_; intro rG hg w63 hbox hb; have n_ := a8 (ro gz hb) (bo gX hb) (bl hb) hbox (gw w hg) (gw w hg) (nl hg gX) (nr hg gX); clear gz gX HB; obtain ⟨gz, gX, HB, zC, GW198, GE198, uB, Ap⟩ := n_; clear hb hbox hg; have ⟨_, _⟩ := nn Ap; have ⟨_, _, _, _, _, _, _, _⟩ := cf4 zC; obtain ⟨p199, q199, V4, e199, jC⟩ := wq (Kd.gu (Kd.aA gz.out).2.2 ((aa ae ql).f0)); (try rw [← Nbq61.out] at jC); obtain rfl : (⟨go10, 0, none⟩ : Addr) = V4 := (by injection e199); (first | simp only [add_plain] at jC | simp only [lI] at jC | simp only [Addr.add, Nat.zero_add] at jC | skip); have Aq : (⟨go10, 0, none⟩ : Addr).block ≠ rG := Kd.dQ (Kd.gQ gz.out zC.out (by decide)); have Ar : (⟨go10, 0, none⟩ : Addr).block ≠ rG := Kd.dQ (Kd.gQ gz.out zC.out (by decide)); have Au : (⟨go10, 0, none⟩ : Addr).block ≠ rG := Kd.dQ (Kd.gQ gz.out zC.out (by decide)); have Av : (⟨go10, 0, none⟩ : Addr).block ≠ rG := Kd.dQ (Kd.gQ gz.out zC.out (by decide)); replace jC := cg ⟨rG, 0, none⟩ (.int .i64 ((aa ae ql).f0)) jC Aq; replace jC := cg ⟨rG, 1, none⟩ (.int .i64 ((aa ae ql).f1)) jC Ar; replace jC := cg ⟨rG, 2, none⟩ (.int .i64 ((aa ae ql).f2)) jC Au; replace jC := cg ⟨rG, 3, none⟩ (.int .i64 ((aa ae ql).f3)) jC Av; clear Aq; clear Ar; clear Au; clear Av))
  go_roundg k2
  case measure => have := HK1.out; have := HK2.out; omega
  case rel => exact ⟨(wrap64 (ql + 1)), sr, H', ⟨by have := HK1.out; have := HK2.out; omega⟩, ⟨by (try simp only [tZ]); exact rx (Kd.cO (Kd.dN (p := ⟨rG, 3, none⟩) (Kd.dN (p := ⟨rG, 2, none⟩) (Kd.dN (p := ⟨rG, 1, none⟩) (Kd.dN (p := ⟨rG, 0, none⟩) (Kd.fC gz.out zC.out (by decide)) (fun _ hk => hk.2) (.int .i64 ((aa ae ql).f0))) (fun _ hk => hk.2) (.int .i64 ((aa ae ql).f1))) (fun _ hk => hk.2) (.int .i64 ((aa ae ql).f2))) (fun _ hk => hk.2) (.int .i64 ((aa ae ql).f3))) (fun _ hk => trivial))⟩, ⟨by (try simp only [tZ]); (with_reducible repeat (first | refine dw ?_ _ | refine aK ?_ | refine bg ?_ _)); refine dY ?_ uB.out _; (with_reducible repeat (first | refine dw ?_ _ | refine aK ?_ | refine bg ?_ _)); refine dY ?_ uB.out _; (with_reducible repeat (first | refine dw ?_ _ | refine aK ?_ | refine bg ?_ _)); refine dY ?_ uB.out _; (with_reducible repeat (first | refine dw ?_ _ | refine aK ?_ | refine bg ?_ _)); refine dY ?_ uB.out _; exact bx gX.out⟩, ⟨lb⟩⟩
 rw [if_pos c19] at H; have c19b0 := decide_eq_true c19; clear c19; have H' := ak H; clear H; have ⟨_, _, _, _⟩ := cf2 gX
 go_wp2
 go_loopg [29] k1 (fun kq v29 w' => ∃ (oU : List Bool) (di : Int), v29 = .int .i64 di ∧ ag (aM.l1 kq oU ay tY ae (ae.length : Int) di ay ae = some r) ∧ ag (kq ≤ k1) ∧ ag (Kd.R Kd.bool 4 w' w.heap.size (fun _ => True) (.slice (some ⟨go10, 0, none⟩) ny.length co10) oU) ∧ ag (w'.heap[KH]? = some (.cells #[.int .i64 ay, (.slice (some DK) ae.length bN)] 24 (0, 0))) ∧ ag (Below w.heap.size w w'))
 case atStart => exact ⟨(ny), (0), sr, H', ⟨Nat.le_refl _⟩, ⟨by (try simp only [tZ]); exact rx gz.out⟩, ⟨by (try simp only [tZ]); exact bx gX.out⟩, ⟨lb⟩⟩
 clear H'; obtain ⟨oU, di, rfl, HA, HK2, gz, gX, HB⟩ := hrel; have wZ := (Kd.aA gz.out).1; rw [wZ] at gz
 (try simp only [wZ])
 (try simp only [wZ] at gX)
 cases gk with
 | zero => exact absurd HA.out (by simp [aM.l1])
 | succ k2 => ?_
 have H := HA.out; clear HA
 simp only [aM.l1] at H
 by_cases c21 : di < (ae.length : Int)
 rotate_left
 ·
  rw [if_neg c21] at H; have c21b0 := decide_eq_false c21; clear c21; have H' := ak H; clear H
  go_wp2
  (try simp only [← tZ, ← wZ])
  go_roundg k2
  case measure => have := HK1.out; have := HK2.out; omega
  case rel => exact ⟨(oU), (wrap64 (tY + 1)), sr, H', ⟨by have := HK1.out; have := HK2.out; omega⟩, ⟨by (try simp only [tZ]); (try simp only [wZ]); exact rx gz.out⟩, ⟨by (try simp only [tZ]); (try simp only [wZ]); exact bx gX.out⟩, ⟨lb⟩⟩
 rw [if_pos c21] at H; have c21b0 := decide_eq_true c21; clear c21; replace H := if3 H; obtain ⟨c22b0, c23b0, c24b0, H⟩ := H; replace H := ifd H; obtain ⟨c25b0, H⟩ := H; obtain ⟨bq26, hbq26⟩ : ∃ b_ : Bool, b_ = (fF false oU ((aa ae di).f0)) := ⟨_, rfl⟩; replace H : (if bq26 = true then (if 0 ≤ ((aa ae di).f1) then (if ((aa ae di).f1) < (oU.length : Int) then (aM.l1 k2 ((oU.set (((aa ae di).f0) : Int).toNat true).set (((aa ae di).f1) : Int).toNat true) ay tY ae (ae.length : Int) (wrap64 (di + 1)) ay ae) else (none)) else (none)) else (if 0 ≤ ((aa ae di).f1) then (if ((aa ae di).f1) < (oU.length : Int) then (if fF false oU ((aa ae di).f1) = true then (aM.l1 k2 ((oU.set (((aa ae di).f0) : Int).toNat true).set (((aa ae di).f1) : Int).toNat true) ay tY ae (ae.length : Int) (wrap64 (di + 1)) ay ae) else (aM.l1 k2 oU ay tY ae (ae.length : Int) (wrap64 (di + 1)) ay ae)) else (none)) else (none))) = some r := by rw [← hbq26] at H; exact H
 have Nbq26 := ak hbq26; clear hbq26
 by_cases c27 : bq26 = true
 ·
  subst c27
  replace H := ip H; obtain ⟨y192, V5⟩ : ∃ y_ : List Bool, y_ = (oU.set (((aa ae di).f0) : Int).toNat true) := ⟨_, rfl⟩; replace H : (if 0 ≤ ((aa ae di).f1) then (if ((aa ae di).f1) < (oU.length : Int) then (aM.l1 k2 (y192.set (((aa ae di).f1) : Int).toNat true) ay tY ae (ae.length : Int) (wrap64 (di + 1)) ay ae) else (none)) else (none)) = some r := by first | (rw [V5]; exact H) | exact H
  have Ny192 := ak V5; clear V5; replace H := if2 H; obtain ⟨c29b0, c30b0, H⟩ := H; obtain ⟨y193, V6⟩ : ∃ y_ : List Bool, y_ = (y192.set (((aa ae di).f1) : Int).toNat true) := ⟨_, rfl⟩; replace H : (aM.l1 k2 y193 ay tY ae (ae.length : Int) (wrap64 (di + 1)) ay ae) = some r := by first | (rw [V6]; exact H) | exact H
  have Ny193 := ak V6; clear V6; have H' := ak H; clear H; obtain ⟨p189, q189, Nh, e189, uC, uD, uE, uF⟩ := wq (dU bU.out di)
  obtain rfl : DK = Nh := (by injection e189)
  (try replace uC := hbc HB uC)
  (try replace uD := hbc HB uD)
  (try replace uE := hbc HB uE)
  (try replace uF := hbc HB uF)
  try go_wp2_with (first | ((with_reducible refine aC (N := 5) rfl ?_); refine bxe 5 #[.int .i64 0, .int .i64 0, .int .i64 0, .int .i64 0] 98 ?_; intro fD hg w32 hbox hb; have n_ := a8 (ro gz hb) (bo gX hb) (bl hb) hbox (gw w hg) (gw w hg) (nl hg gX) (nr hg gX); clear gz gX HB; obtain ⟨gz, gX, HB, iV, aby, S9, rU, uG⟩ := n_; clear hb hbox hg; have ⟨_, _⟩ := nn uG; have ⟨_, _, _, _, _, _, _, _⟩ := cf4 iV; obtain ⟨p191, q191, Nl, abz, gB⟩ := wq (Kd.gu (Kd.aA gz.out).2.2 ((aa ae di).f0)); (try rw [← Nbq26.out] at gB); obtain rfl : (⟨go10, 0, none⟩ : Addr) = Nl := (by injection abz); (first | simp only [add_plain] at gB | simp only [lI] at gB | simp only [Addr.add, Nat.zero_add] at gB | skip); have uH : (⟨go10, 0, none⟩ : Addr).block ≠ fD := Kd.dQ (Kd.gQ gz.out iV.out (by decide)); have uI : (⟨go10, 0, none⟩ : Addr).block ≠ fD := Kd.dQ (Kd.gQ gz.out iV.out (by decide)); have uJ : (⟨go10, 0, none⟩ : Addr).block ≠ fD := Kd.dQ (Kd.gQ gz.out iV.out (by decide)); have uK : (⟨go10, 0, none⟩ : Addr).block ≠ fD := Kd.dQ (Kd.gQ gz.out iV.out (by decide)); replace gB := cg ⟨fD, 0, none⟩ (.int .i64 ((aa ae di).f0)) gB uH; replace gB := cg ⟨fD, 1, none⟩ (.int .i64 ((aa ae di).f1)) gB uI; replace gB := cg ⟨fD, 2, none⟩ (.int .i64 ((aa ae di).f2)) gB uJ; replace gB := cg ⟨fD, 3, none⟩ (.int .i64 ((aa ae di).f3)) gB uK; clear uH; clear uI; clear uJ; clear uK))
  have n0_ : ag (Kd.R Kd.bool 4 ((((w32.setCell ⟨fD, 0, none⟩ (.int .i64 ((aa ae di).f0))).setCell ⟨fD, 1, none⟩ (.int .i64 ((aa ae di).f1))).setCell ⟨fD, 2, none⟩ (.int .i64 ((aa ae di).f2))).setCell ⟨fD, 3, none⟩ (.int .i64 ((aa ae di).f3))) w.heap.size (fun _ => True) (.slice (some ⟨go10, 0, none⟩) oU.length co10) oU) := ⟨by exact rx (Kd.cO (Kd.dN (p := ⟨fD, 3, none⟩) (Kd.dN (p := ⟨fD, 2, none⟩) (Kd.dN (p := ⟨fD, 1, none⟩) (Kd.dN (p := ⟨fD, 0, none⟩) (Kd.fC gz.out iV.out (by decide)) (fun _ hk => hk.2) (.int .i64 ((aa ae di).f0))) (fun _ hk => hk.2) (.int .i64 ((aa ae di).f1))) (fun _ hk => hk.2) (.int .i64 ((aa ae di).f2))) (fun _ hk => hk.2) (.int .i64 ((aa ae di).f3))) (fun _ hk => trivial))⟩
  have n1_ : ag (((((w32.setCell ⟨fD, 0, none⟩ (.int .i64 ((aa ae di).f0))).setCell ⟨fD, 1, none⟩ (.int .i64 ((aa ae di).f1))).setCell ⟨fD, 2, none⟩ (.int .i64 ((aa ae di).f2))).setCell ⟨fD, 3, none⟩ (.int .i64 ((aa ae di).f3))).heap[KH]? = some (.cells #[.int .i64 ay, .slice (some DK) ae.length bN] 24 (0, 0))) := ⟨bz⟩
  have n2_ : ag (((((w32.setCell ⟨fD, 0, none⟩ (.int .i64 ((aa ae di).f0))).setCell ⟨fD, 1, none⟩ (.int .i64 ((aa ae di).f1))).setCell ⟨fD, 2, none⟩ (.int .i64 ((aa ae di).f2))).setCell ⟨fD, 3, none⟩ (.int .i64 ((aa ae di).f3))).heap[fD]? = some (.cells #[.int .i64 ((aa ae di).f0), .int .i64 ((aa ae di).f1), .int .i64 ((aa ae di).f2), .int .i64 ((aa ae di).f3)] 98 (0, 0))) := ⟨bz⟩
  have n3_ : ag (Below w.heap.size w ((((w32.setCell ⟨fD, 0, none⟩ (.int .i64 ((aa ae di).f0))).setCell ⟨fD, 1, none⟩ (.int .i64 ((aa ae di).f1))).setCell ⟨fD, 2, none⟩ (.int .i64 ((aa ae di).f2))).setCell ⟨fD, 3, none⟩ (.int .i64 ((aa ae di).f3)))) := ⟨lb⟩
  (try clear gz)
  (try clear gX)
  (try clear iV)
  (try clear HB)
  generalize ((((w32.setCell ⟨fD, 0, none⟩ (.int .i64 ((aa ae di).f0))).setCell ⟨fD, 1, none⟩ (.int .i64 ((aa ae di).f1))).setCell ⟨fD, 2, none⟩ (.int .i64 ((aa ae di).f2))).setCell ⟨fD, 3, none⟩ (.int .i64 ((aa ae di).f3))) = w35 at n0_ n1_ n2_ n3_ ⊢
  have gz := n0_; have gX := n1_; have iV := n2_; have HB := n3_; clear n0_ n1_ n2_ n3_; have n_ := a4 (Kd.fH gz.out) (aK gX.out) (aK iV.out) (bJ HB.out); clear gz gX iV HB; obtain ⟨gz, gX, iV, HB⟩ := n_; have p28 : 0 ≤ (((aa ae di).f0) : Int) := oda; have q28 : (((aa ae di).f0) : Int) < ((oU.length : Int) : Int) := oda; obtain ⟨abA, abB⟩ := Kd.gJ false gz.out (((aa ae di).f0) : Int) p28 q28; replace p28 := eq_true p28; replace q28 := eq_true q28; have HP37 := Kd.wP gz.out (((aa ae di).f0) : Int) true; rw [← Ny192.out] at HP37; have HQ37 := ak HP37; clear HP37; have p31 : 0 ≤ (((aa ae di).f1) : Int) := oda; have q31 : (((aa ae di).f1) : Int) < ((oU.length : Int) : Int) := oda; obtain ⟨abC, abD⟩ := Kd.gJ false HQ37.out (((aa ae di).f1) : Int) p31 q31; replace p31 := eq_true p31; replace q31 := eq_true q31; have HP38 := Kd.wP HQ37.out (((aa ae di).f1) : Int) true; rw [← Ny193.out] at HP38; have HQ38 := ak HP38; clear HP38
  refine stC 10 [9] (cX (bc0 iV) (cX (bc1 iV) (cX (bc2 iV) (cY (bc3 iV))))) aM.KG aM.Ed fun hHeld HT_ HW_ => ?_
  generalize w35.drew = w36 at gz gX iV HB HQ37 HQ38 abB abD abA abC hHeld ⊢
  refine pv HT_ 0 45 ?_; refine pv HT_ 1 46 ?_; refine pv HT_ 3 48 ?_; refine pv HT_ 4 49 ?_; refine tv HT_ HW_ hHeld 2 47 ?_; refine pv HT_ 6 51 ?_; refine tv HT_ HW_ hHeld 5 50 ?_
  refine wT (i := 7) (N := none) #[T, T, T, T, T, T, T, T, F, F] rfl rfl (gP HT_.out (by kernel_rfl)) (by decide) (fun K hK => ?_)
  refine tV (w1 := ?_) (by rfl) rfl ?_ ?_
  rotate_left
  ·
   go_simp
   rfl
  refine hK.out _ _ ⟨((cell_far (p := ⟨go10, _, none⟩) (fun e_ => Kd.dQ (Kd.gQ gz.out iV.out (by decide)) e_.symm) _).trans (hHeld.1)), ((cell_far (p := ⟨go10, _, none⟩) (fun e_ => Kd.dQ (Kd.gQ gz.out iV.out (by decide)) e_.symm) _).trans (hHeld.2.1)), ((cell_far (p := ⟨go10, _, none⟩) (fun e_ => Kd.dQ (Kd.gQ gz.out iV.out (by decide)) e_.symm) _).trans (hHeld.2.2.1)), ((cell_far (p := ⟨go10, _, none⟩) (fun e_ => Kd.dQ (Kd.gQ gz.out iV.out (by decide)) e_.symm) _).trans (hHeld.2.2.2))⟩ (fun hHeld => ?_)
  clear hK K
  refine pv HT_ 8 52 ?_
  refine um (i := 9) (N := none) #[T, T, T, T, T, T, T, T, T, T] rfl rfl (gP HT_.out (by kernel_rfl)) (by decide) (fun K hK => ?_)
  refine tV (w1 := ?_) (by rfl) rfl ?_ ?_
  rotate_left
  ·
   go_simp
   rfl
  refine hK.out _ _ ?_
  clear hK K
  refine kN (fV HT_.out (by kernel_rfl)) ?_
  try go_wp2
  (try simp only [← wZ])
  go_roundg k2
  case measure => have := HK1.out; have := HK2.out; omega
  case rel => exact ⟨(y193), (wrap64 (di + 1)), sr, H', ⟨by have := HK1.out; have := HK2.out; omega⟩, ⟨by (try simp only [tZ]); (try simp only [wZ]); (with_reducible repeat (first | apply Kd.pq | apply Kd.oD | apply Kd.fH)); exact HQ38.out⟩, ⟨by (try simp only [tZ]); (try simp only [wZ]); (with_reducible repeat (first | refine dw ?_ _ | refine aK ?_ | refine bg ?_ _)); refine dY ?_ (by have h_ := Kd.gQ gz.out gX.out (by decide); intro e_; exact h_ (by rw [e_]; rfl)) _; (with_reducible repeat (first | refine dw ?_ _ | refine aK ?_ | refine bg ?_ _)); refine dY ?_ (by have h_ := Kd.gQ gz.out gX.out (by decide); intro e_; exact h_ (by rw [e_]; rfl)) _; exact bx gX.out⟩, ⟨by repeat (first | (with_reducible first | exact HB.out | apply fE | apply gq | apply bJ | refine bR ?_ GB10.out | refine bR ?_ GB10.out | refine bR ?_ VX.out | refine bR ?_ S9.out) | exact HB.out)⟩⟩
 replace c27 := Bool.eq_false_iff.mpr c27; subst c27
 have H1 : (if 0 ≤ ((aa ae di).f1) then (if ((aa ae di).f1) < (oU.length : Int) then (if fF false oU ((aa ae di).f1) = true then (aM.l1 k2 ((oU.set (((aa ae di).f0) : Int).toNat true).set (((aa ae di).f1) : Int).toNat true) ay tY ae (ae.length : Int) (wrap64 (di + 1)) ay ae) else (aM.l1 k2 oU ay tY ae (ae.length : Int) (wrap64 (di + 1)) ay ae)) else (none)) else (none)) = some r := by rw [if_neg (show ¬ (false = true) by decide)] at H; exact H
 clear H; have H := H1; clear H1; replace H := if2 H; obtain ⟨c39b0, c40b0, H⟩ := H; obtain ⟨bq41, hbq41⟩ : ∃ b_ : Bool, b_ = (fF false oU ((aa ae di).f1)) := ⟨_, rfl⟩; replace H : (if bq41 = true then (aM.l1 k2 ((oU.set (((aa ae di).f0) : Int).toNat true).set (((aa ae di).f1) : Int).toNat true) ay tY ae (ae.length : Int) (wrap64 (di + 1)) ay ae) else (aM.l1 k2 oU ay tY ae (ae.length : Int) (wrap64 (di + 1)) ay ae)) = some r := by rw [← hbq41] at H; exact H
 have Nbq41 := ak hbq41; clear hbq41
 by_cases c42 : bq41 = true
 rotate_left
 ·
  replace c42 := Bool.eq_false_iff.mpr c42; subst c42
  have H1 : (aM.l1 k2 oU ay tY ae (ae.length : Int) (wrap64 (di + 1)) ay ae) = some r := by rw [if_neg (show ¬ (false = true) by decide)] at H; exact H
  clear H; have H := H1; clear H1; have H' := ak H; clear H; obtain ⟨p189, q189, Nh, e189, uC, uD, uE, uF⟩ := wq (dU bU.out di)
  obtain rfl : DK = Nh := (by injection e189)
  (try replace uC := hbc HB uC)
  (try replace uD := hbc HB uD)
  (try replace uE := hbc HB uE)
  (try replace uF := hbc HB uF)
  go_wp2_with (first | ((with_reducible refine aC (N := 5) rfl ?_); refine bxe 5 #[.int .i64 0, .int .i64 0, .int .i64 0, .int .i64 0] 98 ?_; intro fD hg w52 hbox hb; have n_ := a8 (ro gz hb) (bo gX hb) (bl hb) hbox (gw w hg) (gw w hg) (nl hg gX) (nr hg gX); clear gz gX HB; obtain ⟨gz, gX, HB, iV, aby, S9, rU, uG⟩ := n_; clear hb hbox hg; have ⟨_, _⟩ := nn uG; have ⟨_, _, _, _, _, _, _, _⟩ := cf4 iV; obtain ⟨p191, q191, Nl, abz, gB⟩ := wq (Kd.gu (Kd.aA gz.out).2.2 ((aa ae di).f0)); (try rw [← Nbq26.out] at gB); (try rw [← Nbq41.out] at gB); obtain rfl : (⟨go10, 0, none⟩ : Addr) = Nl := (by injection abz); (first | simp only [add_plain] at gB | simp only [lI] at gB | simp only [Addr.add, Nat.zero_add] at gB | skip); have uH : (⟨go10, 0, none⟩ : Addr).block ≠ fD := Kd.dQ (Kd.gQ gz.out iV.out (by decide)); have uI : (⟨go10, 0, none⟩ : Addr).block ≠ fD := Kd.dQ (Kd.gQ gz.out iV.out (by decide)); have uJ : (⟨go10, 0, none⟩ : Addr).block ≠ fD := Kd.dQ (Kd.gQ gz.out iV.out (by decide)); have uK : (⟨go10, 0, none⟩ : Addr).block ≠ fD := Kd.dQ (Kd.gQ gz.out iV.out (by decide)); replace gB := cg ⟨fD, 0, none⟩ (.int .i64 ((aa ae di).f0)) gB uH; replace gB := cg ⟨fD, 1, none⟩ (.int .i64 ((aa ae di).f1)) gB uI; replace gB := cg ⟨fD, 2, none⟩ (.int .i64 ((aa ae di).f2)) gB uJ; replace gB := cg ⟨fD, 3, none⟩ (.int .i64 ((aa ae di).f3)) gB uK; clear uH; clear uI; clear uJ; clear uK; obtain ⟨p194, q194, V7, e194, iZ⟩ := wq (Kd.gu (Kd.aA gz.out).2.2 ((aa ae di).f1)); (try rw [← Nbq26.out] at iZ); (try rw [← Nbq41.out] at iZ); obtain rfl : (⟨go10, 0, none⟩ : Addr) = V7 := (by injection e194); (first | simp only [add_plain] at iZ | simp only [lI] at iZ | simp only [Addr.add, Nat.zero_add] at iZ | skip); have Aw : (⟨go10, 0, none⟩ : Addr).block ≠ fD := Kd.dQ (Kd.gQ gz.out iV.out (by decide)); have Ay : (⟨go10, 0, none⟩ : Addr).block ≠ fD := Kd.dQ (Kd.gQ gz.out iV.out (by decide)); have Az : (⟨go10, 0, none⟩ : Addr).block ≠ fD := Kd.dQ (Kd.gQ gz.out iV.out (by decide)); have AA : (⟨go10, 0, none⟩ : Addr).block ≠ fD := Kd.dQ (Kd.gQ gz.out iV.out (by decide)); replace iZ := cg ⟨fD, 0, none⟩ (.int .i64 ((aa ae di).f0)) iZ Aw; replace iZ := cg ⟨fD, 1, none⟩ (.int .i64 ((aa ae di).f1)) iZ Ay; replace iZ := cg ⟨fD, 2, none⟩ (.int .i64 ((aa ae di).f2)) iZ Az; replace iZ := cg ⟨fD, 3, none⟩ (.int .i64 ((aa ae di).f3)) iZ AA; clear Aw; clear Ay; clear Az; clear AA))
  (try simp only [← wZ])
  go_roundg k2
  case measure => have := HK1.out; have := HK2.out; omega
  case rel => exact ⟨(oU), (wrap64 (di + 1)), sr, H', ⟨by have := HK1.out; have := HK2.out; omega⟩, ⟨by (try simp only [tZ]); (try simp only [wZ]); exact rx (Kd.cO (Kd.dN (p := ⟨fD, 3, none⟩) (Kd.dN (p := ⟨fD, 2, none⟩) (Kd.dN (p := ⟨fD, 1, none⟩) (Kd.dN (p := ⟨fD, 0, none⟩) (Kd.fC gz.out iV.out (by decide)) (fun _ hk => hk.2) (.int .i64 ((aa ae di).f0))) (fun _ hk => hk.2) (.int .i64 ((aa ae di).f1))) (fun _ hk => hk.2) (.int .i64 ((aa ae di).f2))) (fun _ hk => hk.2) (.int .i64 ((aa ae di).f3))) (fun _ hk => trivial))⟩, ⟨by (try simp only [tZ]); (try simp only [wZ]); (with_reducible repeat (first | refine dw ?_ _ | refine aK ?_ | refine bg ?_ _)); refine dY ?_ rU.out _; (with_reducible repeat (first | refine dw ?_ _ | refine aK ?_ | refine bg ?_ _)); refine dY ?_ rU.out _; (with_reducible repeat (first | refine dw ?_ _ | refine aK ?_ | refine bg ?_ _)); refine dY ?_ rU.out _; (with_reducible repeat (first | refine dw ?_ _ | refine aK ?_ | refine bg ?_ _)); refine dY ?_ rU.out _; exact bx gX.out⟩, ⟨lb⟩⟩
 subst c42
 replace H := ip H; obtain ⟨y195, V8⟩ : ∃ y_ : List Bool, y_ = (oU.set (((aa ae di).f0) : Int).toNat true) := ⟨_, rfl⟩; replace H : (aM.l1 k2 (y195.set (((aa ae di).f1) : Int).toNat true) ay tY ae (ae.length : Int) (wrap64 (di + 1)) ay ae) = some r := by first | (rw [V8]; exact H) | exact H
 have Ny195 := ak V8; clear V8; obtain ⟨y196, V9⟩ : ∃ y_ : List Bool, y_ = (y195.set (((aa ae di).f1) : Int).toNat true) := ⟨_, rfl⟩; replace H : (aM.l1 k2 y196 ay tY ae (ae.length : Int) (wrap64 (di + 1)) ay ae) = some r := by first | (rw [V9]; exact H) | exact H
 have Ny196 := ak V9; clear V9; have H' := ak H; clear H; obtain ⟨p189, q189, Nh, e189, uC, uD, uE, uF⟩ := wq (dU bU.out di)
 obtain rfl : DK = Nh := (by injection e189)
 (try replace uC := hbc HB uC)
 (try replace uD := hbc HB uD)
 (try replace uE := hbc HB uE)
 (try replace uF := hbc HB uF)
 try go_wp2_with (first | ((with_reducible refine aC (N := 5) rfl ?_); refine bxe 5 #[.int .i64 0, .int .i64 0, .int .i64 0, .int .i64 0] 98 ?_; intro fD hg w45 hbox hb; have n_ := a8 (ro gz hb) (bo gX hb) (bl hb) hbox (gw w hg) (gw w hg) (nl hg gX) (nr hg gX); clear gz gX HB; obtain ⟨gz, gX, HB, iV, aby, S9, rU, uG⟩ := n_; clear hb hbox hg; have ⟨_, _⟩ := nn uG; have ⟨_, _, _, _, _, _, _, _⟩ := cf4 iV; obtain ⟨p191, q191, Nl, abz, gB⟩ := wq (Kd.gu (Kd.aA gz.out).2.2 ((aa ae di).f0)); (try rw [← Nbq26.out] at gB); (try rw [← Nbq41.out] at gB); obtain rfl : (⟨go10, 0, none⟩ : Addr) = Nl := (by injection abz); (first | simp only [add_plain] at gB | simp only [lI] at gB | simp only [Addr.add, Nat.zero_add] at gB | skip); have uH : (⟨go10, 0, none⟩ : Addr).block ≠ fD := Kd.dQ (Kd.gQ gz.out iV.out (by decide)); have uI : (⟨go10, 0, none⟩ : Addr).block ≠ fD := Kd.dQ (Kd.gQ gz.out iV.out (by decide)); have uJ : (⟨go10, 0, none⟩ : Addr).block ≠ fD := Kd.dQ (Kd.gQ gz.out iV.out (by decide)); have uK : (⟨go10, 0, none⟩ : Addr).block ≠ fD := Kd.dQ (Kd.gQ gz.out iV.out (by decide)); replace gB := cg ⟨fD, 0, none⟩ (.int .i64 ((aa ae di).f0)) gB uH; replace gB := cg ⟨fD, 1, none⟩ (.int .i64 ((aa ae di).f1)) gB uI; replace gB := cg ⟨fD, 2, none⟩ (.int .i64 ((aa ae di).f2)) gB uJ; replace gB := cg ⟨fD, 3, none⟩ (.int .i64 ((aa ae di).f3)) gB uK; clear uH; clear uI; clear uJ; clear uK; obtain ⟨p194, q194, V7, e194, iZ⟩ := wq (Kd.gu (Kd.aA gz.out).2.2 ((aa ae di).f1)); (try rw [← Nbq26.out] at iZ); (try rw [← Nbq41.out] at iZ); obtain rfl : (⟨go10, 0, none⟩ : Addr) = V7 := (by injection e194); (first | simp only [add_plain] at iZ | simp only [lI] at iZ | simp only [Addr.add, Nat.zero_add] at iZ | skip); have Aw : (⟨go10, 0, none⟩ : Addr).block ≠ fD := Kd.dQ (Kd.gQ gz.out iV.out (by decide)); have Ay : (⟨go10, 0, none⟩ : Addr).block ≠ fD := Kd.dQ (Kd.gQ gz.out iV.out (by decide)); have Az : (⟨go10, 0, none⟩ : Addr).block ≠ fD := Kd.dQ (Kd.gQ gz.out iV.out (by decide)); have AA : (⟨go10, 0, none⟩ : Addr).block ≠ fD := Kd.dQ (Kd.gQ gz.out iV.out (by decide)); replace iZ := cg ⟨fD, 0, none⟩ (.int .i64 ((aa ae di).f0)) iZ Aw; replace iZ := cg ⟨fD, 1, none⟩ (.int .i64 ((aa ae di).f1)) iZ Ay; replace iZ := cg ⟨fD, 2, none⟩ (.int .i64 ((aa ae di).f2)) iZ Az; replace iZ := cg ⟨fD, 3, none⟩ (.int .i64 ((aa ae di).f3)) iZ AA; clear Aw; clear Ay; clear Az; clear AA))
 have n0_ : ag (Kd.R Kd.bool 4 ((((w45.setCell ⟨fD, 0, none⟩ (.int .i64 ((aa ae di).f0))).setCell ⟨fD, 1, none⟩ (.int .i64 ((aa ae di).f1))).setCell ⟨fD, 2, none⟩ (.int .i64 ((aa ae di).f2))).setCell ⟨fD, 3, none⟩ (.int .i64 ((aa ae di).f3))) w.heap.size (fun _ => True) (.slice (some ⟨go10, 0, none⟩) oU.length co10) oU) := ⟨by exact rx (Kd.cO (Kd.dN (p := ⟨fD, 3, none⟩) (Kd.dN (p := ⟨fD, 2, none⟩) (Kd.dN (p := ⟨fD, 1, none⟩) (Kd.dN (p := ⟨fD, 0, none⟩) (Kd.fC gz.out iV.out (by decide)) (fun _ hk => hk.2) (.int .i64 ((aa ae di).f0))) (fun _ hk => hk.2) (.int .i64 ((aa ae di).f1))) (fun _ hk => hk.2) (.int .i64 ((aa ae di).f2))) (fun _ hk => hk.2) (.int .i64 ((aa ae di).f3))) (fun _ hk => trivial))⟩
 have n1_ : ag (((((w45.setCell ⟨fD, 0, none⟩ (.int .i64 ((aa ae di).f0))).setCell ⟨fD, 1, none⟩ (.int .i64 ((aa ae di).f1))).setCell ⟨fD, 2, none⟩ (.int .i64 ((aa ae di).f2))).setCell ⟨fD, 3, none⟩ (.int .i64 ((aa ae di).f3))).heap[KH]? = some (.cells #[.int .i64 ay, .slice (some DK) ae.length bN] 24 (0, 0))) := ⟨bz⟩
 have n2_ : ag (((((w45.setCell ⟨fD, 0, none⟩ (.int .i64 ((aa ae di).f0))).setCell ⟨fD, 1, none⟩ (.int .i64 ((aa ae di).f1))).setCell ⟨fD, 2, none⟩ (.int .i64 ((aa ae di).f2))).setCell ⟨fD, 3, none⟩ (.int .i64 ((aa ae di).f3))).heap[fD]? = some (.cells #[.int .i64 ((aa ae di).f0), .int .i64 ((aa ae di).f1), .int .i64 ((aa ae di).f2), .int .i64 ((aa ae di).f3)] 98 (0, 0))) := ⟨bz⟩
 have n3_ : ag (Below w.heap.size w ((((w45.setCell ⟨fD, 0, none⟩ (.int .i64 ((aa ae di).f0))).setCell ⟨fD, 1, none⟩ (.int .i64 ((aa ae di).f1))).setCell ⟨fD, 2, none⟩ (.int .i64 ((aa ae di).f2))).setCell ⟨fD, 3, none⟩ (.int .i64 ((aa ae di).f3)))) := ⟨lb⟩
 (try clear gz)
 (try clear gX)
 (try clear iV)
 (try clear HB)
 generalize ((((w45.setCell ⟨fD, 0, none⟩ (.int .i64 ((aa ae di).f0))).setCell ⟨fD, 1, none⟩ (.int .i64 ((aa ae di).f1))).setCell ⟨fD, 2, none⟩ (.int .i64 ((aa ae di).f2))).setCell ⟨fD, 3, none⟩ (.int .i64 ((aa ae di).f3))) = w48 at n0_ n1_ n2_ n3_ ⊢
 have gz := n0_; have gX := n1_; have iV := n2_; have HB := n3_; clear n0_ n1_ n2_ n3_; have n_ := a4 (Kd.fH gz.out) (aK gX.out) (aK iV.out) (bJ HB.out); clear gz gX iV HB; obtain ⟨gz, gX, iV, HB⟩ := n_; have p43 : 0 ≤ (((aa ae di).f0) : Int) := oda; have q43 : (((aa ae di).f0) : Int) < ((oU.length : Int) : Int) := oda; obtain ⟨abE, abF⟩ := Kd.gJ false gz.out (((aa ae di).f0) : Int) p43 q43; replace p43 := eq_true p43; replace q43 := eq_true q43; have HP50 := Kd.wP gz.out (((aa ae di).f0) : Int) true; rw [← Ny195.out] at HP50; have HQ50 := ak HP50; clear HP50; have p44 : 0 ≤ (((aa ae di).f1) : Int) := oda; have q44 : (((aa ae di).f1) : Int) < ((oU.length : Int) : Int) := oda; obtain ⟨abG, abH⟩ := Kd.gJ false HQ50.out (((aa ae di).f1) : Int) p44 q44; replace p44 := eq_true p44; replace q44 := eq_true q44; have HP51 := Kd.wP HQ50.out (((aa ae di).f1) : Int) true; rw [← Ny196.out] at HP51; have HQ51 := ak HP51; clear HP51
 refine stC 10 [9] (cX (bc0 iV) (cX (bc1 iV) (cX (bc2 iV) (cY (bc3 iV))))) aM.KG aM.Ed fun hHeld HT_ HW_ => ?_
 generalize w48.drew = w49 at gz gX iV HB HQ50 HQ51 abF abH abE abG hHeld ⊢
 refine pv HT_ 0 45 ?_; refine pv HT_ 1 46 ?_; refine pv HT_ 3 48 ?_; refine pv HT_ 4 49 ?_; refine tv HT_ HW_ hHeld 2 47 ?_; refine pv HT_ 6 51 ?_; refine tv HT_ HW_ hHeld 5 50 ?_
 refine wT (i := 7) (N := none) #[T, T, T, T, T, T, T, T, F, F] rfl rfl (gP HT_.out (by kernel_rfl)) (by decide) (fun K hK => ?_)
 refine tV (w1 := ?_) (by rfl) rfl ?_ ?_
 rotate_left
 ·
  go_simp
  rfl
 refine hK.out _ _ ⟨((cell_far (p := ⟨go10, _, none⟩) (fun e_ => Kd.dQ (Kd.gQ gz.out iV.out (by decide)) e_.symm) _).trans (hHeld.1)), ((cell_far (p := ⟨go10, _, none⟩) (fun e_ => Kd.dQ (Kd.gQ gz.out iV.out (by decide)) e_.symm) _).trans (hHeld.2.1)), ((cell_far (p := ⟨go10, _, none⟩) (fun e_ => Kd.dQ (Kd.gQ gz.out iV.out (by decide)) e_.symm) _).trans (hHeld.2.2.1)), ((cell_far (p := ⟨go10, _, none⟩) (fun e_ => Kd.dQ (Kd.gQ gz.out iV.out (by decide)) e_.symm) _).trans (hHeld.2.2.2))⟩ (fun hHeld => ?_)
 clear hK K
 refine pv HT_ 8 52 ?_
 refine um (i := 9) (N := none) #[T, T, T, T, T, T, T, T, T, T] rfl rfl (gP HT_.out (by kernel_rfl)) (by decide) (fun K hK => ?_)
 refine tV (w1 := ?_) (by rfl) rfl ?_ ?_
 rotate_left
 ·
  go_simp
  rfl
 refine hK.out _ _ ?_
 clear hK K
 refine kN (fV HT_.out (by kernel_rfl)) ?_
 try go_wp2
 (try simp only [← wZ])
 go_roundg k2
 case measure => have := HK1.out; have := HK2.out; omega
 case rel => exact ⟨(y196), (wrap64 (di + 1)), sr, H', ⟨by have := HK1.out; have := HK2.out; omega⟩, ⟨by (try simp only [tZ]); (try simp only [wZ]); (with_reducible repeat (first | apply Kd.pq | apply Kd.oD | apply Kd.fH)); exact HQ51.out⟩, ⟨by (try simp only [tZ]); (try simp only [wZ]); (with_reducible repeat (first | refine dw ?_ _ | refine aK ?_ | refine bg ?_ _)); refine dY ?_ (by have h_ := Kd.gQ gz.out gX.out (by decide); intro e_; exact h_ (by rw [e_]; rfl)) _; (with_reducible repeat (first | refine dw ?_ _ | refine aK ?_ | refine bg ?_ _)); refine dY ?_ (by have h_ := Kd.gQ gz.out gX.out (by decide); intro e_; exact h_ (by rw [e_]; rfl)) _; exact bx gX.out⟩, ⟨by repeat (first | (with_reducible first | exact HB.out | apply fE | apply gq | apply bJ | refine bR ?_ GB10.out | refine bR ?_ GB10.out | refine bR ?_ VX.out | refine bR ?_ S9.out) | exact HB.out)⟩⟩
end Go.Proofs.Ytkdoihcjhccliaa.Q
