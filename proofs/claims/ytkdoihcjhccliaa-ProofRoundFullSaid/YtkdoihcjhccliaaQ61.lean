import Derived.Test.YtkdoihcjhccliaaK
import Derived.Test.YtkdoihcjhccliaaV
import Derived.Test.YtkdoihcjhccliaaQ0
import Derived.Test.YtkdoihcjhccliaaQ3
namespace Go.Proofs.Ytkdoihcjhccliaa.Q
open Go.RowKit Go.Proofs.YtkdoihcjhccliaaW.PrintWords Go.Proofs.YtkdoihcjhccliaaW.PrintLast Go.Proofs.YtkdoihcjhccliaaW.PrintMore
attribute [local go_sem] dF dG eG eH cz cB dH dI   -- for this text's walks alone
set_option linter.unusedVariables false
set_option linter.unusedSimpArgs false

/-! ### aI: function 57 -/
mutual
def aI.l0 : Nat → Int → List Int → Int → Int → List (S98) → Option (List Int)
  | 0, _, _, _, _, _ => none
  | k + 1, x1, x5, x6, pR, kX => if x6 < pR then (if 0 ≤ x6 then (if x6 < (x5.length : Int) then (aI.l0 k x1 (x5.set (x6 : Int).toNat (-2)) (wrap64 (x6 + 1)) pR kX) else (none)) else (none)) else (if 0 ≤ x1 then (if x1 < (x5.length : Int) then (aI.l1 k (x5.set (x1 : Int).toNat (-1)) 0 pR kX) else (none)) else (none))
def aI.l1 : Nat → List Int → Int → Int → List (S98) → Option (List Int)
  | 0, _, _, _, _ => none
  | k + 1, x5, x7, pR, kX => if x7 < pR then (aI.l2 k x5 x7 0 pR kX) else (some x5)
def aI.l2 : Nat → List Int → Int → Int → Int → List (S98) → Option (List Int)
  | 0, _, _, _, _, _ => none
  | k + 1, x5, x7, x8, pR, kX => if x8 < (kX.length : Int) then (if 0 ≤ x8 then (if ((aa kX x8).f2) > 0 then (if 0 ≤ ((aa kX x8).f0) then (if ((aa kX x8).f0) < (x5.length : Int) then (if (rd x5 ((aa kX x8).f0)) ≥ (-1) then (if 0 ≤ ((aa kX x8).f1) then (if ((aa kX x8).f1) < (x5.length : Int) then (if (rd x5 ((aa kX x8).f1)) = (-2) then (aI.l2 k (x5.set (((aa kX x8).f1) : Int).toNat x8) x7 (wrap64 (x8 + 1)) pR kX) else (aI.l2 k x5 x7 (wrap64 (x8 + 1)) pR kX)) else (none)) else (none)) else (aI.l2 k x5 x7 (wrap64 (x8 + 1)) pR kX)) else (none)) else (none)) else (aI.l2 k x5 x7 (wrap64 (x8 + 1)) pR kX)) else (none)) else (aI.l1 k x5 (wrap64 (x7 + 1)) pR kX)
end
def aI.f (k : Nat) (ay : Int) (ae : List (S98)) (a1 : Int) : Option (List Int) := if 0 ≤ ay then (if (ay : Int).toNat ≤ 35184372088832 then (aI.l0 k a1 (List.replicate (ay : Int).toNat 0) 0 ay ae) else (none)) else (none)
set_option maxHeartbeats 8000000 in
set_option maxRecDepth 100000 in
theorem aI.calls (k : Nat) (ay : Int) (bX : Option Addr) (bN : Nat) (ae : List (S98)) (a1 : Int) (r : List Int) (w : World) (dB : Kd.C k98 w bX ae.length ae) (dC : ae.length ≤ bN) (h : aI.f k ay ae a1 = some r) :
    Calls Try.prog 57 #[.agg #[.int .i64 ay, .slice bX ae.length bN], .int .i64 a1] w fun e w' => ∃ v0_ : Value, e = .returned (v0_) ∧ Kd.R (Kd.int .i64) 3 w' w.heap.size (fun _ => True) v0_ r ∧ Below w.heap.size w w' := by
 have hu24 := Try.underlying24; have hu98 := Try.underlying98; have bU := ak dB; have eU := ak dC; clear dB dC; have HB := ak (Below.refl w.heap.size w); have H : (if 0 ≤ ay then (if (ay : Int).toNat ≤ 35184372088832 then (aI.l0 k a1 (List.replicate (ay : Int).toNat 0) 0 ay ae) else (none)) else (none)) = some r := h; clear h; replace H := ife H; obtain ⟨c3b0, c3b1, H⟩ := H; replace H := ife H; obtain ⟨c4b0, c4b1, H⟩ := H; obtain ⟨y342, YC⟩ : ∃ y_ : List Int, y_ = (List.replicate (ay : Int).toNat 0) := ⟨_, rfl⟩; replace H : (aI.l0 k a1 y342 0 ay ae) = some r := by first | (rw [YC]; exact H) | exact H
 have adC := ak YC; clear YC; have H' := ak H; clear H
 go_enter Try.func57, Try.ntmps57
 go_wp2_with (first | ((with_reducible refine aC (N := 2) rfl ?_); refine bxe 2 #[.int .i64 ay, .slice bX ae.length bN] 24 ?_; intro Tx hg w5 hbox hb; have n_ := a4 (bl hb) hbox (gw w hg) (gw w hg); clear HB; obtain ⟨HB, iL, GW341, GE341⟩ := n_; clear hb hbox hg; have ⟨_, _, _, _⟩ := cf2 iL) | ((with_reducible refine aC (N := 12) rfl ?_); refine Kd.ni (Kd.int .i64) _ 3 rfl (N := 12) rfl 70 _ _ rfl ay rfl rfl Try.underlying70 (.int .i64 0) 8 info3 rfl (by decide) (by omega) 0 (ok := fun _ => True) (okp := fun _ => True) rfl (fun _ hk => hk) trivial (oda) (Nat.le_trans (Nat.mul_le_mul_right _ (oda : ay.toNat ≤ 35184372088832)) (by omega)) (Below.refl _ _) (Nat.le_refl _) ?_; intro v343 w7 ho8 hb hg_ hnew_; clear hg_ hnew_; (first | rw [← adC.out] at ho8 | (simp only [Int.reduceToNat] at ho8; rw [← adC.out] at ho8)); have n_ := a3 (Kd.bY ho8 (ax lb)) (bo iL hb) (bl hb); clear iL HB; obtain ⟨HO344, iL, HB⟩ := n_; clear hb ho8))
 go_loopg [6] k (fun kq v6 w' => ∃ (bV : List Int) (eD : Int), v6 = .int .i64 eD ∧ ag (aI.l0 kq a1 bV eD ay ae = some r) ∧ ag (kq ≤ k) ∧ ag (Kd.R (Kd.int .i64) 3 w' w.heap.size (fun _ => True) v343 bV) ∧ ag (w'.heap[Tx]? = some (.cells #[.int .i64 ay, (.slice bX ae.length bN)] 24 (0, 0))) ∧ ag (Below w.heap.size w w'))
 case atStart => exact ⟨(y342), (0), sr, H', ⟨Nat.le_refl _⟩, ⟨rx HO344.out⟩, xb iL, ⟨lb⟩⟩
 clear H'; obtain ⟨bV, eD, rfl, HA, HK1, fJ, iL, HB⟩ := hrel
 cases gk with
 | zero => exact absurd HA.out (by simp [aI.l0])
 | succ k1 => ?_
 have H := HA.out; clear HA
 simp only [aI.l0] at H
 by_cases c9 : eD < ay
 ·
  rw [if_pos c9] at H; have c9b0 := decide_eq_true c9; clear c9; replace H := if2 H; obtain ⟨c10b0, c11b0, H⟩ := H; obtain ⟨y345, YD⟩ : ∃ y_ : List Int, y_ = (bV.set (eD : Int).toNat (-2)) := ⟨_, rfl⟩; replace H : (aI.l0 k1 a1 y345 (wrap64 (eD + 1)) ay ae) = some r := by first | (rw [YD]; exact H) | exact H
  have Ny345 := ak YD; clear YD; have H' := ak H; clear H; have ⟨_, _, _, _⟩ := cf2 iL; have p12 : 0 ≤ (eD : Int) := oda; have q12 : (eD : Int) < ((bV.length : Int) : Int) := oda
  obtain ⟨go12, co12, eo12, gb12, gl12, cl12, HG12⟩ := Kd.l9 fJ.out (by omega)
  (first | cases eo12 | (injection eo12 with ea_ en_ ec_; (first | subst ea_ | (injection ea_ with ea_; subst ea_)); subst ec_; clear en_))
  have GB12 := ak gb12; have GG12 := ak HG12; clear gb12 gl12 HG12; obtain ⟨hx12_0, hf12_0⟩ := Kd.gJ 0 fJ.out (eD : Int) p12 q12; replace p12 := eq_true p12; replace q12 := eq_true q12; have HP14 := Kd.lL fJ.out (eD : Int) (-2)
  go_wp2_with (first | ((with_reducible refine fG (t := 3) (p := 21) rfl ?_); refine eQ (t := 3) (p := 21) (v := ?vo_w15) (w1 := (wr.setCell ⟨go12, (eD : Int).toNat, none⟩ (.int .i64 (-2)))) ?hg ?ho ?hn ?hr ?_; (case ho => rfl); (case hg => rfl); (case hn => rfl); (case hr => first | (go_simp; done) | (go_simp; rfl)); intro w15 hw; have hg : wr.grownBy w15 (some go12) := (by rw [hw]; exact HP14.2); have hp_ : Kd.R (Kd.int .i64) 3 w15 w.heap.size (fun _ => True) (.slice (some ⟨go12, 0, none⟩) bV.length co12) y345 := (by rw [hw, Ny345.out]; exact HP14.1); clear HP14; have n_ := a3 hp_ (bH (bx iL.out) hg (Kd.gQ fJ.out iL.out (by decide))) (by rw [hw]; exact bR (HB.out) GB12.out : Below w.heap.size w w15); clear fJ iL HB; obtain ⟨fJ, iL, HB⟩ := n_; clear hg hw hp_))
  go_roundg k1
  case measure => have := HK1.out; omega
  case rel => exact ⟨(y345), (wrap64 (eD + 1)), sr, H', ⟨by have := HK1.out; omega⟩, ⟨rx fJ.out⟩, xb iL, ⟨lb⟩⟩
 rw [if_neg c9] at H; have c9b0 := decide_eq_false c9; clear c9; replace H := if2 H; obtain ⟨c16b0, c17b0, H⟩ := H; obtain ⟨y346, YE⟩ : ∃ y_ : List Int, y_ = (bV.set (a1 : Int).toNat (-1)) := ⟨_, rfl⟩; replace H : (aI.l1 k1 y346 0 ay ae) = some r := by first | (rw [YE]; exact H) | exact H
 have Ny346 := ak YE; clear YE; have H' := ak H; clear H; have ⟨_, _, _, _⟩ := cf2 iL; have p18 : 0 ≤ (a1 : Int) := oda; have q18 : (a1 : Int) < ((bV.length : Int) : Int) := oda
 obtain ⟨go18, co18, eo18, gb18, gl18, cl18, HG18⟩ := Kd.l9 fJ.out (by omega)
 (first | cases eo18 | (injection eo18 with ea_ en_ ec_; (first | subst ea_ | (injection ea_ with ea_; subst ea_)); subst ec_; clear en_))
 have GB18 := ak gb18; have GG18 := ak HG18; clear gb18 gl18 HG18; obtain ⟨hx18_0, hf18_0⟩ := Kd.gJ 0 fJ.out (a1 : Int) p18 q18; replace p18 := eq_true p18; replace q18 := eq_true q18; have HP20 := Kd.lL fJ.out (a1 : Int) (-1)
 go_wp2_with (first | ((with_reducible refine fG (t := 3) (p := 24) rfl ?_); refine eQ (t := 3) (p := 24) (v := ?vo_w21) (w1 := (wr.setCell ⟨go18, (a1 : Int).toNat, none⟩ (.int .i64 (-1)))) ?hg ?ho ?hn ?hr ?_; (case ho => rfl); (case hg => rfl); (case hn => rfl); (case hr => first | (go_simp; done) | (go_simp; rfl)); intro w21 hw; have hg : wr.grownBy w21 (some go18) := (by rw [hw]; exact HP20.2); have hp_ : Kd.R (Kd.int .i64) 3 w21 w.heap.size (fun _ => True) (.slice (some ⟨go18, 0, none⟩) bV.length co18) y346 := (by rw [hw, Ny346.out]; exact HP20.1); clear HP20; have n_ := a3 hp_ (bH (bx iL.out) hg (Kd.gQ fJ.out iL.out (by decide))) (by rw [hw]; exact bR (HB.out) GB18.out : Below w.heap.size w w21); clear fJ iL HB; obtain ⟨fJ, iL, HB⟩ := n_; clear hg hw hp_))
 go_loopg [7] k1 (fun kq v7 w' => ∃ (oh : List Int) (gK : Int), v7 = .int .i64 gK ∧ ag (aI.l1 kq oh gK ay ae = some r) ∧ ag (kq ≤ k1) ∧ ag (Kd.R (Kd.int .i64) 3 w' w.heap.size (fun _ => True) (.slice (some ⟨go18, 0, none⟩) bV.length co18) oh) ∧ ag (w'.heap[Tx]? = some (.cells #[.int .i64 ay, (.slice bX ae.length bN)] 24 (0, 0))) ∧ ag (Below w.heap.size w w'))
 case atStart => exact ⟨(y346), (0), sr, H', ⟨Nat.le_refl _⟩, ⟨rx fJ.out⟩, xb iL, ⟨lb⟩⟩
 clear H'; obtain ⟨oh, gK, rfl, HA, HK2, fJ, iL, HB⟩ := hrel; have wO := (Kd.aA fJ.out).1; rw [wO] at fJ
 (try simp only [wO])
 (try simp only [wO] at iL)
 cases gk with
 | zero => exact absurd HA.out (by simp [aI.l1])
 | succ k2 => ?_
 have H := HA.out; clear HA
 simp only [aI.l1] at H
 by_cases c22 : gK < ay
 rotate_left
 ·
  rw [if_neg c22] at H; have c22b0 := decide_eq_false c22; clear c22; obtain rfl := Option.some.inj H; have ⟨_, _, _, _⟩ := cf2 iL
  go_wp2
  go_ret
  exact ⟨_, by first | rfl | (simp [dx, dz] <;> rfl) | (simp [*, dx, dz] <;> rfl), by exact rx fJ.out, lb⟩
 rw [if_pos c22] at H; have c22b0 := decide_eq_true c22; clear c22; have H' := ak H; clear H; have ⟨_, _, _, _⟩ := cf2 iL
 go_wp2
 go_loopg [8] k2 (fun kq v8 w' => ∃ (Kb : List Int) (kK : Int), v8 = .int .i64 kK ∧ ag (aI.l2 kq Kb gK kK ay ae = some r) ∧ ag (kq ≤ k2) ∧ ag (Kd.R (Kd.int .i64) 3 w' w.heap.size (fun _ => True) (.slice (some ⟨go18, 0, none⟩) oh.length co18) Kb) ∧ ag (w'.heap[Tx]? = some (.cells #[.int .i64 ay, (.slice bX ae.length bN)] 24 (0, 0))) ∧ ag (Below w.heap.size w w'))
 case atStart => exact ⟨(oh), (0), sr, H', ⟨Nat.le_refl _⟩, ⟨by (try simp only [wO]); exact rx fJ.out⟩, ⟨by (try simp only [wO]); exact bx iL.out⟩, ⟨lb⟩⟩
 clear H'; obtain ⟨Kb, kK, rfl, HA, HK3, fJ, iL, HB⟩ := hrel; have uh := (Kd.aA fJ.out).1; rw [uh] at fJ
 (try simp only [uh])
 (try simp only [uh] at iL)
 cases gk with
 | zero => exact absurd HA.out (by simp [aI.l2])
 | succ k3 => ?_
 have H := HA.out; clear HA
 simp only [aI.l2] at H
 by_cases c24 : kK < (ae.length : Int)
 rotate_left
 ·
  rw [if_neg c24] at H; have c24b0 := decide_eq_false c24; clear c24; have H' := ak H; clear H; have ⟨_, _, _, _⟩ := cf2 iL
  go_wp2
  (try simp only [← wO, ← uh])
  go_roundg k3
  case measure => have := HK1.out; have := HK2.out; have := HK3.out; omega
  case rel => exact ⟨(Kb), (wrap64 (gK + 1)), sr, H', ⟨by have := HK1.out; have := HK2.out; have := HK3.out; omega⟩, ⟨by (try simp only [wO]); (try simp only [uh]); exact rx fJ.out⟩, ⟨by (try simp only [wO]); (try simp only [uh]); exact bx iL.out⟩, ⟨lb⟩⟩
 rw [if_pos c24] at H; have c24b0 := decide_eq_true c24; clear c24; replace H := ifd H; obtain ⟨c25b0, H⟩ := H
 by_cases c26 : ((aa ae kK).f2) > 0
 rotate_left
 ·
  rw [if_neg c26] at H; have c26b0 := decide_eq_false c26; clear c26; have H' := ak H; clear H; have ⟨_, _, _, _⟩ := cf2 iL; obtain ⟨p347, q347, Ty, YF, qJ, qK, qL, qM⟩ := wq (dU bU.out kK); cases YF
  (try replace qJ := hbc HB qJ)
  (try replace qK := hbc HB qK)
  (try replace qL := hbc HB qL)
  (try replace qM := hbc HB qM)
  go_wp2_with (first | ((with_reducible refine aC (N := 9) rfl ?_); refine bxe 9 #[.int .i64 0, .int .i64 0, .int .i64 0, .int .i64 0] 98 ?_; intro kY hg w51 hbox hb; have n_ := a8 (ro fJ hb) (bo iL hb) (bl hb) hbox (gw w hg) (gw w hg) (nl hg iL) (nr hg iL); clear fJ iL HB; obtain ⟨fJ, iL, HB, nA, YG, YH, j5, qN⟩ := n_; clear hb hbox hg; have ⟨_, _⟩ := nn qN; have ⟨_, _, _, _, _, _, _, _⟩ := cf4 nA))
  (try simp only [← uh])
  go_roundg k3
  case measure => have := HK1.out; have := HK2.out; have := HK3.out; omega
  case rel => exact ⟨(Kb), (wrap64 (kK + 1)), sr, H', ⟨by have := HK1.out; have := HK2.out; have := HK3.out; omega⟩, ⟨by (try simp only [wO]); (try simp only [uh]); exact rx (Kd.cO (Kd.dN (p := ⟨kY, 3, none⟩) (Kd.dN (p := ⟨kY, 2, none⟩) (Kd.dN (p := ⟨kY, 1, none⟩) (Kd.dN (p := ⟨kY, 0, none⟩) (Kd.fC fJ.out nA.out (by decide)) (fun _ hk => hk.2) (.int .i64 ((aa ae kK).f0))) (fun _ hk => hk.2) (.int .i64 ((aa ae kK).f1))) (fun _ hk => hk.2) (.int .i64 ((aa ae kK).f2))) (fun _ hk => hk.2) (.int .i64 ((aa ae kK).f3))) (fun _ hk => trivial))⟩, ⟨by (try simp only [wO]); (try simp only [uh]); (with_reducible repeat (first | refine dw ?_ _ | refine aK ?_ | refine bg ?_ _)); refine dY ?_ j5.out _; (with_reducible repeat (first | refine dw ?_ _ | refine aK ?_ | refine bg ?_ _)); refine dY ?_ j5.out _; (with_reducible repeat (first | refine dw ?_ _ | refine aK ?_ | refine bg ?_ _)); refine dY ?_ j5.out _; (with_reducible repeat (first | refine dw ?_ _ | refine aK ?_ | refine bg ?_ _)); refine dY ?_ j5.out _; exact bx iL.out⟩, ⟨lb⟩⟩
 rw [if_pos c26] at H; have c26b0 := decide_eq_true c26; clear c26; replace H := if2 H; obtain ⟨c27b0, c28b0, H⟩ := H
 by_cases c29 : (rd Kb ((aa ae kK).f0)) ≥ (-1)
 rotate_left
 ·
  rw [if_neg c29] at H; have c29b0 := decide_eq_false c29; clear c29; have H' := ak H; clear H; have ⟨_, _, _, _⟩ := cf2 iL; obtain ⟨p347, q347, Ty, YF, qJ, qK, qL, qM⟩ := wq (dU bU.out kK); cases YF
  (try replace qJ := hbc HB qJ)
  (try replace qK := hbc HB qK)
  (try replace qL := hbc HB qL)
  (try replace qM := hbc HB qM)
  go_wp2_with (first | ((with_reducible refine aC (N := 9) rfl ?_); refine bxe 9 #[.int .i64 0, .int .i64 0, .int .i64 0, .int .i64 0] 98 ?_; intro kY hg w47 hbox hb; have n_ := a8 (ro fJ hb) (bo iL hb) (bl hb) hbox (gw w hg) (gw w hg) (nl hg iL) (nr hg iL); clear fJ iL HB; obtain ⟨fJ, iL, HB, nA, YG, YH, j5, qN⟩ := n_; clear hb hbox hg; have ⟨_, _⟩ := nn qN; have ⟨_, _, _, _, _, _, _, _⟩ := cf4 nA; obtain ⟨p349, q349, Qr, adD, mY⟩ := wq (Kd.bB (Kd.aA fJ.out).2.2 ((aa ae kK).f0)); obtain rfl : (⟨go18, 0, none⟩ : Addr) = Qr := (by injection adD); (first | simp only [add_plain] at mY | simp only [lI] at mY | simp only [Addr.add, Nat.zero_add] at mY | skip); have CL : (⟨go18, 0, none⟩ : Addr).block ≠ kY := Kd.dQ (Kd.gQ fJ.out nA.out (by decide)); have YI : (⟨go18, 0, none⟩ : Addr).block ≠ kY := Kd.dQ (Kd.gQ fJ.out nA.out (by decide)); have YJ : (⟨go18, 0, none⟩ : Addr).block ≠ kY := Kd.dQ (Kd.gQ fJ.out nA.out (by decide)); have YK : (⟨go18, 0, none⟩ : Addr).block ≠ kY := Kd.dQ (Kd.gQ fJ.out nA.out (by decide)); replace mY := cg4 kY (.int .i64 ((aa ae kK).f0)) (.int .i64 ((aa ae kK).f1)) (.int .i64 ((aa ae kK).f2)) (.int .i64 ((aa ae kK).f3)) mY CL; clear CL))
  (try simp only [← uh])
  go_roundg k3
  case measure => have := HK1.out; have := HK2.out; have := HK3.out; omega
  case rel => exact ⟨(Kb), (wrap64 (kK + 1)), sr, H', ⟨by have := HK1.out; have := HK2.out; have := HK3.out; omega⟩, ⟨by (try simp only [wO]); (try simp only [uh]); exact rx (Kd.cO (Kd.dN (p := ⟨kY, 3, none⟩) (Kd.dN (p := ⟨kY, 2, none⟩) (Kd.dN (p := ⟨kY, 1, none⟩) (Kd.dN (p := ⟨kY, 0, none⟩) (Kd.fC fJ.out nA.out (by decide)) (fun _ hk => hk.2) (.int .i64 ((aa ae kK).f0))) (fun _ hk => hk.2) (.int .i64 ((aa ae kK).f1))) (fun _ hk => hk.2) (.int .i64 ((aa ae kK).f2))) (fun _ hk => hk.2) (.int .i64 ((aa ae kK).f3))) (fun _ hk => trivial))⟩, ⟨by (try simp only [wO]); (try simp only [uh]); (with_reducible repeat (first | refine dw ?_ _ | refine aK ?_ | refine bg ?_ _)); refine dY ?_ j5.out _; (with_reducible repeat (first | refine dw ?_ _ | refine aK ?_ | refine bg ?_ _)); refine dY ?_ j5.out _; (with_reducible repeat (first | refine dw ?_ _ | refine aK ?_ | refine bg ?_ _)); refine dY ?_ j5.out _; (with_reducible repeat (first | refine dw ?_ _ | refine aK ?_ | refine bg ?_ _)); refine dY ?_ j5.out _; exact bx iL.out⟩, ⟨lb⟩⟩
 rw [if_pos c29] at H; have c29b0 := decide_eq_true c29; clear c29; replace H := if2 H; obtain ⟨c30b0, c31b0, H⟩ := H
 by_cases c32 : (rd Kb ((aa ae kK).f1)) = (-2)
 rotate_left
 ·
  rw [if_neg c32] at H; have c32b := bn2 c32; have H' := ak H; clear H; have ⟨_, _, _, _⟩ := cf2 iL; obtain ⟨p347, q347, Ty, YF, qJ, qK, qL, qM⟩ := wq (dU bU.out kK); cases YF
  (try replace qJ := hbc HB qJ)
  (try replace qK := hbc HB qK)
  (try replace qL := hbc HB qL)
  (try replace qM := hbc HB qM)
  go_wp2_with (first | ((with_reducible refine aC (N := 9) rfl ?_); refine bxe 9 #[.int .i64 0, .int .i64 0, .int .i64 0, .int .i64 0] 98 ?_; intro kY hg w43 hbox hb; have n_ := a8 (ro fJ hb) (bo iL hb) (bl hb) hbox (gw w hg) (gw w hg) (nl hg iL) (nr hg iL); clear fJ iL HB; obtain ⟨fJ, iL, HB, nA, YG, YH, j5, qN⟩ := n_; clear hb hbox hg; have ⟨_, _⟩ := nn qN; have ⟨_, _, _, _, _, _, _, _⟩ := cf4 nA; obtain ⟨p349, q349, Qr, adD, mY⟩ := wq (Kd.bB (Kd.aA fJ.out).2.2 ((aa ae kK).f0)); obtain rfl : (⟨go18, 0, none⟩ : Addr) = Qr := (by injection adD); (first | simp only [add_plain] at mY | simp only [lI] at mY | simp only [Addr.add, Nat.zero_add] at mY | skip); have CL : (⟨go18, 0, none⟩ : Addr).block ≠ kY := Kd.dQ (Kd.gQ fJ.out nA.out (by decide)); have YI : (⟨go18, 0, none⟩ : Addr).block ≠ kY := Kd.dQ (Kd.gQ fJ.out nA.out (by decide)); have YJ : (⟨go18, 0, none⟩ : Addr).block ≠ kY := Kd.dQ (Kd.gQ fJ.out nA.out (by decide)); have YK : (⟨go18, 0, none⟩ : Addr).block ≠ kY := Kd.dQ (Kd.gQ fJ.out nA.out (by decide)); replace mY := cg4 kY (.int .i64 ((aa ae kK).f0)) (.int .i64 ((aa ae kK).f1)) (.int .i64 ((aa ae kK).f2)) (.int .i64 ((aa ae kK).f3)) mY CL; clear CL; obtain ⟨p350, q350, YL, e350, sW⟩ := wq (Kd.bB (Kd.aA fJ.out).2.2 ((aa ae kK).f1)); obtain rfl : (⟨go18, 0, none⟩ : Addr) = YL := (by injection e350); (first | simp only [add_plain] at sW | simp only [lI] at sW | simp only [Addr.add, Nat.zero_add] at sW | skip); have Qs : (⟨go18, 0, none⟩ : Addr).block ≠ kY := Kd.dQ (Kd.gQ fJ.out nA.out (by decide)); have hn350_1 : (⟨go18, 0, none⟩ : Addr).block ≠ kY := Kd.dQ (Kd.gQ fJ.out nA.out (by decide)); have hn350_2 : (⟨go18, 0, none⟩ : Addr).block ≠ kY := Kd.dQ (Kd.gQ fJ.out nA.out (by decide)); have hn350_3 : (⟨go18, 0, none⟩ : Addr).block ≠ kY := Kd.dQ (Kd.gQ fJ.out nA.out (by decide)); replace sW := cg4 kY (.int .i64 ((aa ae kK).f0)) (.int .i64 ((aa ae kK).f1)) (.int .i64 ((aa ae kK).f2)) (.int .i64 ((aa ae kK).f3)) sW Qs; clear Qs))
  (try simp only [← uh])
  go_roundg k3
  case measure => have := HK1.out; have := HK2.out; have := HK3.out; omega
  case rel => exact ⟨(Kb), (wrap64 (kK + 1)), sr, H', ⟨by have := HK1.out; have := HK2.out; have := HK3.out; omega⟩, ⟨by (try simp only [wO]); (try simp only [uh]); exact rx (Kd.cO (Kd.dN (p := ⟨kY, 3, none⟩) (Kd.dN (p := ⟨kY, 2, none⟩) (Kd.dN (p := ⟨kY, 1, none⟩) (Kd.dN (p := ⟨kY, 0, none⟩) (Kd.fC fJ.out nA.out (by decide)) (fun _ hk => hk.2) (.int .i64 ((aa ae kK).f0))) (fun _ hk => hk.2) (.int .i64 ((aa ae kK).f1))) (fun _ hk => hk.2) (.int .i64 ((aa ae kK).f2))) (fun _ hk => hk.2) (.int .i64 ((aa ae kK).f3))) (fun _ hk => trivial))⟩, ⟨by (try simp only [wO]); (try simp only [uh]); (with_reducible repeat (first | refine dw ?_ _ | refine aK ?_ | refine bg ?_ _)); refine dY ?_ j5.out _; (with_reducible repeat (first | refine dw ?_ _ | refine aK ?_ | refine bg ?_ _)); refine dY ?_ j5.out _; (with_reducible repeat (first | refine dw ?_ _ | refine aK ?_ | refine bg ?_ _)); refine dY ?_ j5.out _; (with_reducible repeat (first | refine dw ?_ _ | refine aK ?_ | refine bg ?_ _)); refine dY ?_ j5.out _; exact bx iL.out⟩, ⟨lb⟩⟩
 rw [if_pos c32] at H; have c32b := be2 c32; clear c32; obtain ⟨y351, YM⟩ : ∃ y_ : List Int, y_ = (Kb.set (((aa ae kK).f1) : Int).toNat kK) := ⟨_, rfl⟩; replace H : (aI.l2 k3 y351 gK (wrap64 (kK + 1)) ay ae) = some r := by first | (rw [YM]; exact H) | exact H
 have Ny351 := ak YM; clear YM; have H' := ak H; clear H; have ⟨_, _, _, _⟩ := cf2 iL; obtain ⟨p347, q347, Ty, YF, qJ, qK, qL, qM⟩ := wq (dU bU.out kK); cases YF
 (try replace qJ := hbc HB qJ)
 (try replace qK := hbc HB qK)
 (try replace qL := hbc HB qL)
 (try replace qM := hbc HB qM)
 go_wp2_with (first | ((with_reducible refine aC (N := 9) rfl ?_); refine bxe 9 #[.int .i64 0, .int .i64 0, .int .i64 0, .int .i64 0] 98 ?_; intro kY hg w35 hbox hb; have n_ := a8 (ro fJ hb) (bo iL hb) (bl hb) hbox (gw w hg) (gw w hg) (nl hg iL) (nr hg iL); clear fJ iL HB; obtain ⟨fJ, iL, HB, nA, YG, YH, j5, qN⟩ := n_; clear hb hbox hg; have ⟨_, _⟩ := nn qN; have ⟨_, _, _, _, _, _, _, _⟩ := cf4 nA) | ((with_reducible refine fG (t := 98) (p := 9) rfl ?_); refine eQ (t := 98) (p := 9) (v := ?vo_w38) (w1 := ((((w35.setCell ⟨kY, 0, none⟩ (.int .i64 ((aa ae kK).f0))).setCell ⟨kY, 1, none⟩ (.int .i64 ((aa ae kK).f1))).setCell ⟨kY, 2, none⟩ (.int .i64 ((aa ae kK).f2))).setCell ⟨kY, 3, none⟩ (.int .i64 ((aa ae kK).f3)))) ?hg ?ho ?hn ?hr ?_; (case ho => rfl); (case hg => rfl); (case hn => rfl); (case hr => first | (go_simp; done) | (go_simp; rfl)); intro w38 hw; have n0_ : ag (Kd.R (Kd.int .i64) 3 w38 w.heap.size (fun _ => True) (.slice (some ⟨go18, 0, none⟩) Kb.length co18) Kb) := ⟨(by rw [hw]; exact (by exact rx (Kd.cO (Kd.dN (p := ⟨kY, 3, none⟩) (Kd.dN (p := ⟨kY, 2, none⟩) (Kd.dN (p := ⟨kY, 1, none⟩) (Kd.dN (p := ⟨kY, 0, none⟩) (Kd.fC fJ.out nA.out (by decide)) (fun _ hk => hk.2) (.int .i64 ((aa ae kK).f0))) (fun _ hk => hk.2) (.int .i64 ((aa ae kK).f1))) (fun _ hk => hk.2) (.int .i64 ((aa ae kK).f2))) (fun _ hk => hk.2) (.int .i64 ((aa ae kK).f3))) (fun _ hk => trivial))))⟩; have n1_ : ag (w38.heap[Tx]? = some (.cells #[.int .i64 ay, .slice (some Ty) ae.length bN] 24 (0, 0))) := ⟨(by rw [hw]; exact bz)⟩; have n2_ : ag (w38.heap[kY]? = some (.cells #[.int .i64 ((aa ae kK).f0), .int .i64 ((aa ae kK).f1), .int .i64 ((aa ae kK).f2), .int .i64 ((aa ae kK).f3)] 98 (0, 0))) := ⟨(by rw [hw]; exact bz)⟩; have n3_ : ag (Below w.heap.size w w38) := ⟨(by rw [hw]; exact lb)⟩; clear hw; clear fJ; clear iL; clear nA; clear HB; have fJ := n0_; have iL := n1_; have nA := n2_; have HB := n3_; clear n0_ n1_ n2_ n3_; have ⟨_, _, _, _, _, _, _, _⟩ := cf4 nA; obtain ⟨p349, q349, Qr, adD, mY⟩ := wq (Kd.bB (Kd.aA fJ.out).2.2 ((aa ae kK).f0)); obtain rfl : (⟨go18, 0, none⟩ : Addr) = Qr := (by injection adD); (first | simp only [add_plain] at mY | simp only [lI] at mY | simp only [Addr.add, Nat.zero_add] at mY | skip); obtain ⟨p350, q350, YL, e350, sW⟩ := wq (Kd.bB (Kd.aA fJ.out).2.2 ((aa ae kK).f1)); obtain rfl : (⟨go18, 0, none⟩ : Addr) = YL := (by injection e350); (first | simp only [add_plain] at sW | simp only [lI] at sW | simp only [Addr.add, Nat.zero_add] at sW | skip); have p33 : 0 ≤ (((aa ae kK).f1) : Int) := oda; have q33 : (((aa ae kK).f1) : Int) < ((Kb.length : Int) : Int) := oda; obtain ⟨adA, adB⟩ := Kd.gJ 0 fJ.out (((aa ae kK).f1) : Int) p33 q33; replace p33 := eq_true p33; replace q33 := eq_true q33; obtain ⟨hy40_, hz40_⟩ := Kd.gJ 0 fJ.out (((aa ae kK).f1) : Int) (oda) (oda); have HP40 := Kd.lL fJ.out (((aa ae kK).f1) : Int) kK) | ((with_reducible refine fG (t := 3) (p := 66) rfl ?_); refine eQ (t := 3) (p := 66) (v := ?vo_w41) (w1 := (w38.setCell ⟨go18, (((aa ae kK).f1) : Int).toNat, none⟩ (.int .i64 kK))) ?hg ?ho ?hn ?hr ?_; (case ho => rfl); (case hg => rfl); (case hn => rfl); (case hr => first | (go_simp; done) | (go_simp; rfl)); intro w41 hw; have hg : w38.grownBy w41 (some go18) := (by rw [hw]; exact HP40.2); have hp_ : Kd.R (Kd.int .i64) 3 w41 w.heap.size (fun _ => True) (.slice (some ⟨go18, 0, none⟩) Kb.length co18) y351 := (by rw [hw, Ny351.out]; exact HP40.1); clear HP40; have n_ := a4 hp_ (bH (bx iL.out) hg (Kd.gQ fJ.out iL.out (by decide))) (bH (bx nA.out) hg (Kd.gQ fJ.out nA.out (by decide))) (by rw [hw]; exact bR (HB.out) GB18.out : Below w.heap.size w w41); clear fJ iL nA HB; obtain ⟨fJ, iL, nA, HB⟩ := n_; clear hg hw hp_))
 (try simp only [← uh])
 go_roundg k3
 case measure => have := HK1.out; have := HK2.out; have := HK3.out; omega
 case rel => exact ⟨(y351), (wrap64 (kK + 1)), sr, H', ⟨by have := HK1.out; have := HK2.out; have := HK3.out; omega⟩, ⟨by (try simp only [wO]); (try simp only [uh]); exact rx fJ.out⟩, ⟨by (try simp only [wO]); (try simp only [uh]); exact bx iL.out⟩, ⟨lb⟩⟩
end Go.Proofs.Ytkdoihcjhccliaa.Q
