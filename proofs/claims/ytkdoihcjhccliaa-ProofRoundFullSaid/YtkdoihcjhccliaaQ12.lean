import Derived.Test.YtkdoihcjhccliaaK
import Derived.Test.YtkdoihcjhccliaaQ0
import Derived.Test.YtkdoihcjhccliaaQ3
import Derived.Test.YtkdoihcjhccliaaQ5
import Derived.Test.YtkdoihcjhccliaaQ6
import Derived.Test.YtkdoihcjhccliaaQ9
import Derived.Test.YtkdoihcjhccliaaQ10
import Derived.Test.YtkdoihcjhccliaaQ11
namespace Go.Proofs.Ytkdoihcjhccliaa.Q
open Go.RowKit Go.Proofs.YtkdoihcjhccliaaW.PrintWords Go.Proofs.YtkdoihcjhccliaaW.PrintLast Go.Proofs.YtkdoihcjhccliaaW.PrintMore
attribute [local go_sem] dF dG eG eH cz cB dH dI   -- for this text's walks alone
set_option linter.unusedVariables false
set_option linter.unusedSimpArgs false

set_option maxHeartbeats 8000000 in
set_option maxRecDepth 100000 in
theorem aV.calls (k : Nat) (ay : Int) (bX : Option Addr) (bN : Nat) (ae : List (S98)) (pz : Option Addr) (oz : Nat) (dV : List Int) (nZ : Option Addr) (og : Nat) (iB : List Int) (wI : Option Addr) (wJ : Nat) (lQ : List Int) (a2 : Int) (r1 : Int) (r2 : Int) (w wc0 : World) (DN DR wK gbx : Nat) (dB : Kd.C k98 w bX ae.length ae) (dC : ae.length ≤ bN) (qb : Kd.C (Kd.int .i64) w pz dV.length dV) (qc : dV.length ≤ oz) (qd : Kd.C (Kd.int .i64) w nZ iB.length iB) (qf : iB.length ≤ og) (xc : Kd.C (Kd.int .i64) w wI lQ.length lQ) (xg : lQ.length ≤ wJ) (hB : Below w.heap.size w wc0) (hb0_ : wc0.heap[DN]? = some (.cells #[.int .i64 ay, .slice bX ae.length bN] 24 (0, 0))) (hg0_ : w.heap.size ≤ DN) (hb1_ : wc0.heap[DR]? = some (.cells #[.slice pz dV.length oz, .slice nZ iB.length og, .slice wI lQ.length wJ] 44 (0, 0))) (hg1_ : w.heap.size ≤ DR) (hb2_ : wc0.heap[wK]? = some (.cells #[.int .i64 a2] 2 (0, 0))) (hg2_ : w.heap.size ≤ wK) (hb3_ : wc0.heap[gbx]? = some (.cells #[.int .i64 0] 30 (0, 0))) (hg3_ : w.heap.size ≤ gbx) (hn0_1_ : DN ≠ DR) (hn0_2_ : DN ≠ wK) (hn0_3_ : DN ≠ gbx) (hn1_2_ : DR ≠ wK) (hn1_3_ : DR ≠ gbx) (hn2_3_ : wK ≠ gbx) (h : aV.f k ay ae dV iB lQ a2 = some (r1, r2)) (hr_ : r1 = 0 := by first | rfl | assumption | omega) :
    Calls Try.prog 60 #[.pointer (some ⟨DN, 0, none⟩), .pointer (some ⟨DR, 0, none⟩), .pointer (some ⟨wK, 0, none⟩)] wc0 fun e w' => oQ r1 (e = .returned (.tuple #[])) (e = gave r1) ∧ w'.heap[wK]? = some (.cells #[.int .i64 r2] 2 (0, 0)) ∧ w'.heap[gbx]? = some (.cells #[.int .i64 0] 30 (0, 0)) ∧ Below w.heap.size w w' := by
 have hu24 := Try.underlying24; have hu98 := Try.underlying98; have bU := ak dB; have eU := ak dC; clear dB dC; have tX := ak qb; have Ey := ak qc; clear qb qc; have wH := ak qd; have Aa := ak qf; clear qd qf; have EI := ak xc; have EJ := ak xg; clear xc xg; have HB := ak hB; clear hB; have jk := ak hb0_; have GW159 := ak hg0_; have GE159 := ak hg0_; have iy := ak hb1_; have GW160 := ak hg1_; have GE160 := ak hg1_; have ko := ak hb2_; have GW161 := ak hg2_; have GE161 := ak hg2_; have bC := ak hb3_; have SS := ak hg3_; have KD := ak hg3_; have AU := ak hn0_1_; have NC := ak hn0_1_.symm; have yj := ak hn0_2_; have ND := ak hn0_2_.symm; have AV := ak hn0_3_; have ace := ak hn0_3_.symm; have ym := ak hn1_2_; have NE := ak hn1_2_.symm; have AX := ak hn1_3_; have acf := ak hn1_3_.symm; have NF := ak hn2_3_; have NG := ak hn2_3_.symm; clear hb0_ hg0_ hb1_ hg1_ hb2_ hg2_ hb3_ hg3_ hn0_1_ hn0_2_ hn0_3_ hn1_2_ hn1_3_ hn2_3_
 have H : ((dM.f k ay ae).bind fun t162 => (if t162 = 0 then ((fe.f k ay ae dV).bind fun WM => (if WM = 0 then ((aY.f k ay ae iB).bind fun EN => (if EN.1 = 0 then (aV.l0 k EN.2 (EN.2.length : Int) 0 ay ae dV iB lQ a2) else (some (EN.1, a2)))) else (some (WM, a2)))) else (some (t162, a2)))) = some (r1, r2) := h; clear h; replace H := Option.bind_eq_some_iff.mp H; obtain ⟨t162, A40, H⟩ := H
 by_cases c5 : t162 = 0
 rotate_left
 ·
  rw [if_neg c5] at H; have A4 := ak A40; clear A40
  simp only [Option.some.injEq, Prod.mk.injEq] at H
  obtain ⟨rfl, rfl⟩ := H; exact nb hr_
 subst c5
 replace H := ip H; have A4 := ak A40; clear A40; replace H := Option.bind_eq_some_iff.mp H; obtain ⟨WM, A60, H⟩ := H
 by_cases c7 : WM = 0
 rotate_left
 ·
  rw [if_neg c7] at H; have A6 := ak A60; clear A60
  simp only [Option.some.injEq, Prod.mk.injEq] at H
  obtain ⟨rfl, rfl⟩ := H; exact nb hr_
 subst c7
 replace H := ip H; have A6 := ak A60; clear A60; replace H := Option.bind_eq_some_iff.mp H; obtain ⟨⟨t164, WN⟩, A80, H⟩ := H; dsimp only at H
 by_cases c9 : t164 = 0
 rotate_left
 ·
  rw [if_neg c9] at H; have A8 := ak A80; clear A80
  simp only [Option.some.injEq, Prod.mk.injEq] at H
  obtain ⟨rfl, rfl⟩ := H; exact nb hr_
 subst c9
 replace H := ip H; have A8 := ak A80; clear A80; have H' := ak H; clear H; have ⟨_, _⟩ := nn AU; have ⟨_, _⟩ := nn yj; have ⟨_, _⟩ := nn AV; have ⟨_, _, _, _⟩ := cf2 jk
 go_enter Try.func60, Try.ntmps60
 go_wp2_with (first | ((with_reducible refine au (f := 50) rfl ?_); refine gl 10 Try.func50 #[.agg #[.int .i64 ay, .slice bX ae.length bN]] ?_; (with_reducible refine (dM.ok k ay _ _ ae  _ (Kd.cZ bU.out lb) eU.out A4.out).mono ?_); rintro e w14 ⟨rfl, hb⟩; refine ⟨_, rfl, ?_⟩; replace jk := ak (bo jk hb); replace iy := ak (bo iy hb); replace ko := ak (bo ko hb); replace bC := ak (bI (g := gbx) (o := .cells #[.int .i64 0] 30 (0, 0)) (bx bC.out) hb); replace HB := ak (bl hb); clear hb; have ⟨_, _, _, _⟩ := cf2 jk; have ⟨_, _⟩ := nn ym; have ⟨_, _⟩ := nn AX; have ⟨_, _, _, _, _, _⟩ := cf3 iy) | ((with_reducible refine au (f := 61) rfl ?_); refine gl 14 Try.func61 #[.agg #[.int .i64 ay, .slice bX ae.length bN], .slice pz dV.length oz] ?_; (with_reducible refine (fe.ok k ay _ _ ae _ _ dV  _ (Kd.cZ bU.out lb) eU.out (Kd.cZ tX.out lb) Ey.out A6.out).mono ?_); rintro e w19 ⟨rfl, hb⟩; refine ⟨_, rfl, ?_⟩; replace jk := ak (bo jk hb); replace iy := ak (bo iy hb); replace ko := ak (bo ko hb); replace bC := ak (bI (g := gbx) (o := .cells #[.int .i64 0] 30 (0, 0)) (bx bC.out) hb); replace HB := ak (bl hb); clear hb; have ⟨_, _, _, _⟩ := cf2 jk; have ⟨_, _, _, _, _, _⟩ := cf3 iy) | ((with_reducible refine au (f := 52) rfl ?_); refine gl 18 Try.func52 #[.agg #[.int .i64 ay, .slice bX ae.length bN], .slice nZ iB.length og] ?_; (with_reducible refine (aY.ok k ay _ _ ae _ _ iB WN _ (Kd.cZ bU.out lb) eU.out (Kd.cZ wH.out lb) Aa.out A8.out).mono ?_); rintro e w22 ⟨v166, rfl, ho0, hb⟩; refine ⟨_, rfl, ?_⟩; have acg := ak (Kd.bY (Kd.D8 ho0 (g := wK) (o := .cells #[.int .i64 a2] 2 (0, 0)) (bx ko.out)) (ax lb)); replace jk := ak (bo jk hb); replace iy := ak (bo iy hb); replace ko := ak (bo ko hb); replace bC := ak (bI (g := gbx) (o := .cells #[.int .i64 0] 30 (0, 0)) (bx bC.out) hb); replace HB := ak (bl hb); clear hb; (try clear ho0); obtain ⟨Ao23, co23, eo23⟩ := Kd.bT acg.out; subst eo23))
 go_loopg [20] k (fun kq v20 w' => ∃ (rT : Int), v20 = .int .i64 rT ∧ ag (aV.l0 kq WN (WN.length : Int) rT ay ae dV iB lQ a2 = some (r1, r2)) ∧ ag (kq ≤ k) ∧ ag (Kd.R (Kd.int .i64) 2 w' w.heap.size (fun k_ => k_ ≠ wK) (.slice Ao23 WN.length co23) WN) ∧ ag (w'.heap[DN]? = some (.cells #[.int .i64 ay, (.slice bX ae.length bN)] 24 (0, 0))) ∧ ag (w'.heap[DR]? = some (.cells #[(.slice pz dV.length oz), (.slice nZ iB.length og), (.slice wI lQ.length wJ)] 44 (0, 0))) ∧ ag (w'.heap[wK]? = some (.cells #[.int .i64 a2] 2 (0, 0))) ∧ ag (w'.heap[gbx]? = some (.cells #[.int .i64 0] 30 (0, 0))) ∧ ag (Below w.heap.size w w'))
 case atStart => exact ⟨(0), sr, H', ⟨Nat.le_refl _⟩, ⟨by exact rx (Kd.cO acg.out (fun _ hk => hk.2))⟩, xb jk, xb iy, xb ko, xb bC, ⟨lb⟩⟩
 clear H'; obtain ⟨rT, rfl, HA, HK1, AY, jk, iy, ko, bC, HB⟩ := hrel
 cases gk with
 | zero => exact absurd HA.out (by simp [aV.l0])
 | succ k1 => ?_
 have H := HA.out; clear HA
 simp only [aV.l0] at H
 by_cases c24 : rT < (WN.length : Int)
 ·
  rw [if_pos c24] at H; have c24b0 := decide_eq_true c24; clear c24; replace H := if3 H; obtain ⟨c25b0, c26b0, c27b0, H⟩ := H
  by_cases c28 : (rd WN rT) = (rd dV rT)
  rotate_left
  ·
   rw [if_neg c28] at H; have c28b := bn2 c28
   simp only [Option.some.injEq, Prod.mk.injEq] at H
   obtain ⟨rfl, rfl⟩ := H; exact nb hr_
  rw [if_pos c28] at H; have c28b := be2 c28; clear c28; have A29 := ak (show aQ.f true 221 = some () from rfl); have H' := ak H; clear H; obtain ⟨p168, q168, ad168, e168, hx168_0⟩ := wq (Kd.bB (Kd.aA AY.out).2.2 rT); cases e168; have ⟨_, _⟩ := nn NC; have ⟨_, _⟩ := nn ym; have ⟨_, _⟩ := nn AX; have ⟨_, _, _, _, _, _⟩ := cf3 iy; obtain ⟨p169, q169, ad169, e169, NH⟩ := wq (Kd.bB tX.out rT); cases e169
  (try replace NH := hbc HB NH)
  go_wp2_with (first | ((with_reducible refine au (f := 51) rfl ?_); refine gl 32 Try.func51 #[.bool true, .int .i64 221] ?_; (with_reducible refine (aQ.calls true 221  _ A29.out).mono ?_); rintro e w' ⟨rfl, ⟨nd, rfl⟩⟩; refine ⟨_, rfl, ?_⟩))
  go_roundg k1
  case measure => have := HK1.out; omega
  case rel => exact ⟨(wrap64 (rT + 1)), sr, H', ⟨by have := HK1.out; omega⟩, ⟨rx AY.out⟩, xb jk, xb iy, xb ko, xb bC, ⟨lb⟩⟩
 rw [if_neg c24] at H; have c24b0 := decide_eq_false c24; clear c24; replace H := Option.bind_eq_some_iff.mp H; obtain ⟨⟨t170, t171⟩, A380, H⟩ := H; dsimp only at H
 by_cases c39 : t170 = 0
 rotate_left
 ·
  rw [if_neg c39] at H; have A38 := ak A380; clear A380
  simp only [Option.some.injEq, Prod.mk.injEq] at H
  obtain ⟨rfl, rfl⟩ := H; exact nb hr_
 subst c39
 replace H := ip H; have A38 := ak A380; clear A380; have H' := ak H; clear H; have ⟨_, _⟩ := nn AU; have ⟨_, _⟩ := nn yj; have ⟨_, _⟩ := nn AV; have ⟨_, _, _, _⟩ := cf2 jk; have ⟨_, _⟩ := nn ym; have ⟨_, _⟩ := nn AX; have ⟨_, _, _, _, _, _⟩ := cf3 iy
 go_wp2_with (first | ((with_reducible refine au (f := 62) rfl ?_); refine gl 37 Try.func62 #[.agg #[.int .i64 ay, .slice bX ae.length bN], .slice wI lQ.length wJ, .int .i64 1] ?_; (with_reducible refine (bv.ok k1 ay _ _ ae _ _ lQ 1 t171 _ (Kd.cZ bU.out lb) eU.out (Kd.cZ EI.out lb) EJ.out A38.out).mono ?_); rintro e w47 ⟨v172, rfl, ho0, hb⟩; refine ⟨_, rfl, ?_⟩; have ach := ak (Kd.bY (Kd.D8 (Kd.gF ho0 (Kd.mf (rx AY.out))) (g := wK) (o := .cells #[.int .i64 a2] 2 (0, 0)) (bx ko.out)) (ax lb)); replace AY := ak (Kd.dJ (rx AY.out) (Kd.fI ho0) hb); replace jk := ak (bo jk hb); replace iy := ak (bo iy hb); replace ko := ak (bo ko hb); replace bC := ak (bI (g := gbx) (o := .cells #[.int .i64 0] 30 (0, 0)) (bx bC.out) hb); replace HB := ak (bl hb); clear hb; (try clear ho0); obtain ⟨Ao48, co48, eo48⟩ := Kd.bT ach.out; subst eo48))
 go_loopg [39] k1 (fun kq v39 w' => ∃ (gN : Int), v39 = .int .i64 gN ∧ ag (aV.l1 kq t171 (t171.length : Int) gN ay ae dV iB lQ a2 = some (r1, r2)) ∧ ag (kq ≤ k1) ∧ ag (Kd.R (Kd.int .i64) 2 w' w.heap.size (fun k_ => k_ ≠ wK) (.slice Ao48 t171.length co48) t171) ∧ ag (w'.heap[DN]? = some (.cells #[.int .i64 ay, (.slice bX ae.length bN)] 24 (0, 0))) ∧ ag (w'.heap[DR]? = some (.cells #[(.slice pz dV.length oz), (.slice nZ iB.length og), (.slice wI lQ.length wJ)] 44 (0, 0))) ∧ ag (w'.heap[wK]? = some (.cells #[.int .i64 a2] 2 (0, 0))) ∧ ag (w'.heap[gbx]? = some (.cells #[.int .i64 0] 30 (0, 0))) ∧ ag (Below w.heap.size w w'))
 case atStart => exact ⟨(0), sr, H', ⟨Nat.le_refl _⟩, ⟨by exact rx (Kd.cO ach.out (fun _ hk => hk.2))⟩, xb jk, xb iy, xb ko, xb bC, ⟨lb⟩⟩
 clear H'; obtain ⟨gN, rfl, HA, HK2, rW, jk, iy, ko, bC, HB⟩ := hrel
 cases gk with
 | zero => exact absurd HA.out (by simp [aV.l1])
 | succ k2 => ?_
 have H := HA.out; clear HA
 simp only [aV.l1] at H
 by_cases c49 : gN < (t171.length : Int)
 rotate_left
 ·
  rw [if_neg c49] at H; have c49b0 := decide_eq_false c49; clear c49; have H' := ak H; clear H; have ⟨_, _⟩ := nn AU; have ⟨_, _⟩ := nn yj; have ⟨_, _⟩ := nn AV; have ⟨_, _, _, _⟩ := cf2 jk
  go_wp2
  go_loopg [77] k2 (fun kq v77 w' => ∃ (kQ : Int) (rX : Int), v77 = .int .i64 kQ ∧ ag (aV.l2 kq ae (ae.length : Int) kQ dV iB lQ rX = some (r1, r2)) ∧ ag (kq ≤ k2) ∧ ag (w'.heap[DN]? = some (.cells #[.int .i64 ay, (.slice bX ae.length bN)] 24 (0, 0))) ∧ ag (w'.heap[DR]? = some (.cells #[(.slice pz dV.length oz), (.slice nZ iB.length og), (.slice wI lQ.length wJ)] 44 (0, 0))) ∧ ag (w'.heap[wK]? = some (.cells #[.int .i64 rX] 2 (0, 0))) ∧ ag (w'.heap[gbx]? = some (.cells #[.int .i64 0] 30 (0, 0))) ∧ ag (Below w.heap.size w w'))
  case atStart => exact ⟨(0), (a2), sr, H', ⟨Nat.le_refl _⟩, xb jk, xb iy, xb ko, xb bC, ⟨lb⟩⟩
  clear H'; obtain ⟨kQ, rX, rfl, HA, HK3, jk, iy, ko, bC, HB⟩ := hrel
  cases gk with
  | zero => exact absurd HA.out (by simp [aV.l2])
  | succ k3 => ?_
  have H := HA.out; clear HA
  simp only [aV.l2] at H
  by_cases c77 : kQ < (ae.length : Int)
  rotate_left
  ·
   rw [if_neg c77] at H; have c77b0 := decide_eq_false c77; clear c77
   simp only [Option.some.injEq, Prod.mk.injEq] at H
   obtain ⟨rfl, rfl⟩ := H
   go_wp2
   first | go_end0 | ((try simp only [Exit.inBlock, Exit.then]); refine bodyPost_ret (results_none rfl _ _ _) rfl ?_)
   exact ⟨oQ.ok (by first | rfl | (simp <;> rfl)), (bx ko.out), (bx bC.out), lb⟩
  rw [if_pos c77] at H; have c77b0 := decide_eq_true c77; clear c77; replace H := if3 H; obtain ⟨c78b0, c79b0, c80b0, H⟩ := H; have H' := ak H; clear H; obtain ⟨p180, q180, ad180, e180, NI, NJ, NK, NL⟩ := wq (dU bU.out kQ); cases e180
  (try replace NI := hbc HB NI)
  (try replace NJ := hbc HB NJ)
  (try replace NK := hbc HB NK)
  (try replace NL := hbc HB NL)
  try go_wp2_with (first | ((with_reducible refine aC (N := 8) rfl ?_); refine bxe 8 #[.int .i64 0, .int .i64 0, .int .i64 0, .int .i64 0] 98 ?_; intro mQ hg w81 hbox hb; have DT := ak (hbox); have GW181 := ak (gw w hg); have GE181 := ak (gw w hg); have aci := ak (nl hg jk); have NM := ak (nr hg jk); have acj := ak (nl hg iy); have NN := ak (nr hg iy); have NP := ak (nl hg ko); have GK := ak (nr hg ko); have ack := ak ((by rw [hg]; exact Nat.ne_of_lt (eB (g := gbx) (o := .cells #[.int .i64 0] 30 (0, 0)) (bx bC.out)) : gbx ≠ mQ)); have NQ := ak ((by rw [hg]; exact Nat.ne_of_gt (eB (g := gbx) (o := .cells #[.int .i64 0] 30 (0, 0)) (bx bC.out)) : mQ ≠ gbx)); replace jk := ak (bo jk hb); replace iy := ak (bo iy hb); replace ko := ak (bo ko hb); replace bC := ak (bI (g := gbx) (o := .cells #[.int .i64 0] 30 (0, 0)) (bx bC.out) hb); replace HB := ak (bl hb); clear hb hbox hg; have ⟨_, _⟩ := nn NM; have ⟨_, _⟩ := nn NN; have ⟨_, _⟩ := nn GK; have ⟨_, _⟩ := nn NQ; have ⟨_, _, _, _, _, _, _, _⟩ := cf4 DT))
  have n0_ : ag (((((w81.setCell ⟨mQ, 0, none⟩ (.int .i64 ((aa ae kQ).f0))).setCell ⟨mQ, 1, none⟩ (.int .i64 ((aa ae kQ).f1))).setCell ⟨mQ, 2, none⟩ (.int .i64 ((aa ae kQ).f2))).setCell ⟨mQ, 3, none⟩ (.int .i64 ((aa ae kQ).f3))).heap[DN]? = some (.cells #[.int .i64 ay, .slice (some ad180) ae.length bN] 24 (0, 0))) := ⟨bz⟩
  have n1_ : ag (((((w81.setCell ⟨mQ, 0, none⟩ (.int .i64 ((aa ae kQ).f0))).setCell ⟨mQ, 1, none⟩ (.int .i64 ((aa ae kQ).f1))).setCell ⟨mQ, 2, none⟩ (.int .i64 ((aa ae kQ).f2))).setCell ⟨mQ, 3, none⟩ (.int .i64 ((aa ae kQ).f3))).heap[DR]? = some (.cells #[.slice pz dV.length oz, .slice nZ iB.length og, .slice wI lQ.length wJ] 44 (0, 0))) := ⟨bz⟩
  have n2_ : ag (((((w81.setCell ⟨mQ, 0, none⟩ (.int .i64 ((aa ae kQ).f0))).setCell ⟨mQ, 1, none⟩ (.int .i64 ((aa ae kQ).f1))).setCell ⟨mQ, 2, none⟩ (.int .i64 ((aa ae kQ).f2))).setCell ⟨mQ, 3, none⟩ (.int .i64 ((aa ae kQ).f3))).heap[wK]? = some (.cells #[.int .i64 rX] 2 (0, 0))) := ⟨bz⟩
  have n3_ : ag (((((w81.setCell ⟨mQ, 0, none⟩ (.int .i64 ((aa ae kQ).f0))).setCell ⟨mQ, 1, none⟩ (.int .i64 ((aa ae kQ).f1))).setCell ⟨mQ, 2, none⟩ (.int .i64 ((aa ae kQ).f2))).setCell ⟨mQ, 3, none⟩ (.int .i64 ((aa ae kQ).f3))).heap[gbx]? = some (.cells #[.int .i64 0] 30 (0, 0))) := ⟨bz⟩
  have n4_ : ag (((((w81.setCell ⟨mQ, 0, none⟩ (.int .i64 ((aa ae kQ).f0))).setCell ⟨mQ, 1, none⟩ (.int .i64 ((aa ae kQ).f1))).setCell ⟨mQ, 2, none⟩ (.int .i64 ((aa ae kQ).f2))).setCell ⟨mQ, 3, none⟩ (.int .i64 ((aa ae kQ).f3))).heap[mQ]? = some (.cells #[.int .i64 ((aa ae kQ).f0), .int .i64 ((aa ae kQ).f1), .int .i64 ((aa ae kQ).f2), .int .i64 ((aa ae kQ).f3)] 98 (0, 0))) := ⟨bz⟩
  have n5_ : ag (Below w.heap.size w ((((w81.setCell ⟨mQ, 0, none⟩ (.int .i64 ((aa ae kQ).f0))).setCell ⟨mQ, 1, none⟩ (.int .i64 ((aa ae kQ).f1))).setCell ⟨mQ, 2, none⟩ (.int .i64 ((aa ae kQ).f2))).setCell ⟨mQ, 3, none⟩ (.int .i64 ((aa ae kQ).f3)))) := ⟨lb⟩
  (try clear jk)
  (try clear iy)
  (try clear ko)
  (try clear bC)
  (try clear DT)
  (try clear HB)
  generalize ((((w81.setCell ⟨mQ, 0, none⟩ (.int .i64 ((aa ae kQ).f0))).setCell ⟨mQ, 1, none⟩ (.int .i64 ((aa ae kQ).f1))).setCell ⟨mQ, 2, none⟩ (.int .i64 ((aa ae kQ).f2))).setCell ⟨mQ, 3, none⟩ (.int .i64 ((aa ae kQ).f3))) = w87 at n0_ n1_ n2_ n3_ n4_ n5_ ⊢
  have jk := n0_; have iy := n1_; have ko := n2_; have bC := n3_; have DT := n4_; have HB := n5_; clear n0_ n1_ n2_ n3_ n4_ n5_; replace jk := ak (aK jk.out); replace iy := ak (aK iy.out); replace ko := ak (aK ko.out); replace bC := ak (aK bC.out); replace DT := ak (aK DT.out); replace HB := ak (bJ HB.out); obtain ⟨p182, q182, ad182, e182, EO⟩ := wq (Kd.bB wH.out kQ); have WO := EO; cases e182
  (try replace EO := hbc HB EO)
  refine stC 11 [10] (cX (bc0 ko) (cX (bc0 DT) (cX (bc1 DT) (cX (bc2 DT) (cX (bc3 DT) (cX (bc0 iy) (cX (bc1 iy) (cX (bc2 iy) (cY (hbc HB WO)))))))))) aV.tab15 aV.acd fun hHeld HT_ HW_ => ?_
  generalize w87.drew = w88 at jk iy ko bC DT HB EO hHeld ⊢
  refine pv HT_ 1 83 ?_; refine pv HT_ 3 85 ?_; refine pv HT_ 5 87 ?_; refine tv HT_ HW_ hHeld 0 82 ?_; refine tv HT_ HW_ hHeld 2 84 ?_; refine tv HT_ HW_ hHeld 4 86 ?_; refine pv HT_ 6 88 ?_; refine tv HT_ HW_ hHeld 7 89 ?_; refine pv HT_ 8 90 ?_; refine pv HT_ 9 91 ?_
  refine um (i := 10) (N := none) #[T, T, T, T, T, T, T, T, T, T, T] rfl rfl (gP HT_.out (by kernel_rfl)) (by decide) (fun K hK => ?_)
  have hs89 : w88.cell? ⟨wK, 0, none⟩ = some (.int .i64 rX) := (aH ko.out 0).trans rfl; have hfs89 := bf ko 0; have hns89_0 := yj.out; have hns89_1 := ym.out; have hns89_3 := NG.out; have hns89_4 := GK.out; have hms89_0 := ND.out; have hms89_1 := NE.out; have hms89_3 := NF.out; have hms89_4 := NP.out
  refine tV (w1 := ?_) (by rfl) rfl ?_ ?_
  rotate_left
  ·
   go_simp
   rfl
  refine hK.out _ _ ?_
  clear hK K
  refine kN (fV HT_.out (by kernel_rfl)) ?_
  try go_wp2
  go_roundg k3
  case measure => have := HK1.out; have := HK2.out; have := HK3.out; omega
  case rel => exact ⟨(wrap64 (kQ + 1)), (wrap64 (rX + (wrap64 (((aa ae kQ).f3) * (rd iB kQ))))), sr, H', ⟨by have := HK1.out; have := HK2.out; have := HK3.out; omega⟩, ⟨bz⟩, ⟨bz⟩, ⟨bz⟩, ⟨bz⟩, ⟨lb⟩⟩
 rw [if_pos c49] at H; have c49b0 := decide_eq_true c49; clear c49; replace H := if2 H; obtain ⟨c50b0, c51b0, H⟩ := H
 by_cases c52 : (rd t171 gN) ≤ 0
 ·
  rw [if_pos c52] at H; have c52b0 := decide_eq_true c52; clear c52
  by_cases c53 : (rd t171 gN) ≥ 0
  ·
   rw [if_pos c53] at H; have c53b0 := decide_eq_true c53; clear c53; have A54 := ak (show aQ.f true 221 = some () from rfl); have H' := ak H; clear H; obtain ⟨p174, q174, WP, WQ, I5⟩ := wq (Kd.bB (Kd.aA rW.out).2.2 gN); cases WQ
   try go_wp2
   replace rW := ak (Kd.fH rW.out); replace jk := ak (aK jk.out); replace iy := ak (aK iy.out); replace ko := ak (aK ko.out); replace bC := ak (aK bC.out); replace HB := ak (bJ HB.out)
   refine stC 29 [] cN aV.KL aV.Ee fun hHeld HT_ HW_ => ?_
   generalize wr.drew = w55 at rW jk iy ko bC HB hHeld ⊢
   refine pv HT_ 0 44 ?_; refine pv HT_ 1 45 ?_; refine pv HT_ 2 46 ?_; refine pu HT_ 3 47 ?_; refine pu HT_ 4 48 ?_; refine pu HT_ 5 49 ?_; refine pu HT_ 6 50 ?_; refine pu HT_ 7 51 ?_; refine pu HT_ 8 52 ?_; refine pv HT_ 9 53 ?_; refine pv HT_ 10 54 ?_; refine pv HT_ 11 55 ?_; refine pv HT_ 12 56 ?_; refine pv HT_ 13 57 ?_; refine pu HT_ 14 58 ?_; refine pu HT_ 15 59 ?_; refine pu HT_ 16 60 ?_; refine pu HT_ 17 61 ?_; refine pu HT_ 18 62 ?_; refine pu HT_ 19 63 ?_; refine pu HT_ 20 64 ?_; refine pu HT_ 21 65 ?_; refine pu HT_ 22 66 ?_; refine pu HT_ 23 67 ?_; refine pu HT_ 24 68 ?_; refine pu HT_ 25 69 ?_; refine pv HT_ 26 70 ?_; refine pv HT_ 27 71 ?_
   refine wT (i := 28) (N := some 72) #[T, T, T, T, T, T, T, T, T, T, T, T, T, T, T, T, T, T, T, T, T, T, T, T, T, T, T, T, T] rfl rfl (gP HT_.out (by kernel_rfl)) (by decide) (fun K hK => ?_)
   refine DD Try.func51 (by kernel_rfl) rfl #[.bool true, .int .i64 221] (by rfl) rfl rfl (by (try simp only [List.map_toArray, List.map_cons, List.map_nil]); first | done | rfl | (simp only [List.length_drop, List.length_take]; rfl)) ?_
   with_reducible refine (aQ.calls true 221  _ A54.out).mono ?_
   rintro e w' ⟨rfl, ⟨nd, rfl⟩⟩
   refine ⟨_, rfl, ?_⟩
   refine hK.out _ _ trivial (fun hHeld => ?_)
   clear hK K
   refine ol (a' := ?_) ?_ ?_
   rotate_left
   ·
    show Act.put _ (some 72) _ = _
    simp only [Act.put, sA, sZ, sS, jA, jG]
    rfl
   refine kN (fV HT_.out (by kernel_rfl)) ?_
   try go_wp2
   go_roundg k2
   case measure => have := HK1.out; have := HK2.out; omega
   case rel => exact ⟨(wrap64 (gN + 1)), sr, H', ⟨by have := HK1.out; have := HK2.out; omega⟩, ⟨rx rW.out⟩, xb jk, xb iy, xb ko, xb bC, ⟨lb⟩⟩
  rw [if_neg c53] at H; have c53b0 := decide_eq_false c53; clear c53; replace H := if2 H; obtain ⟨c56b0, c57b0, H⟩ := H
  by_cases c58 : (rd iB gN) = ((aa ae gN).f2)
  rotate_left
  ·
   rw [if_neg c58] at H; have c58b := bn2 c58
   simp only [Option.some.injEq, Prod.mk.injEq] at H
   obtain ⟨rfl, rfl⟩ := H; exact nb hr_
  rw [if_pos c58] at H; have c58b := be2 c58; clear c58; have A59 := ak (show aQ.f true 221 = some () from rfl); have H' := ak H; clear H; obtain ⟨p174, q174, WP, WQ, I5⟩ := wq (Kd.bB (Kd.aA rW.out).2.2 gN); cases WQ
  try go_wp2
  replace rW := ak (Kd.fH rW.out); replace jk := ak (aK jk.out); replace iy := ak (aK iy.out); replace ko := ak (aK ko.out); replace bC := ak (aK bC.out); replace HB := ak (bJ HB.out); obtain ⟨p175, q175, ad175, e175, EP⟩ := wq (Kd.bB wH.out gN); have NR := EP; cases e175
  (try replace EP := hbc HB EP); obtain ⟨p176, q176, ad176, e176, EQ, ER, ES, ET⟩ := wq (dU bU.out gN); have NS := ET; have NT := ES; have NU := ER; have NV := EQ; cases e176
  (try replace EQ := hbc HB EQ)
  (try replace ER := hbc HB ER)
  (try replace ES := hbc HB ES)
  (try replace ET := hbc HB ET)
  refine stC 29 [] (cX (bc0 iy) (cX (bc1 iy) (cX (bc2 iy) (cX (bc0 jk) (cX (bc1 jk) (cX (hbc HB NR) (cX (hbc HB NV) (cX (hbc HB NU) (cX (hbc HB NT) (cY (hbc HB NS))))))))))) aV.KL aV.Ee fun hHeld HT_ HW_ => ?_
  generalize wr.drew = w60 at rW jk iy ko bC HB EP EQ ER ES ET hHeld ⊢
  refine pv HT_ 0 44 ?_; refine pv HT_ 1 45 ?_; refine pv HT_ 2 46 ?_; refine pu HT_ 3 47 ?_; refine pu HT_ 4 48 ?_; refine pu HT_ 5 49 ?_; refine pu HT_ 6 50 ?_; refine pu HT_ 7 51 ?_; refine pu HT_ 8 52 ?_; refine pv HT_ 9 53 ?_; refine pv HT_ 10 54 ?_; refine pv HT_ 11 55 ?_; refine pv HT_ 12 56 ?_; refine pv HT_ 13 57 ?_; refine pv HT_ 14 58 ?_; refine pv HT_ 16 60 ?_; refine pv HT_ 19 63 ?_; refine pv HT_ 21 65 ?_; refine tv HT_ HW_ hHeld 15 59 ?_; refine pv HT_ 17 61 ?_; refine tv HT_ HW_ hHeld 18 62 ?_; refine tv HT_ HW_ hHeld 20 64 ?_; refine pv HT_ 22 66 ?_; refine pv HT_ 23 67 ?_; refine tv HT_ HW_ hHeld 24 68 ?_; refine pv HT_ 25 69 ?_; refine pv HT_ 26 70 ?_; refine pv HT_ 27 71 ?_
  refine wT (i := 28) (N := some 72) #[T, T, T, T, T, T, T, T, T, T, T, T, T, T, T, T, T, T, T, T, T, T, T, T, T, T, T, T, T] rfl rfl (gP HT_.out (by kernel_rfl)) (by decide) (fun K hK => ?_)
  refine DD Try.func51 (by kernel_rfl) rfl #[.bool true, .int .i64 221] (by rfl) rfl rfl (by (try simp only [List.map_toArray, List.map_cons, List.map_nil]); first | done | rfl | (simp only [List.length_drop, List.length_take]; rfl)) ?_
  with_reducible refine (aQ.calls true 221  _ A59.out).mono ?_
  rintro e w' ⟨rfl, ⟨nd, rfl⟩⟩
  refine ⟨_, rfl, ?_⟩
  refine hK.out _ _ ⟨(aH iy.out 0).trans rfl, (aH iy.out 1).trans rfl, (aH iy.out 2).trans rfl, (aH jk.out 0).trans rfl, (aH jk.out 1).trans rfl, (hbc HB NR), (hbc HB NV), (hbc HB NU), (hbc HB NT), (hbc HB NS)⟩ (fun hHeld => ?_)
  clear hK K
  refine ol (a' := ?_) ?_ ?_
  rotate_left
  ·
   show Act.put _ (some 72) _ = _
   simp only [Act.put, sA, sZ, sS, jA, jG]
   rfl
  refine kN (fV HT_.out (by kernel_rfl)) ?_
  try go_wp2
  go_roundg k2
  case measure => have := HK1.out; have := HK2.out; omega
  case rel => exact ⟨(wrap64 (gN + 1)), sr, H', ⟨by have := HK1.out; have := HK2.out; omega⟩, ⟨rx rW.out⟩, xb jk, xb iy, xb ko, xb bC, ⟨lb⟩⟩
 rw [if_neg c52] at H; have c52b0 := decide_eq_false c52; clear c52; replace H := ifd H; obtain ⟨c62b0, H⟩ := H
 by_cases c63 : (rd iB gN) = 0
 rotate_left
 ·
  rw [if_neg c63] at H; have c63b := bn2 c63
  simp only [Option.some.injEq, Prod.mk.injEq] at H
  obtain ⟨rfl, rfl⟩ := H; exact nb hr_
 rw [if_pos c63] at H; have c63b := be2 c63; clear c63
 by_cases c64 : (rd t171 gN) ≥ 0
 ·
  rw [if_pos c64] at H; have c64b0 := decide_eq_true c64; clear c64; have A65 := ak (show aQ.f true 221 = some () from rfl); have H' := ak H; clear H; obtain ⟨p174, q174, WP, WQ, I5⟩ := wq (Kd.bB (Kd.aA rW.out).2.2 gN); cases WQ
  try go_wp2
  replace rW := ak (Kd.fH rW.out); replace jk := ak (aK jk.out); replace iy := ak (aK iy.out); replace ko := ak (aK ko.out); replace bC := ak (aK bC.out); replace HB := ak (bJ HB.out); obtain ⟨p177, q177, acl, e177, sM⟩ := wq (Kd.bB wH.out gN); have AZ := sM; cases e177
  (try replace sM := hbc HB sM)
  refine stC 29 [] (cX (bc0 iy) (cX (bc1 iy) (cX (bc2 iy) (cY (hbc HB AZ))))) aV.KL aV.Ee fun hHeld HT_ HW_ => ?_
  generalize wr.drew = w66 at rW jk iy ko bC HB sM hHeld ⊢
  refine pv HT_ 0 44 ?_; refine pv HT_ 1 45 ?_; refine pv HT_ 2 46 ?_; refine pv HT_ 3 47 ?_; refine pv HT_ 5 49 ?_; refine tv HT_ HW_ hHeld 4 48 ?_; refine pv HT_ 6 50 ?_; refine tv HT_ HW_ hHeld 7 51 ?_; refine pv HT_ 8 52 ?_; refine pv HT_ 9 53 ?_; refine pv HT_ 10 54 ?_; refine pv HT_ 11 55 ?_; refine pv HT_ 12 56 ?_; refine pv HT_ 13 57 ?_; refine pu HT_ 14 58 ?_; refine pu HT_ 15 59 ?_; refine pu HT_ 16 60 ?_; refine pu HT_ 17 61 ?_; refine pu HT_ 18 62 ?_; refine pu HT_ 19 63 ?_; refine pu HT_ 20 64 ?_; refine pu HT_ 21 65 ?_; refine pu HT_ 22 66 ?_; refine pu HT_ 23 67 ?_; refine pu HT_ 24 68 ?_; refine pu HT_ 25 69 ?_; refine pv HT_ 26 70 ?_; refine pv HT_ 27 71 ?_
  refine wT (i := 28) (N := some 72) #[T, T, T, T, T, T, T, T, T, T, T, T, T, T, T, T, T, T, T, T, T, T, T, T, T, T, T, T, T] rfl rfl (gP HT_.out (by kernel_rfl)) (by decide) (fun K hK => ?_)
  refine DD Try.func51 (by kernel_rfl) rfl #[.bool true, .int .i64 221] (by rfl) rfl rfl (by (try simp only [List.map_toArray, List.map_cons, List.map_nil]); first | done | rfl | (simp only [List.length_drop, List.length_take]; rfl)) ?_
  with_reducible refine (aQ.calls true 221  _ A65.out).mono ?_
  rintro e w' ⟨rfl, ⟨nd, rfl⟩⟩
  refine ⟨_, rfl, ?_⟩
  refine hK.out _ _ ⟨(aH iy.out 0).trans rfl, (aH iy.out 1).trans rfl, (aH iy.out 2).trans rfl, (hbc HB AZ)⟩ (fun hHeld => ?_)
  clear hK K
  refine ol (a' := ?_) ?_ ?_
  rotate_left
  ·
   show Act.put _ (some 72) _ = _
   simp only [Act.put, sA, sZ, sS, jA, jG]
   rfl
  refine kN (fV HT_.out (by kernel_rfl)) ?_
  try go_wp2
  go_roundg k2
  case measure => have := HK1.out; have := HK2.out; omega
  case rel => exact ⟨(wrap64 (gN + 1)), sr, H', ⟨by have := HK1.out; have := HK2.out; omega⟩, ⟨rx rW.out⟩, xb jk, xb iy, xb ko, xb bC, ⟨lb⟩⟩
 rw [if_neg c64] at H; have c64b0 := decide_eq_false c64; clear c64; replace H := ifd H; obtain ⟨c67b0, H⟩ := H
 by_cases c68 : (rd iB gN) = ((aa ae gN).f2)
 rotate_left
 ·
  rw [if_neg c68] at H; have c68b := bn2 c68
  simp only [Option.some.injEq, Prod.mk.injEq] at H
  obtain ⟨rfl, rfl⟩ := H; exact nb hr_
 rw [if_pos c68] at H; have c68b := be2 c68; clear c68; have A69 := ak (show aQ.f true 221 = some () from rfl); have H' := ak H; clear H; obtain ⟨p174, q174, WP, WQ, I5⟩ := wq (Kd.bB (Kd.aA rW.out).2.2 gN); cases WQ
 try go_wp2
 replace rW := ak (Kd.fH rW.out); replace jk := ak (aK jk.out); replace iy := ak (aK iy.out); replace ko := ak (aK ko.out); replace bC := ak (aK bC.out); replace HB := ak (bJ HB.out); obtain ⟨p177, q177, acl, e177, sM⟩ := wq (Kd.bB wH.out gN); have AZ := sM; cases e177
 (try replace sM := hbc HB sM); obtain ⟨p178, q178, ad178, e178, EU⟩ := wq (Kd.bB wH.out gN); have NW := EU
 obtain rfl : acl = ad178 := (by injection e178)
 (try replace EU := hbc HB EU); obtain ⟨p179, q179, ad179, e179, EW, EX, EY, EZ⟩ := wq (dU bU.out gN); have NY := EZ; have NZ := EY; have N7 := EX; have N8 := EW; cases e179
 (try replace EW := hbc HB EW)
 (try replace EX := hbc HB EX)
 (try replace EY := hbc HB EY)
 (try replace EZ := hbc HB EZ)
 refine stC 29 [] (cX (bc0 iy) (cX (bc1 iy) (cX (bc2 iy) (cX (bc0 jk) (cX (bc1 jk) (cX (hbc HB AZ) (cX (hbc HB NW) (cX (hbc HB N8) (cX (hbc HB N7) (cX (hbc HB NZ) (cY (hbc HB NY)))))))))))) aV.KL aV.Ee fun hHeld HT_ HW_ => ?_
 generalize wr.drew = w70 at rW jk iy ko bC HB sM EU EW EX EY EZ hHeld ⊢
 refine pv HT_ 0 44 ?_; refine pv HT_ 1 45 ?_; refine pv HT_ 2 46 ?_; refine pv HT_ 3 47 ?_; refine pv HT_ 5 49 ?_; refine tv HT_ HW_ hHeld 4 48 ?_; refine pv HT_ 6 50 ?_; refine tv HT_ HW_ hHeld 7 51 ?_; refine pv HT_ 8 52 ?_; refine pv HT_ 9 53 ?_; refine pv HT_ 10 54 ?_; refine pv HT_ 11 55 ?_; refine pv HT_ 12 56 ?_; refine pv HT_ 13 57 ?_; refine pv HT_ 14 58 ?_; refine pv HT_ 16 60 ?_; refine pv HT_ 19 63 ?_; refine pv HT_ 21 65 ?_; refine tv HT_ HW_ hHeld 15 59 ?_; refine pv HT_ 17 61 ?_; refine tv HT_ HW_ hHeld 18 62 ?_; refine tv HT_ HW_ hHeld 20 64 ?_; refine pv HT_ 22 66 ?_; refine pv HT_ 23 67 ?_; refine tv HT_ HW_ hHeld 24 68 ?_; refine pv HT_ 25 69 ?_; refine pv HT_ 26 70 ?_; refine pv HT_ 27 71 ?_
 refine wT (i := 28) (N := some 72) #[T, T, T, T, T, T, T, T, T, T, T, T, T, T, T, T, T, T, T, T, T, T, T, T, T, T, T, T, T] rfl rfl (gP HT_.out (by kernel_rfl)) (by decide) (fun K hK => ?_)
 refine DD Try.func51 (by kernel_rfl) rfl #[.bool true, .int .i64 221] (by rfl) rfl rfl (by (try simp only [List.map_toArray, List.map_cons, List.map_nil]); first | done | rfl | (simp only [List.length_drop, List.length_take]; rfl)) ?_
 with_reducible refine (aQ.calls true 221  _ A69.out).mono ?_
 rintro e w' ⟨rfl, ⟨nd, rfl⟩⟩
 refine ⟨_, rfl, ?_⟩
 refine hK.out _ _ ⟨(aH iy.out 0).trans rfl, (aH iy.out 1).trans rfl, (aH iy.out 2).trans rfl, (aH jk.out 0).trans rfl, (aH jk.out 1).trans rfl, (hbc HB AZ), (hbc HB NW), (hbc HB N8), (hbc HB N7), (hbc HB NZ), (hbc HB NY)⟩ (fun hHeld => ?_)
 clear hK K
 refine ol (a' := ?_) ?_ ?_
 rotate_left
 ·
  show Act.put _ (some 72) _ = _
  simp only [Act.put, sA, sZ, sS, jA, jG]
  rfl
 refine kN (fV HT_.out (by kernel_rfl)) ?_
 try go_wp2
 go_roundg k2
 case measure => have := HK1.out; have := HK2.out; omega
 case rel => exact ⟨(wrap64 (gN + 1)), sr, H', ⟨by have := HK1.out; have := HK2.out; omega⟩, ⟨rx rW.out⟩, xb jk, xb iy, xb ko, xb bC, ⟨lb⟩⟩
end Go.Proofs.Ytkdoihcjhccliaa.Q
