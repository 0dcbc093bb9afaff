import Derived.Test.YtkdoihcjhccliaaK
import Derived.Test.YtkdoihcjhccliaaQ0
import Derived.Test.YtkdoihcjhccliaaQ3
namespace Go.Proofs.Ytkdoihcjhccliaa.Q
open Go.RowKit Go.Proofs.YtkdoihcjhccliaaW.PrintWords Go.Proofs.YtkdoihcjhccliaaW.PrintLast Go.Proofs.YtkdoihcjhccliaaW.PrintMore
attribute [local go_sem] dF dG eG eH cz cB dH dI   -- for this text's walks alone
set_option linter.unusedVariables false
set_option linter.unusedSimpArgs false

/-! ### bE: function 87 -/
mutual
def bE.j0 : Nat → Bool → Int → List (S98) → Option (Int × Int)
  | 0, _, _, _ => none
  | k + 1, x18, rD, rE => if x18 = true then (some (3, 0)) else (bE.l0 k rE (rE.length : Int) 0 rD rE)
def bE.l0 : Nat → List (S98) → Int → Int → Int → List (S98) → Option (Int × Int)
  | 0, _, _, _, _, _ => none
  | k + 1, x21, x22, x23, rD, rE => if x23 < x22 then (if 0 ≤ x23 then (if x23 < (x21.length : Int) then (if ((aa x21 x23).f0) < 0 then (bE.j2 k x23 x21 x22 x23 true rD rE ((aa x21 x23).f0) ((aa x21 x23).f1) ((aa x21 x23).f2) ((aa x21 x23).f3)) else (if ((aa x21 x23).f0) ≥ rD then (bE.j2 k x23 x21 x22 x23 true rD rE ((aa x21 x23).f0) ((aa x21 x23).f1) ((aa x21 x23).f2) ((aa x21 x23).f3)) else (if ((aa x21 x23).f1) < 0 then (bE.j2 k x23 x21 x22 x23 true rD rE ((aa x21 x23).f0) ((aa x21 x23).f1) ((aa x21 x23).f2) ((aa x21 x23).f3)) else (bE.j2 k x23 x21 x22 x23 (decide (((aa x21 x23).f1) ≥ rD)) rD rE ((aa x21 x23).f0) ((aa x21 x23).f1) ((aa x21 x23).f2) ((aa x21 x23).f3))))) else (none)) else (none)) else (some (0, 0))
def bE.j2 : Nat → Int → List (S98) → Int → Int → Bool → Int → List (S98) → Int → Int → Int → Int → Option (Int × Int)
  | 0, _, _, _, _, _, _, _, _, _, _, _ => none
  | k + 1, x3, x21, x22, x23, x28, rD, rE, VP, VQ, VR, VS => if x28 = true then (some (30, x3)) else ((lM.f VP VQ VR VS).bind fun t107 => (if t107 = true then (bE.l0 k x21 x22 (wrap64 (x23 + 1)) rD rE) else (some (31, x3))))
end
def bE.f (k : Nat) (ay : Int) (ae : List (S98)) : Option (Int × Int) := if ay < 0 then (bE.j0 k true ay ae) else (if ay > 1024 then (bE.j0 k true ay ae) else (bE.j0 k (decide ((ae.length : Int) > 4096)) ay ae))
set_option maxHeartbeats 8000000 in
set_option maxRecDepth 100000 in
theorem bE.calls (k : Nat) (ay : Int) (bX : Option Addr) (bN : Nat) (ae : List (S98)) (r1 : Int) (r2 : Int) (w : World) (dB : Kd.C k98 w bX ae.length ae) (dC : ae.length ≤ bN) (h : bE.f k ay ae = some (r1, r2)) :
    Calls Try.prog 87 #[.agg #[.int .i64 ay, .slice bX ae.length bN]] w fun e w' => e = .returned (.agg #[.int .i64 r1, .int .i64 r2]) ∧ Below w.heap.size w w' := by
 have hu24 := Try.underlying24; have hu131 := Try.underlying131; have hu98 := Try.underlying98; have bU := ak dB; have eU := ak dC; clear dB dC; have HB := ak (Below.refl w.heap.size w); have H : (if ay < 0 then (bE.j0 k true ay ae) else (if ay > 1024 then (bE.j0 k true ay ae) else (bE.j0 k (decide ((ae.length : Int) > 4096)) ay ae))) = some (r1, r2) := h; clear h; have HC2 := ak H; clear H
 go_enter Try.func87, Try.ntmps87
 go_upto_region 1 with (first | ((with_reducible refine aC (N := 1) rfl ?_); (try (refine oC (by rfl) ?_; dsimp only)); refine bxe 1 #[.int .i64 ay, .slice bX ae.length bN] 24 ?_; intro VT hg w3 hbox hb; have n_ := a4 (bl hb) hbox (gw w hg) (gw w hg); clear HB; obtain ⟨HB, mO, GW103, GE103⟩ := n_; clear hb hbox hg) | ((with_reducible refine aC (N := 2) rfl ?_); (try (refine oC (by rfl) ?_; dsimp only)); refine bxe 2 #[.int .i64 0, .int .i64 0] 131 ?_; intro IL hg w4 hbox hb; have n_ := a7 (bo mO hb) (bl hb) hbox (gw w hg) (gw w hg) (nl hg mO) (nr hg mO); clear mO HB; obtain ⟨mO, HB, qg, GW104, GE104, qh, xY⟩ := n_; clear hb hbox hg))
 (try simp only [Act.put, sA, sZ, sS])
 go_cut [18] (fun v18 wc => ∃ (kq : Nat) (SX : Bool), v18 = .bool SX ∧ ag (bE.j0 kq SX ay ae = some (r1, r2)) ∧ ag (kq ≤ k) ∧ ag (wc.heap[VT]? = some (.cells #[.int .i64 ay, (.slice bX ae.length bN)] 24 (0, 0))) ∧ ag (wc.heap[IL]? = some (.cells #[.int .i64 0, .int .i64 0] 131 (0, 0))) ∧ ag (Below w.heap.size w wc))
 case first =>
  have H := HC2.out; clear HC2
  by_cases c5 : ay < 0
  ·
   rw [if_pos c5] at H; have c5b0 := decide_eq_true c5; clear c5
   (first | rw [c5b0] | (simp only [jA, jG]; rw [c5b0]) | skip)
   have H' := ak H; clear H; have ⟨_, _⟩ := nn qh; have ⟨_, _, _, _⟩ := cf2 mO
   go_wp2
   go_meet
   case rel => exact ⟨_, (true), sr, H', ⟨by first | omega | exact Nat.le_refl _⟩, xb mO, xb qg, ⟨lb⟩⟩
  rw [if_neg c5] at H; have c5b0 := decide_eq_false c5; clear c5
  (first | rw [c5b0] | (simp only [jA, jG]; rw [c5b0]) | skip)
  by_cases c8 : ay > 1024
  rotate_left
  ·
   rw [if_neg c8] at H; have c8b0 := decide_eq_false c8; clear c8; have H' := ak H; clear H; have ⟨_, _⟩ := nn qh; have ⟨_, _, _, _⟩ := cf2 mO
   go_wp2
   go_meet
   case rel => exact ⟨_, (decide ((ae.length : Int) > 4096)), sr, H', ⟨by first | omega | exact Nat.le_refl _⟩, xb mO, xb qg, ⟨lb⟩⟩
  rw [if_pos c8] at H; have c8b0 := decide_eq_true c8; clear c8; have H' := ak H; clear H; have ⟨_, _⟩ := nn qh; have ⟨_, _, _, _⟩ := cf2 mO
  go_wp2
  go_meet
  case rel => exact ⟨_, (true), sr, H', ⟨by first | omega | exact Nat.le_refl _⟩, xb mO, xb qg, ⟨lb⟩⟩
 case rest =>
  clear HC2; obtain ⟨kq, SX, rfl, HA, HJ1, mO, qg, HB⟩ := hcut
  cases kq with
  | zero => exact absurd HA.out (by simp [bE.j0])
  | succ kj1 =>
   have H := HA.out; clear HA
   simp only [bE.j0] at H
   by_cases c13 : SX = true
   ·
    subst c13
    replace H := ip H
    simp only [Option.some.injEq, Prod.mk.injEq] at H
    obtain ⟨rfl, rfl⟩ := H; have ⟨_, _⟩ := nn xY; have ⟨_, _, _, _⟩ := cf2 qg
    go_wp2
    refine bodyPost_ret (results_cell_row rfl _ _ IL 131 #[.int .i64 3, .int .i64 0] (0, 0) _ rfl bz Try.underlying131 rfl (by kernel_rfl)) rfl ?_
    exact ⟨er, lb⟩
   replace c13 := Bool.eq_false_iff.mpr c13; subst c13
   have H1 : (bE.l0 kj1 ae (ae.length : Int) 0 ay ae) = some (r1, r2) := by rw [if_neg (show ¬ (false = true) by decide)] at H; exact H
   clear H; have H := H1; clear H1; have H' := ak H; clear H; have ⟨_, _⟩ := nn qh; have ⟨_, _, _, _⟩ := cf2 mO
   go_wp2
   go_loopg [23] kj1 (fun kq v23 w' => ∃ (kv : Int) (xZ : Int) (yc : Int), v23 = .int .i64 kv ∧ ag (bE.l0 kq ae (ae.length : Int) kv ay ae = some (r1, r2)) ∧ ag (kq ≤ kj1) ∧ ag (w'.heap[VT]? = some (.cells #[.int .i64 ay, (.slice bX ae.length bN)] 24 (0, 0))) ∧ ag (w'.heap[IL]? = some (.cells #[.int .i64 xZ, .int .i64 yc] 131 (0, 0))) ∧ ag (Below w.heap.size w w'))
   case atStart => exact ⟨(0), (0), (0), sr, H', ⟨Nat.le_refl _⟩, xb mO, xb qg, ⟨lb⟩⟩
   clear H'; obtain ⟨kv, xZ, yc, rfl, HA, HK2, mO, qg, HB⟩ := hrel
   cases gk with
   | zero => exact absurd HA.out (by simp [bE.l0])
   | succ k2 => ?_
   have H := HA.out; clear HA
   simp only [bE.l0] at H
   by_cases c18 : kv < (ae.length : Int)
   rotate_left
   ·
    rw [if_neg c18] at H; have c18b0 := decide_eq_false c18; clear c18
    simp only [Option.some.injEq, Prod.mk.injEq] at H
    obtain ⟨rfl, rfl⟩ := H; have ⟨_, _⟩ := nn xY; have ⟨_, _, _, _⟩ := cf2 qg
    go_wp2
    refine bodyPost_ret (results_cell_row rfl _ _ IL 131 #[.int .i64 0, .int .i64 0] (0, 0) _ rfl bz Try.underlying131 rfl (by kernel_rfl)) rfl ?_
    exact ⟨er, lb⟩

   rw [if_pos c18] at H; have c18b0 := decide_eq_true c18; clear c18; replace H := if2 H; obtain ⟨c19b0, c20b0, H⟩ := H; have HC21 := ak H; clear H; obtain ⟨p105, q105, ad105, e105, M5, M6, M7, M8⟩ := wq (dU bU.out kv); cases e105
   (try replace M5 := hbc HB M5)
   (try replace M6 := hbc HB M6)
   (try replace M7 := hbc HB M7)
   (try replace M8 := hbc HB M8)
   go_upto_region 6 with (first | ((with_reducible refine aC (N := 4) rfl ?_); (try (refine oC (by rfl) ?_; dsimp only)); refine bxe 4 #[.int .i64 0, .int .i64 0, .int .i64 0, .int .i64 0] 98 ?_; intro gb106 hg w22 hbox hb; have n_ := a10 (bo mO hb) (bo qg hb) (bl hb) hbox (gw w hg) (gw w hg) (nl hg mO) (nr hg mO) (nl hg qg) (nr hg qg); clear mO qg HB; obtain ⟨mO, qg, HB, yf, GW106, GE106, abo, qi, M9, qj⟩ := n_; clear hb hbox hg; have ⟨_, _⟩ := nn qi; have ⟨_, _⟩ := nn qj; have ⟨_, _, _, _, _, _, _, _⟩ := cf4 yf))
   (try simp only [Act.put, sA, sZ, sS])
   go_cut [28] (fun v28 wc => ∃ (kq : Nat) (J3 : Bool), v28 = .bool J3 ∧ ag (bE.j2 kq kv ae (ae.length : Int) kv J3 ay ae ((aa ae kv).f0) ((aa ae kv).f1) ((aa ae kv).f2) ((aa ae kv).f3) = some (r1, r2)) ∧ ag (kq ≤ k2) ∧ ag (wc.heap[VT]? = some (.cells #[.int .i64 ay, (.slice (some ad105) ae.length bN)] 24 (0, 0))) ∧ ag (wc.heap[IL]? = some (.cells #[.int .i64 xZ, .int .i64 yc] 131 (0, 0))) ∧ ag (wc.heap[gb106]? = some (.cells #[.int .i64 ((aa ae kv).f0), .int .i64 ((aa ae kv).f1), .int .i64 ((aa ae kv).f2), .int .i64 ((aa ae kv).f3)] 98 (0, 0))) ∧ ag (Below w.heap.size w wc))
   case first =>
    have H := HC21.out; clear HC21
    by_cases c26 : ((aa ae kv).f0) < 0
    ·
     rw [if_pos c26] at H; have c26b0 := decide_eq_true c26; clear c26
     (first | rw [c26b0] | (simp only [jA, jG]; rw [c26b0]) | skip)
     have H' := ak H; clear H; have ⟨_, _⟩ := nn qi; have ⟨_, _⟩ := nn qj; have ⟨_, _, _, _, _, _, _, _⟩ := cf4 yf
     go_wp2
     go_meet
     case rel => exact ⟨_, (true), sr, H', ⟨by have := HJ1.out; have := HK2.out; first | omega | exact Nat.le_refl _⟩, ⟨bz⟩, ⟨bz⟩, ⟨bz⟩, ⟨lb⟩⟩
    rw [if_neg c26] at H; have c26b0 := decide_eq_false c26; clear c26
    (first | rw [c26b0] | (simp only [jA, jG]; rw [c26b0]) | skip)
    by_cases c30 : ((aa ae kv).f0) ≥ ay
    ·
     rw [if_pos c30] at H; have c30b0 := decide_eq_true c30; clear c30; have H' := ak H; clear H; have ⟨_, _⟩ := nn qi; have ⟨_, _⟩ := nn qj; have ⟨_, _, _, _, _, _, _, _⟩ := cf4 yf; have ⟨_, _⟩ := nn qh; have ⟨_, _, _, _⟩ := cf2 mO
     go_wp2
     go_meet
     case rel => exact ⟨_, (true), sr, H', ⟨by have := HJ1.out; have := HK2.out; first | omega | exact Nat.le_refl _⟩, ⟨bz⟩, ⟨bz⟩, ⟨bz⟩, ⟨lb⟩⟩
    rw [if_neg c30] at H; have c30b0 := decide_eq_false c30; clear c30
    by_cases c36 : ((aa ae kv).f1) < 0
    rotate_left
    ·
     rw [if_neg c36] at H; have c36b0 := decide_eq_false c36; clear c36; have H' := ak H; clear H; have ⟨_, _⟩ := nn qi; have ⟨_, _⟩ := nn qj; have ⟨_, _, _, _, _, _, _, _⟩ := cf4 yf; have ⟨_, _⟩ := nn qh; have ⟨_, _, _, _⟩ := cf2 mO
     go_wp2
     go_meet
     case rel => exact ⟨_, (decide (((aa ae kv).f1) ≥ ay)), sr, H', ⟨by have := HJ1.out; have := HK2.out; first | omega | exact Nat.le_refl _⟩, ⟨bz⟩, ⟨bz⟩, ⟨bz⟩, ⟨lb⟩⟩
    rw [if_pos c36] at H; have c36b0 := decide_eq_true c36; clear c36; have H' := ak H; clear H; have ⟨_, _⟩ := nn qi; have ⟨_, _⟩ := nn qj; have ⟨_, _, _, _, _, _, _, _⟩ := cf4 yf; have ⟨_, _⟩ := nn qh; have ⟨_, _, _, _⟩ := cf2 mO
    go_wp2
    go_meet
    case rel => exact ⟨_, (true), sr, H', ⟨by have := HJ1.out; have := HK2.out; first | omega | exact Nat.le_refl _⟩, ⟨bz⟩, ⟨bz⟩, ⟨bz⟩, ⟨lb⟩⟩
   case rest =>
    clear HC21; obtain ⟨kq, J3, rfl, HA, HJ20, mO, qg, yf, HB⟩ := hcut
    cases kq with
    | zero => exact absurd HA.out (by simp [bE.j2])
    | succ kj20 =>
     have H := HA.out; clear HA
     simp only [bE.j2] at H
     by_cases c47 : J3 = true
     ·
      subst c47
      replace H := ip H
      simp only [Option.some.injEq, Prod.mk.injEq] at H
      obtain ⟨rfl, rfl⟩ := H; have ⟨_, _⟩ := nn xY; have ⟨_, _⟩ := nn M9; have ⟨_, _, _, _⟩ := cf2 qg
      go_wp2
      refine bodyPost_ret (results_cell_row rfl _ _ IL 131 #[.int .i64 30, .int .i64 kv] (0, 0) _ rfl bz Try.underlying131 rfl (by kernel_rfl)) rfl ?_
      exact ⟨er, lb⟩
     replace c47 := Bool.eq_false_iff.mpr c47; subst c47
     have H1 : ((lM.f ((aa ae kv).f0) ((aa ae kv).f1) ((aa ae kv).f2) ((aa ae kv).f3)).bind fun t107 => (if t107 = true then (bE.l0 kj20 ae (ae.length : Int) (wrap64 (kv + 1)) ay ae) else (some (31, kv)))) = some (r1, r2) := by rw [if_neg (show ¬ (false = true) by decide)] at H; exact H
     clear H; have H := H1; clear H1; replace H := Option.bind_eq_some_iff.mp H; obtain ⟨t107, abp, H⟩ := H; have A51 := ak abp; clear abp
     by_cases c52 : t107 = true
     ·
      subst c52
      replace H := ip H; have H' := ak H; clear H; have ⟨_, _⟩ := nn qi; have ⟨_, _⟩ := nn qj; have ⟨_, _, _, _, _, _, _, _⟩ := cf4 yf
      go_wp2_with (first | ((with_reducible refine au (f := 94) rfl ?_); refine gl 55 Try.func94 #[.agg #[.int .i64 ((aa ae kv).f0), .int .i64 ((aa ae kv).f1), .int .i64 ((aa ae kv).f2), .int .i64 ((aa ae kv).f3)]] ?_; (with_reducible refine (lM.calls ((aa ae kv).f0) ((aa ae kv).f1) ((aa ae kv).f2) ((aa ae kv).f3) true _ A51.out).mono ?_); rintro e w56 ⟨rfl, hb⟩; refine ⟨_, rfl, ?_⟩; have n_ := a4 (bo mO hb) (bo qg hb) (bo yf hb) (bl hb); clear mO qg yf HB; obtain ⟨mO, qg, yf, HB⟩ := n_; clear hb))
      go_roundg kj20
      case measure => have := HJ1.out; have := HK2.out; have := HJ20.out; omega
      case rel => exact ⟨(wrap64 (kv + 1)), (xZ), (yc), sr, H', ⟨by have := HJ1.out; have := HK2.out; have := HJ20.out; omega⟩, xb mO, xb qg, ⟨lb⟩⟩
     replace c52 := Bool.eq_false_iff.mpr c52; subst c52
     have H1 : (some (31, kv)) = some (r1, r2) := by rw [if_neg (show ¬ (false = true) by decide)] at H; exact H
     clear H; have H := H1; clear H1
     simp only [Option.some.injEq, Prod.mk.injEq] at H
     obtain ⟨rfl, rfl⟩ := H; have ⟨_, _⟩ := nn qi; have ⟨_, _⟩ := nn qj; have ⟨_, _, _, _, _, _, _, _⟩ := cf4 yf
     go_wp2_with (first | ((with_reducible refine au (f := 94) rfl ?_); refine gl 55 Try.func94 #[.agg #[.int .i64 ((aa ae kv).f0), .int .i64 ((aa ae kv).f1), .int .i64 ((aa ae kv).f2), .int .i64 ((aa ae kv).f3)]] ?_; (with_reducible refine (lM.calls ((aa ae kv).f0) ((aa ae kv).f1) ((aa ae kv).f2) ((aa ae kv).f3) false _ A51.out).mono ?_); rintro e w60 ⟨rfl, hb⟩; refine ⟨_, rfl, ?_⟩; have n_ := a4 (bo mO hb) (bo qg hb) (bo yf hb) (bl hb); clear mO qg yf HB; obtain ⟨mO, qg, yf, HB⟩ := n_; clear hb; have ⟨_, _⟩ := nn xY; have ⟨_, _, _, _⟩ := cf2 qg))
     refine bodyPost_ret (results_cell_row rfl _ _ IL 131 #[.int .i64 31, .int .i64 kv] (0, 0) _ rfl bz Try.underlying131 rfl (by kernel_rfl)) rfl ?_
     exact ⟨er, lb⟩
end Go.Proofs.Ytkdoihcjhccliaa.Q
