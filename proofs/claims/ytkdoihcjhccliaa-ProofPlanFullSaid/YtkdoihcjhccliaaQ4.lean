import Derived.Test.YtkdoihcjhccliaaQ0
import Derived.Test.YtkdoihcjhccliaaQ3
namespace Go.Proofs.Ytkdoihcjhccliaa.Q
open Go.RowKit Go.Proofs.YtkdoihcjhccliaaW.PrintWords Go.Proofs.YtkdoihcjhccliaaW.PrintLast Go.Proofs.YtkdoihcjhccliaaW.PrintMore
attribute [local go_sem] max2_int min2_int max_two min_two max_three min_three max_four min_four   -- for this text's walks alone
set_option linter.unusedVariables false
set_option linter.unusedSimpArgs false

/-! ### graph_Check: function 87 -/
mutual
def graph_Check.j0 : Nat → Bool → Int → List (S98) → Option (Int × Int)
  | 0, _, _, _ => none
  | k + 1, x18, x104000, x104001 => if x18 = true then (some (3, 0)) else (graph_Check.l0 k x104001 (x104001.length : Int) 0 x104000 x104001)
def graph_Check.l0 : Nat → List (S98) → Int → Int → Int → List (S98) → Option (Int × Int)
  | 0, _, _, _, _, _ => none
  | k + 1, x21, x22, x23, x104000, x104001 => if x23 < x22 then (if 0 ≤ x23 then (if x23 < (x21.length : Int) then (if ((rd_T98 x21 x23).f0) < 0 then (graph_Check.j2 k x23 x21 x22 x23 true x104000 x104001 ((rd_T98 x21 x23).f0) ((rd_T98 x21 x23).f1) ((rd_T98 x21 x23).f2) ((rd_T98 x21 x23).f3)) else (if ((rd_T98 x21 x23).f0) ≥ x104000 then (graph_Check.j2 k x23 x21 x22 x23 true x104000 x104001 ((rd_T98 x21 x23).f0) ((rd_T98 x21 x23).f1) ((rd_T98 x21 x23).f2) ((rd_T98 x21 x23).f3)) else (if ((rd_T98 x21 x23).f1) < 0 then (graph_Check.j2 k x23 x21 x22 x23 true x104000 x104001 ((rd_T98 x21 x23).f0) ((rd_T98 x21 x23).f1) ((rd_T98 x21 x23).f2) ((rd_T98 x21 x23).f3)) else (graph_Check.j2 k x23 x21 x22 x23 (decide (((rd_T98 x21 x23).f1) ≥ x104000)) x104000 x104001 ((rd_T98 x21 x23).f0) ((rd_T98 x21 x23).f1) ((rd_T98 x21 x23).f2) ((rd_T98 x21 x23).f3))))) else (none)) else (none)) else (some (0, 0))
def graph_Check.j2 : Nat → Int → List (S98) → Int → Int → Bool → Int → List (S98) → Int → Int → Int → Int → Option (Int × Int)
  | 0, _, _, _, _, _, _, _, _, _, _, _ => none
  | k + 1, x3, x21, x22, x23, x28, x104000, x104001, x107000, x107001, x107002, x107003 => if x28 = true then (some (30, x3)) else ((graph_label.f x107000 x107001 x107002 x107003).bind fun t107 => (if t107 = true then (graph_Check.l0 k x21 x22 (wrap64 (x23 + 1)) x104000 x104001) else (some (31, x3))))
end
def graph_Check.f (k : Nat) (a0_0 : Int) (l0_1 : List (S98)) : Option (Int × Int) := if a0_0 < 0 then (graph_Check.j0 k true a0_0 l0_1) else (if a0_0 > 1024 then (graph_Check.j0 k true a0_0 l0_1) else (graph_Check.j0 k (decide ((l0_1.length : Int) > 4096)) a0_0 l0_1))
set_option maxHeartbeats 8000000 in
set_option maxRecDepth 100000 in
theorem graph_Check.calls (k : Nat) (a0_0 : Int) (A0_1 : Option Addr) (c0_1 : Nat) (l0_1 : List (S98)) (r1 : Int) (r2 : Int) (w : World) (hr0_1 : Kd.C k98 w A0_1 l0_1.length l0_1) (hc0_1 : l0_1.length ≤ c0_1) (h : graph_Check.f k a0_0 l0_1 = some (r1, r2)) :
    Calls Try.prog 87 #[.agg #[.int .i64 a0_0, .slice A0_1 l0_1.length c0_1]] w fun e w' => e = .returned (.agg #[.int .i64 r1, .int .i64 r2]) ∧ Below w.heap.size w w' := by
 have hu24 := Try.underlying24; have hu131 := Try.underlying131; have hu98 := Try.underlying98; have HR0_1 := ak hr0_1; have HC0_1 := ak hc0_1; clear hr0_1 hc0_1; have HB := ak (Below.refl w.heap.size w); have H : (if a0_0 < 0 then (graph_Check.j0 k true a0_0 l0_1) else (if a0_0 > 1024 then (graph_Check.j0 k true a0_0 l0_1) else (graph_Check.j0 k (decide ((l0_1.length : Int) > 4096)) a0_0 l0_1))) = some (r1, r2) := h; clear h; have HC2 := ak H; clear H
 go_enter Try.func87, Try.ntmps87
 go_upto_region 1 with (first | ((with_reducible refine gate_dst (N := 1) rfl ?_); (try (refine gate_guard (by rfl) ?_; dsimp only)); refine bxe 1 #[.int .i64 a0_0, .slice A0_1 l0_1.length c0_1] 24 ?_; intro gb103 hg w3 hbox hb; have n_ := a4 (bl hb) hbox (gw w hg) (gw w hg); clear HB; obtain ⟨HB, BK103, GW103, GE103⟩ := n_; clear hb hbox hg) | ((with_reducible refine gate_dst (N := 2) rfl ?_); (try (refine gate_guard (by rfl) ?_; dsimp only)); refine bxe 2 #[.int .i64 0, .int .i64 0] 131 ?_; intro gb104 hg w4 hbox hb; have n_ := a7 (bo BK103 hb) (bl hb) hbox (gw w hg) (gw w hg) (nl hg BK103) (nr hg BK103); clear BK103 HB; obtain ⟨BK103, HB, BK104, GW104, GE104, NB103_104, NB104_103⟩ := n_; clear hb hbox hg))
 (try simp only [Act.put, sA, sZ, sS])
 go_cut [18] (fun v18 wc => ∃ (kq : Nat) (x18_1 : Bool), v18 = .bool x18_1 ∧ Aside0 (graph_Check.j0 kq x18_1 a0_0 l0_1 = some (r1, r2)) ∧ Aside0 (kq ≤ k) ∧ Aside0 (wc.heap[gb103]? = some (.cells #[.int .i64 a0_0, (.slice A0_1 l0_1.length c0_1)] 24 (0, 0))) ∧ Aside0 (wc.heap[gb104]? = some (.cells #[.int .i64 0, .int .i64 0] 131 (0, 0))) ∧ Aside0 (Below w.heap.size w wc))
 case first =>
  have H := HC2.out; clear HC2
  by_cases c5 : a0_0 < 0
  ·
   rw [if_pos c5] at H; have c5b0 := decide_eq_true c5; clear c5
   (first | rw [c5b0] | (simp only [i64_w, i32_w]; rw [c5b0]) | skip)
   have H' := ak H; clear H; have ⟨_, _⟩ := nn NB103_104; have ⟨_, _, _, _⟩ := cf2 BK103
   go_wp2
   go_meet
   case rel => exact ⟨_, (true), sr, H', ⟨by first | omega | exact Nat.le_refl _⟩, xb BK103, xb BK104, ⟨lb⟩⟩
  rw [if_neg c5] at H; have c5b0 := decide_eq_false c5; clear c5
  (first | rw [c5b0] | (simp only [i64_w, i32_w]; rw [c5b0]) | skip)
  by_cases c8 : a0_0 > 1024
  rotate_left
  ·
   rw [if_neg c8] at H; have c8b0 := decide_eq_false c8; clear c8; have H' := ak H; clear H; have ⟨_, _⟩ := nn NB103_104; have ⟨_, _, _, _⟩ := cf2 BK103
   go_wp2
   go_meet
   case rel => exact ⟨_, (decide ((l0_1.length : Int) > 4096)), sr, H', ⟨by first | omega | exact Nat.le_refl _⟩, xb BK103, xb BK104, ⟨lb⟩⟩
  rw [if_pos c8] at H; have c8b0 := decide_eq_true c8; clear c8; have H' := ak H; clear H; have ⟨_, _⟩ := nn NB103_104; have ⟨_, _, _, _⟩ := cf2 BK103
  go_wp2
  go_meet
  case rel => exact ⟨_, (true), sr, H', ⟨by first | omega | exact Nat.le_refl _⟩, xb BK103, xb BK104, ⟨lb⟩⟩
 case rest =>
  clear HC2; obtain ⟨kq, x18_1, rfl, HA, HJ1, BK103, BK104, HB⟩ := hcut
  cases kq with
  | zero => exact absurd HA.out (by simp [graph_Check.j0])
  | succ kj1 =>
   have H := HA.out; clear HA
   simp only [graph_Check.j0] at H
   by_cases c13 : x18_1 = true
   ·
    subst c13
    replace H := ip H
    simp only [Option.some.injEq, Prod.mk.injEq] at H
    obtain ⟨rfl, rfl⟩ := H; have ⟨_, _⟩ := nn NB104_103; have ⟨_, _, _, _⟩ := cf2 BK104
    go_wp2
    refine bodyPost_ret (results_cell_row rfl _ _ gb104 131 #[.int .i64 3, .int .i64 0] (0, 0) _ rfl (by (with_reducible repeat (first | refine blk_drewN ?_ _ | refine blk_drew ?_ | refine blk_alloc ?_ _)); refine blk_put (cs := #[.int .i64 3, .int .i64 0]) ?_ 1 _ rfl; (with_reducible repeat (first | refine blk_drewN ?_ _ | refine blk_drew ?_ | refine blk_alloc ?_ _)); refine blk_put (cs := #[.int .i64 0, .int .i64 0]) ?_ 0 _ rfl; exact bx BK104.out) Try.underlying131 rfl (by kernel_rfl)) rfl ?_
    exact ⟨er, lb⟩
   replace c13 := Bool.eq_false_iff.mpr c13; subst c13
   have H1 : (graph_Check.l0 kj1 l0_1 (l0_1.length : Int) 0 a0_0 l0_1) = some (r1, r2) := by rw [if_neg (show ¬ (false = true) by decide)] at H; exact H
   clear H; have H := H1; clear H1; have H' := ak H; clear H; have ⟨_, _⟩ := nn NB103_104; have ⟨_, _, _, _⟩ := cf2 BK103
   go_wp2
   go_loopg [23] kj1 (fun kq v23 w' => ∃ (x23_2 : Int) (x105000_2 : Int) (x105001_2 : Int), v23 = .int .i64 x23_2 ∧ Aside0 (graph_Check.l0 kq l0_1 (l0_1.length : Int) x23_2 a0_0 l0_1 = some (r1, r2)) ∧ Aside0 (kq ≤ kj1) ∧ Aside0 (w'.heap[gb103]? = some (.cells #[.int .i64 a0_0, (.slice A0_1 l0_1.length c0_1)] 24 (0, 0))) ∧ Aside0 (w'.heap[gb104]? = some (.cells #[.int .i64 x105000_2, .int .i64 x105001_2] 131 (0, 0))) ∧ Aside0 (Below w.heap.size w w'))
   case atStart => exact ⟨(0), (0), (0), sr, H', ⟨Nat.le_refl _⟩, xb BK103, xb BK104, ⟨lb⟩⟩
   clear H'; obtain ⟨x23_2, x105000_2, x105001_2, rfl, HA, HK2, BK103, BK104, HB⟩ := hrel
   cases gk with
   | zero => exact absurd HA.out (by simp [graph_Check.l0])
   | succ k2 => ?_
   have H := HA.out; clear HA
   simp only [graph_Check.l0] at H
   by_cases c18 : x23_2 < (l0_1.length : Int)
   rotate_left
   ·
    rw [if_neg c18] at H; have c18b0 := decide_eq_false c18; clear c18
    simp only [Option.some.injEq, Prod.mk.injEq] at H
    obtain ⟨rfl, rfl⟩ := H; have ⟨_, _⟩ := nn NB104_103; have ⟨_, _, _, _⟩ := cf2 BK104
    go_wp2
    refine bodyPost_ret (results_cell_row rfl _ _ gb104 131 #[.int .i64 0, .int .i64 0] (0, 0) _ rfl (by (with_reducible repeat (first | refine blk_drewN ?_ _ | refine blk_drew ?_ | refine blk_alloc ?_ _)); refine blk_put (cs := #[.int .i64 0, .int .i64 x105001_2]) ?_ 1 _ rfl; (with_reducible repeat (first | refine blk_drewN ?_ _ | refine blk_drew ?_ | refine blk_alloc ?_ _)); refine blk_put (cs := #[.int .i64 x105000_2, .int .i64 x105001_2]) ?_ 0 _ rfl; exact bx BK104.out) Try.underlying131 rfl (by kernel_rfl)) rfl ?_
    exact ⟨er, lb⟩

   rw [if_pos c18] at H; have c18b0 := decide_eq_true c18; clear c18; replace H := if2 H; obtain ⟨c19b0, c20b0, H⟩ := H; have HC21 := ak H; clear H; obtain ⟨p105, q105, ad105, e105, hx105_0, hx105_1, hx105_2, hx105_3⟩ := wq (at_T98 HR0_1.out x23_2); cases e105
   (try replace hx105_0 := hbc HB hx105_0)
   (try replace hx105_1 := hbc HB hx105_1)
   (try replace hx105_2 := hbc HB hx105_2)
   (try replace hx105_3 := hbc HB hx105_3)
   go_upto_region 6 with (first | ((with_reducible refine gate_dst (N := 4) rfl ?_); (try (refine gate_guard (by rfl) ?_; dsimp only)); refine bxe 4 #[.int .i64 0, .int .i64 0, .int .i64 0, .int .i64 0] 98 ?_; intro gb106 hg w22 hbox hb; have n_ := a10 (bo BK103 hb) (bo BK104 hb) (bl hb) hbox (gw w hg) (gw w hg) (nl hg BK103) (nr hg BK103) (nl hg BK104) (nr hg BK104); clear BK103 BK104 HB; obtain ⟨BK103, BK104, HB, BK106, GW106, GE106, NB103_106, NB106_103, NB104_106, NB106_104⟩ := n_; clear hb hbox hg; have ⟨_, _⟩ := nn NB106_103; have ⟨_, _⟩ := nn NB106_104; have ⟨_, _, _, _, _, _, _, _⟩ := cf4 BK106))
   (try simp only [Act.put, sA, sZ, sS])
   go_cut [28] (fun v28 wc => ∃ (kq : Nat) (x28_20 : Bool), v28 = .bool x28_20 ∧ Aside0 (graph_Check.j2 kq x23_2 l0_1 (l0_1.length : Int) x23_2 x28_20 a0_0 l0_1 ((rd_T98 l0_1 x23_2).f0) ((rd_T98 l0_1 x23_2).f1) ((rd_T98 l0_1 x23_2).f2) ((rd_T98 l0_1 x23_2).f3) = some (r1, r2)) ∧ Aside0 (kq ≤ k2) ∧ Aside0 (wc.heap[gb103]? = some (.cells #[.int .i64 a0_0, (.slice (some ad105) l0_1.length c0_1)] 24 (0, 0))) ∧ Aside0 (wc.heap[gb104]? = some (.cells #[.int .i64 x105000_2, .int .i64 x105001_2] 131 (0, 0))) ∧ Aside0 (wc.heap[gb106]? = some (.cells #[.int .i64 ((rd_T98 l0_1 x23_2).f0), .int .i64 ((rd_T98 l0_1 x23_2).f1), .int .i64 ((rd_T98 l0_1 x23_2).f2), .int .i64 ((rd_T98 l0_1 x23_2).f3)] 98 (0, 0))) ∧ Aside0 (Below w.heap.size w wc))
   case first =>
    have H := HC21.out; clear HC21
    by_cases c26 : ((rd_T98 l0_1 x23_2).f0) < 0
    ·
     rw [if_pos c26] at H; have c26b0 := decide_eq_true c26; clear c26
     (first | rw [c26b0] | (simp only [i64_w, i32_w]; rw [c26b0]) | skip)
     have H' := ak H; clear H; have ⟨_, _⟩ := nn NB106_103; have ⟨_, _⟩ := nn NB106_104; have ⟨_, _, _, _, _, _, _, _⟩ := cf4 BK106
     go_wp2
     go_meet
     case rel => exact ⟨_, (true), sr, H', ⟨by have := HJ1.out; have := HK2.out; first | omega | exact Nat.le_refl _⟩, ⟨by (with_reducible repeat (first | refine blk_drewN ?_ _ | refine blk_drew ?_ | refine blk_alloc ?_ _)); refine blk_far ?_ NB103_106.out _; (with_reducible repeat (first | refine blk_drewN ?_ _ | refine blk_drew ?_ | refine blk_alloc ?_ _)); refine blk_far ?_ NB103_106.out _; (with_reducible repeat (first | refine blk_drewN ?_ _ | refine blk_drew ?_ | refine blk_alloc ?_ _)); refine blk_far ?_ NB103_106.out _; (with_reducible repeat (first | refine blk_drewN ?_ _ | refine blk_drew ?_ | refine blk_alloc ?_ _)); refine blk_far ?_ NB103_106.out _; exact bx BK103.out⟩, ⟨by (with_reducible repeat (first | refine blk_drewN ?_ _ | refine blk_drew ?_ | refine blk_alloc ?_ _)); refine blk_far ?_ NB104_106.out _; (with_reducible repeat (first | refine blk_drewN ?_ _ | refine blk_drew ?_ | refine blk_alloc ?_ _)); refine blk_far ?_ NB104_106.out _; (with_reducible repeat (first | refine blk_drewN ?_ _ | refine blk_drew ?_ | refine blk_alloc ?_ _)); refine blk_far ?_ NB104_106.out _; (with_reducible repeat (first | refine blk_drewN ?_ _ | refine blk_drew ?_ | refine blk_alloc ?_ _)); refine blk_far ?_ NB104_106.out _; exact bx BK104.out⟩, ⟨by (with_reducible repeat (first | refine blk_drewN ?_ _ | refine blk_drew ?_ | refine blk_alloc ?_ _)); refine blk_put (cs := #[.int .i64 ((rd_T98 l0_1 x23_2).f0), .int .i64 ((rd_T98 l0_1 x23_2).f1), .int .i64 ((rd_T98 l0_1 x23_2).f2), .int .i64 0]) ?_ 3 _ rfl; (with_reducible repeat (first | refine blk_drewN ?_ _ | refine blk_drew ?_ | refine blk_alloc ?_ _)); refine blk_put (cs := #[.int .i64 ((rd_T98 l0_1 x23_2).f0), .int .i64 ((rd_T98 l0_1 x23_2).f1), .int .i64 0, .int .i64 0]) ?_ 2 _ rfl; (with_reducible repeat (first | refine blk_drewN ?_ _ | refine blk_drew ?_ | refine blk_alloc ?_ _)); refine blk_put (cs := #[.int .i64 ((rd_T98 l0_1 x23_2).f0), .int .i64 0, .int .i64 0, .int .i64 0]) ?_ 1 _ rfl; (with_reducible repeat (first | refine blk_drewN ?_ _ | refine blk_drew ?_ | refine blk_alloc ?_ _)); refine blk_put (cs := #[.int .i64 0, .int .i64 0, .int .i64 0, .int .i64 0]) ?_ 0 _ rfl; exact bx BK106.out⟩, ⟨lb⟩⟩
    rw [if_neg c26] at H; have c26b0 := decide_eq_false c26; clear c26
    (first | rw [c26b0] | (simp only [i64_w, i32_w]; rw [c26b0]) | skip)
    by_cases c30 : ((rd_T98 l0_1 x23_2).f0) ≥ a0_0
    ·
     rw [if_pos c30] at H; have c30b0 := decide_eq_true c30; clear c30; have H' := ak H; clear H; have ⟨_, _⟩ := nn NB106_103; have ⟨_, _⟩ := nn NB106_104; have ⟨_, _, _, _, _, _, _, _⟩ := cf4 BK106; have ⟨_, _⟩ := nn NB103_104; have ⟨_, _, _, _⟩ := cf2 BK103
     go_wp2
     go_meet
     case rel => exact ⟨_, (true), sr, H', ⟨by have := HJ1.out; have := HK2.out; first | omega | exact Nat.le_refl _⟩, ⟨by (with_reducible repeat (first | refine blk_drewN ?_ _ | refine blk_drew ?_ | refine blk_alloc ?_ _)); refine blk_far ?_ NB103_106.out _; (with_reducible repeat (first | refine blk_drewN ?_ _ | refine blk_drew ?_ | refine blk_alloc ?_ _)); refine blk_far ?_ NB103_106.out _; (with_reducible repeat (first | refine blk_drewN ?_ _ | refine blk_drew ?_ | refine blk_alloc ?_ _)); refine blk_far ?_ NB103_106.out _; (with_reducible repeat (first | refine blk_drewN ?_ _ | refine blk_drew ?_ | refine blk_alloc ?_ _)); refine blk_far ?_ NB103_106.out _; exact bx BK103.out⟩, ⟨by (with_reducible repeat (first | refine blk_drewN ?_ _ | refine blk_drew ?_ | refine blk_alloc ?_ _)); refine blk_far ?_ NB104_106.out _; (with_reducible repeat (first | refine blk_drewN ?_ _ | refine blk_drew ?_ | refine blk_alloc ?_ _)); refine blk_far ?_ NB104_106.out _; (with_reducible repeat (first | refine blk_drewN ?_ _ | refine blk_drew ?_ | refine blk_alloc ?_ _)); refine blk_far ?_ NB104_106.out _; (with_reducible repeat (first | refine blk_drewN ?_ _ | refine blk_drew ?_ | refine blk_alloc ?_ _)); refine blk_far ?_ NB104_106.out _; exact bx BK104.out⟩, ⟨by (with_reducible repeat (first | refine blk_drewN ?_ _ | refine blk_drew ?_ | refine blk_alloc ?_ _)); refine blk_put (cs := #[.int .i64 ((rd_T98 l0_1 x23_2).f0), .int .i64 ((rd_T98 l0_1 x23_2).f1), .int .i64 ((rd_T98 l0_1 x23_2).f2), .int .i64 0]) ?_ 3 _ rfl; (with_reducible repeat (first | refine blk_drewN ?_ _ | refine blk_drew ?_ | refine blk_alloc ?_ _)); refine blk_put (cs := #[.int .i64 ((rd_T98 l0_1 x23_2).f0), .int .i64 ((rd_T98 l0_1 x23_2).f1), .int .i64 0, .int .i64 0]) ?_ 2 _ rfl; (with_reducible repeat (first | refine blk_drewN ?_ _ | refine blk_drew ?_ | refine blk_alloc ?_ _)); refine blk_put (cs := #[.int .i64 ((rd_T98 l0_1 x23_2).f0), .int .i64 0, .int .i64 0, .int .i64 0]) ?_ 1 _ rfl; (with_reducible repeat (first | refine blk_drewN ?_ _ | refine blk_drew ?_ | refine blk_alloc ?_ _)); refine blk_put (cs := #[.int .i64 0, .int .i64 0, .int .i64 0, .int .i64 0]) ?_ 0 _ rfl; exact bx BK106.out⟩, ⟨lb⟩⟩
    rw [if_neg c30] at H; have c30b0 := decide_eq_false c30; clear c30
    by_cases c36 : ((rd_T98 l0_1 x23_2).f1) < 0
    rotate_left
    ·
     rw [if_neg c36] at H; have c36b0 := decide_eq_false c36; clear c36; have H' := ak H; clear H; have ⟨_, _⟩ := nn NB106_103; have ⟨_, _⟩ := nn NB106_104; have ⟨_, _, _, _, _, _, _, _⟩ := cf4 BK106; have ⟨_, _⟩ := nn NB103_104; have ⟨_, _, _, _⟩ := cf2 BK103
     go_wp2
     go_meet
     case rel => exact ⟨_, (decide (((rd_T98 l0_1 x23_2).f1) ≥ a0_0)), sr, H', ⟨by have := HJ1.out; have := HK2.out; first | omega | exact Nat.le_refl _⟩, ⟨by (with_reducible repeat (first | refine blk_drewN ?_ _ | refine blk_drew ?_ | refine blk_alloc ?_ _)); refine blk_far ?_ NB103_106.out _; (with_reducible repeat (first | refine blk_drewN ?_ _ | refine blk_drew ?_ | refine blk_alloc ?_ _)); refine blk_far ?_ NB103_106.out _; (with_reducible repeat (first | refine blk_drewN ?_ _ | refine blk_drew ?_ | refine blk_alloc ?_ _)); refine blk_far ?_ NB103_106.out _; (with_reducible repeat (first | refine blk_drewN ?_ _ | refine blk_drew ?_ | refine blk_alloc ?_ _)); refine blk_far ?_ NB103_106.out _; exact bx BK103.out⟩, ⟨by (with_reducible repeat (first | refine blk_drewN ?_ _ | refine blk_drew ?_ | refine blk_alloc ?_ _)); refine blk_far ?_ NB104_106.out _; (with_reducible repeat (first | refine blk_drewN ?_ _ | refine blk_drew ?_ | refine blk_alloc ?_ _)); refine blk_far ?_ NB104_106.out _; (with_reducible repeat (first | refine blk_drewN ?_ _ | refine blk_drew ?_ | refine blk_alloc ?_ _)); refine blk_far ?_ NB104_106.out _; (with_reducible repeat (first | refine blk_drewN ?_ _ | refine blk_drew ?_ | refine blk_alloc ?_ _)); refine blk_far ?_ NB104_106.out _; exact bx BK104.out⟩, ⟨by (with_reducible repeat (first | refine blk_drewN ?_ _ | refine blk_drew ?_ | refine blk_alloc ?_ _)); refine blk_put (cs := #[.int .i64 ((rd_T98 l0_1 x23_2).f0), .int .i64 ((rd_T98 l0_1 x23_2).f1), .int .i64 ((rd_T98 l0_1 x23_2).f2), .int .i64 0]) ?_ 3 _ rfl; (with_reducible repeat (first | refine blk_drewN ?_ _ | refine blk_drew ?_ | refine blk_alloc ?_ _)); refine blk_put (cs := #[.int .i64 ((rd_T98 l0_1 x23_2).f0), .int .i64 ((rd_T98 l0_1 x23_2).f1), .int .i64 0, .int .i64 0]) ?_ 2 _ rfl; (with_reducible repeat (first | refine blk_drewN ?_ _ | refine blk_drew ?_ | refine blk_alloc ?_ _)); refine blk_put (cs := #[.int .i64 ((rd_T98 l0_1 x23_2).f0), .int .i64 0, .int .i64 0, .int .i64 0]) ?_ 1 _ rfl; (with_reducible repeat (first | refine blk_drewN ?_ _ | refine blk_drew ?_ | refine blk_alloc ?_ _)); refine blk_put (cs := #[.int .i64 0, .int .i64 0, .int .i64 0, .int .i64 0]) ?_ 0 _ rfl; exact bx BK106.out⟩, ⟨lb⟩⟩
    rw [if_pos c36] at H; have c36b0 := decide_eq_true c36; clear c36; have H' := ak H; clear H; have ⟨_, _⟩ := nn NB106_103; have ⟨_, _⟩ := nn NB106_104; have ⟨_, _, _, _, _, _, _, _⟩ := cf4 BK106; have ⟨_, _⟩ := nn NB103_104; have ⟨_, _, _, _⟩ := cf2 BK103
    go_wp2
    go_meet
    case rel => exact ⟨_, (true), sr, H', ⟨by have := HJ1.out; have := HK2.out; first | omega | exact Nat.le_refl _⟩, ⟨by (with_reducible repeat (first | refine blk_drewN ?_ _ | refine blk_drew ?_ | refine blk_alloc ?_ _)); refine blk_far ?_ NB103_106.out _; (with_reducible repeat (first | refine blk_drewN ?_ _ | refine blk_drew ?_ | refine blk_alloc ?_ _)); refine blk_far ?_ NB103_106.out _; (with_reducible repeat (first | refine blk_drewN ?_ _ | refine blk_drew ?_ | refine blk_alloc ?_ _)); refine blk_far ?_ NB103_106.out _; (with_reducible repeat (first | refine blk_drewN ?_ _ | refine blk_drew ?_ | refine blk_alloc ?_ _)); refine blk_far ?_ NB103_106.out _; exact bx BK103.out⟩, ⟨by (with_reducible repeat (first | refine blk_drewN ?_ _ | refine blk_drew ?_ | refine blk_alloc ?_ _)); refine blk_far ?_ NB104_106.out _; (with_reducible repeat (first | refine blk_drewN ?_ _ | refine blk_drew ?_ | refine blk_alloc ?_ _)); refine blk_far ?_ NB104_106.out _; (with_reducible repeat (first | refine blk_drewN ?_ _ | refine blk_drew ?_ | refine blk_alloc ?_ _)); refine blk_far ?_ NB104_106.out _; (with_reducible repeat (first | refine blk_drewN ?_ _ | refine blk_drew ?_ | refine blk_alloc ?_ _)); refine blk_far ?_ NB104_106.out _; exact bx BK104.out⟩, ⟨by (with_reducible repeat (first | refine blk_drewN ?_ _ | refine blk_drew ?_ | refine blk_alloc ?_ _)); refine blk_put (cs := #[.int .i64 ((rd_T98 l0_1 x23_2).f0), .int .i64 ((rd_T98 l0_1 x23_2).f1), .int .i64 ((rd_T98 l0_1 x23_2).f2), .int .i64 0]) ?_ 3 _ rfl; (with_reducible repeat (first | refine blk_drewN ?_ _ | refine blk_drew ?_ | refine blk_alloc ?_ _)); refine blk_put (cs := #[.int .i64 ((rd_T98 l0_1 x23_2).f0), .int .i64 ((rd_T98 l0_1 x23_2).f1), .int .i64 0, .int .i64 0]) ?_ 2 _ rfl; (with_reducible repeat (first | refine blk_drewN ?_ _ | refine blk_drew ?_ | refine blk_alloc ?_ _)); refine blk_put (cs := #[.int .i64 ((rd_T98 l0_1 x23_2).f0), .int .i64 0, .int .i64 0, .int .i64 0]) ?_ 1 _ rfl; (with_reducible repeat (first | refine blk_drewN ?_ _ | refine blk_drew ?_ | refine blk_alloc ?_ _)); refine blk_put (cs := #[.int .i64 0, .int .i64 0, .int .i64 0, .int .i64 0]) ?_ 0 _ rfl; exact bx BK106.out⟩, ⟨lb⟩⟩
   case rest =>
    clear HC21; obtain ⟨kq, x28_20, rfl, HA, HJ20, BK103, BK104, BK106, HB⟩ := hcut
    cases kq with
    | zero => exact absurd HA.out (by simp [graph_Check.j2])
    | succ kj20 =>
     have H := HA.out; clear HA
     simp only [graph_Check.j2] at H
     by_cases c47 : x28_20 = true
     ·
      subst c47
      replace H := ip H
      simp only [Option.some.injEq, Prod.mk.injEq] at H
      obtain ⟨rfl, rfl⟩ := H; have ⟨_, _⟩ := nn NB104_103; have ⟨_, _⟩ := nn NB104_106; have ⟨_, _, _, _⟩ := cf2 BK104
      go_wp2
      refine bodyPost_ret (results_cell_row rfl _ _ gb104 131 #[.int .i64 30, .int .i64 x23_2] (0, 0) _ rfl (by (with_reducible repeat (first | refine blk_drewN ?_ _ | refine blk_drew ?_ | refine blk_alloc ?_ _)); refine blk_put (cs := #[.int .i64 30, .int .i64 x105001_2]) ?_ 1 _ rfl; (with_reducible repeat (first | refine blk_drewN ?_ _ | refine blk_drew ?_ | refine blk_alloc ?_ _)); refine blk_put (cs := #[.int .i64 x105000_2, .int .i64 x105001_2]) ?_ 0 _ rfl; exact bx BK104.out) Try.underlying131 rfl (by kernel_rfl)) rfl ?_
      exact ⟨er, lb⟩
     replace c47 := Bool.eq_false_iff.mpr c47; subst c47
     have H1 : ((graph_label.f ((rd_T98 l0_1 x23_2).f0) ((rd_T98 l0_1 x23_2).f1) ((rd_T98 l0_1 x23_2).f2) ((rd_T98 l0_1 x23_2).f3)).bind fun t107 => (if t107 = true then (graph_Check.l0 kj20 l0_1 (l0_1.length : Int) (wrap64 (x23_2 + 1)) a0_0 l0_1) else (some (31, x23_2)))) = some (r1, r2) := by rw [if_neg (show ¬ (false = true) by decide)] at H; exact H
     clear H; have H := H1; clear H1; replace H := Option.bind_eq_some_iff.mp H; obtain ⟨t107, A510, H⟩ := H; have A51 := ak A510; clear A510
     by_cases c52 : t107 = true
     ·
      subst c52
      replace H := ip H; have H' := ak H; clear H; have ⟨_, _⟩ := nn NB106_103; have ⟨_, _⟩ := nn NB106_104; have ⟨_, _, _, _, _, _, _, _⟩ := cf4 BK106
      go_wp2_with (first | ((with_reducible refine gate_callee (f := 94) rfl ?_); refine gl 55 Try.func94 #[.agg #[.int .i64 ((rd_T98 l0_1 x23_2).f0), .int .i64 ((rd_T98 l0_1 x23_2).f1), .int .i64 ((rd_T98 l0_1 x23_2).f2), .int .i64 ((rd_T98 l0_1 x23_2).f3)]] ?_; (with_reducible refine (graph_label.calls ((rd_T98 l0_1 x23_2).f0) ((rd_T98 l0_1 x23_2).f1) ((rd_T98 l0_1 x23_2).f2) ((rd_T98 l0_1 x23_2).f3) true _ A51.out).mono ?_); rintro e w56 ⟨rfl, hb⟩; refine ⟨_, rfl, ?_⟩; have n_ := a4 (bo BK103 hb) (bo BK104 hb) (bo BK106 hb) (bl hb); clear BK103 BK104 BK106 HB; obtain ⟨BK103, BK104, BK106, HB⟩ := n_; clear hb))
      go_roundg kj20
      case measure => have := HJ1.out; have := HK2.out; have := HJ20.out; omega
      case rel => exact ⟨(wrap64 (x23_2 + 1)), (x105000_2), (x105001_2), sr, H', ⟨by have := HJ1.out; have := HK2.out; have := HJ20.out; omega⟩, xb BK103, xb BK104, ⟨lb⟩⟩
     replace c52 := Bool.eq_false_iff.mpr c52; subst c52
     have H1 : (some (31, x23_2)) = some (r1, r2) := by rw [if_neg (show ¬ (false = true) by decide)] at H; exact H
     clear H; have H := H1; clear H1
     simp only [Option.some.injEq, Prod.mk.injEq] at H
     obtain ⟨rfl, rfl⟩ := H; have ⟨_, _⟩ := nn NB106_103; have ⟨_, _⟩ := nn NB106_104; have ⟨_, _, _, _, _, _, _, _⟩ := cf4 BK106
     go_wp2_with (first | ((with_reducible refine gate_callee (f := 94) rfl ?_); refine gl 55 Try.func94 #[.agg #[.int .i64 ((rd_T98 l0_1 x23_2).f0), .int .i64 ((rd_T98 l0_1 x23_2).f1), .int .i64 ((rd_T98 l0_1 x23_2).f2), .int .i64 ((rd_T98 l0_1 x23_2).f3)]] ?_; (with_reducible refine (graph_label.calls ((rd_T98 l0_1 x23_2).f0) ((rd_T98 l0_1 x23_2).f1) ((rd_T98 l0_1 x23_2).f2) ((rd_T98 l0_1 x23_2).f3) false _ A51.out).mono ?_); rintro e w60 ⟨rfl, hb⟩; refine ⟨_, rfl, ?_⟩; have n_ := a4 (bo BK103 hb) (bo BK104 hb) (bo BK106 hb) (bl hb); clear BK103 BK104 BK106 HB; obtain ⟨BK103, BK104, BK106, HB⟩ := n_; clear hb; have ⟨_, _⟩ := nn NB104_103; have ⟨_, _, _, _⟩ := cf2 BK104))
     refine bodyPost_ret (results_cell_row rfl _ _ gb104 131 #[.int .i64 31, .int .i64 x23_2] (0, 0) _ rfl (by (with_reducible repeat (first | refine blk_drewN ?_ _ | refine blk_drew ?_ | refine blk_alloc ?_ _)); refine blk_put (cs := #[.int .i64 31, .int .i64 x105001_2]) ?_ 1 _ rfl; (with_reducible repeat (first | refine blk_drewN ?_ _ | refine blk_drew ?_ | refine blk_alloc ?_ _)); refine blk_put (cs := #[.int .i64 x105000_2, .int .i64 x105001_2]) ?_ 0 _ rfl; exact bx BK104.out) Try.underlying131 rfl (by kernel_rfl)) rfl ?_
     exact ⟨er, lb⟩
end Go.Proofs.Ytkdoihcjhccliaa.Q
