import Derived.Test.YtkdoihcjhccliaaQ0
import Derived.Test.YtkdoihcjhccliaaQ3
import Derived.Test.YtkdoihcjhccliaaQ4
namespace Go.Proofs.Ytkdoihcjhccliaa.Q
open Go.RowKit Go.Proofs.YtkdoihcjhccliaaW.PrintWords Go.Proofs.YtkdoihcjhccliaaW.PrintLast Go.Proofs.YtkdoihcjhccliaaW.PrintMore
attribute [local go_sem] max2_int min2_int max_two min_two max_three min_three max_four min_four   -- for this text's walks alone
set_option linter.unusedVariables false
set_option linter.unusedSimpArgs false

/-! ### proof_right: function 50 -/
def proof_right.f (k : Nat) (a0_0 : Int) (l0_1 : List (S98)) : Option (Int) := (graph_Check.f k a0_0 l0_1).bind fun bt109 => (if bt109.1 = 0 then (some 0) else (some bt109.1))
set_option maxHeartbeats 8000000 in
set_option maxRecDepth 100000 in
theorem proof_right.calls (k : Nat) (a0_0 : Int) (A0_1 : Option Addr) (c0_1 : Nat) (l0_1 : List (S98)) (r : Int) (w : World) (hr0_1 : Kd.C k98 w A0_1 l0_1.length l0_1) (hc0_1 : l0_1.length ≤ c0_1) (h : proof_right.f k a0_0 l0_1 = some r) :
    Calls Try.prog 50 #[.agg #[.int .i64 a0_0, .slice A0_1 l0_1.length c0_1]] w fun e w' => Gave r (e = .returned (.tuple #[]) ∧ Below w.heap.size w w') (e = gave r ∧ Below w.heap.size w w') := by
 have hu24 := Try.underlying24; have hu131 := Try.underlying131; have HR0_1 := ak hr0_1; have HC0_1 := ak hc0_1; clear hr0_1 hc0_1; have HB := ak (Below.refl w.heap.size w); have H : ((graph_Check.f k a0_0 l0_1).bind fun bt109 => (if bt109.1 = 0 then (some 0) else (some bt109.1))) = some r := h; clear h; replace H := Option.bind_eq_some_iff.mp H; obtain ⟨⟨t109, t110⟩, A20, H⟩ := H; dsimp only at H; have A2 := ak A20; clear A20
 by_cases c3 : t109 = 0
 rotate_left
 ·
  rw [if_neg c3] at H; have c3b := bn2 c3; obtain rfl := Option.some.inj H
  go_enter Try.func50, Try.ntmps50
  go_wp2_with (first | ((with_reducible refine gate_dst (N := 1) rfl ?_); refine bxe 1 #[.int .i64 a0_0, .slice A0_1 l0_1.length c0_1] 24 ?_; intro gb108 hg w11 hbox hb; have n_ := a4 (bl hb) hbox (gw w hg) (gw w hg); clear HB; obtain ⟨HB, BK108, GW108, GE108⟩ := n_; clear hb hbox hg; have ⟨_, _, _, _⟩ := cf2 BK108) | ((with_reducible refine gate_callee (f := 87) rfl ?_); refine gl 4 Try.func87 #[.agg #[.int .i64 a0_0, .slice A0_1 l0_1.length c0_1]] ?_; (with_reducible refine (graph_Check.calls k a0_0 _ _ l0_1 t109 t110 _ (Kd.C_below HR0_1.out lb) HC0_1.out A2.out).mono ?_); rintro e w13 ⟨rfl, hb⟩; refine ⟨_, rfl, ?_⟩; have n_ := a2 (bo BK108 hb) (bl hb); clear BK108 HB; obtain ⟨BK108, HB⟩ := n_; clear hb) | ((with_reducible refine gate_dst (N := 2) rfl ?_); refine bxe 2 #[.int .i64 0, .int .i64 0] 131 ?_; intro gb111 hg w14 hbox hb; have n_ := a7 (bo BK108 hb) (bl hb) hbox (gw w hg) (gw w hg) (nl hg BK108) (nr hg BK108); clear BK108 HB; obtain ⟨BK108, HB, BK111, GW111, GE111, NB108_111, NB111_108⟩ := n_; clear hb hbox hg; have ⟨_, _⟩ := nn NB111_108; have ⟨_, _, _, _⟩ := cf2 BK111) | ((with_reducible refine gate_callee (f := 51) rfl ?_); refine pl 10 Try.func51 #[.bool false, .int .i64 t109] ?_; refine (proof_need.bad t109 _).mono ?_; rintro e w' ⟨rfl, rfl⟩; refine ⟨_, rfl, ?_⟩; (repeat (first | refine panic_then ?_ | refine panic_block ?_)); exact panic_body rfl (Gave.no da ⟨rfl, lb⟩)))
 rw [if_pos c3] at H; have c3b := be2 c3; clear c3; have A4 := ak (show proof_need.f true t109 = some () from rfl); obtain rfl := Option.some.inj H
 go_enter Try.func50, Try.ntmps50
 go_wp2_with (first | ((with_reducible refine gate_dst (N := 1) rfl ?_); refine bxe 1 #[.int .i64 a0_0, .slice A0_1 l0_1.length c0_1] 24 ?_; intro gb108 hg w5 hbox hb; have n_ := a4 (bl hb) hbox (gw w hg) (gw w hg); clear HB; obtain ⟨HB, BK108, GW108, GE108⟩ := n_; clear hb hbox hg; have ⟨_, _, _, _⟩ := cf2 BK108) | ((with_reducible refine gate_callee (f := 87) rfl ?_); refine gl 4 Try.func87 #[.agg #[.int .i64 a0_0, .slice A0_1 l0_1.length c0_1]] ?_; (with_reducible refine (graph_Check.calls k a0_0 _ _ l0_1 t109 t110 _ (Kd.C_below HR0_1.out lb) HC0_1.out A2.out).mono ?_); rintro e w7 ⟨rfl, hb⟩; refine ⟨_, rfl, ?_⟩; have n_ := a2 (bo BK108 hb) (bl hb); clear BK108 HB; obtain ⟨BK108, HB⟩ := n_; clear hb) | ((with_reducible refine gate_dst (N := 2) rfl ?_); refine bxe 2 #[.int .i64 0, .int .i64 0] 131 ?_; intro gb111 hg w8 hbox hb; have n_ := a7 (bo BK108 hb) (bl hb) hbox (gw w hg) (gw w hg) (nl hg BK108) (nr hg BK108); clear BK108 HB; obtain ⟨BK108, HB, BK111, GW111, GE111, NB108_111, NB111_108⟩ := n_; clear hb hbox hg; have ⟨_, _⟩ := nn NB111_108; have ⟨_, _, _, _⟩ := cf2 BK111) | ((with_reducible refine gate_callee (f := 51) rfl ?_); refine gl 10 Try.func51 #[.bool true, .int .i64 t109] ?_; (with_reducible refine (proof_need.calls true t109  _ A4.out).mono ?_); rintro e w' ⟨rfl, ⟨nd, rfl⟩⟩; refine ⟨_, rfl, ?_⟩))
 first | go_end0 | ((try simp only [Exit.inBlock, Exit.then]); refine bodyPost_ret (results_none rfl _ _ _) rfl ?_)
 exact Gave.ok ⟨er, lb⟩
theorem proof_right.ok (k : Nat) (a0_0 : Int) (A0_1 : Option Addr) (c0_1 : Nat) (l0_1 : List (S98)) (w : World) (hr0_1 : Kd.C k98 w A0_1 l0_1.length l0_1) (hc0_1 : l0_1.length ≤ c0_1) (h : proof_right.f k a0_0 l0_1 = some 0) :
    Calls Try.prog 50 #[.agg #[.int .i64 a0_0, .slice A0_1 l0_1.length c0_1]] w fun e w' => e = .returned (.tuple #[]) ∧ Below w.heap.size w w' :=
 (proof_right.calls k a0_0 A0_1 c0_1 l0_1 0 w hr0_1 hc0_1 h).mono fun e w' h_ => h_.good rfl
theorem proof_right.bad (k : Nat) (a0_0 : Int) (A0_1 : Option Addr) (c0_1 : Nat) (l0_1 : List (S98)) (r : Int) (w : World) (hr0_1 : Kd.C k98 w A0_1 l0_1.length l0_1) (hc0_1 : l0_1.length ≤ c0_1) (h : proof_right.f k a0_0 l0_1 = some r) (hne_ : r ≠ 0) :
    Calls Try.prog 50 #[.agg #[.int .i64 a0_0, .slice A0_1 l0_1.length c0_1]] w fun e w' => e = gave r ∧ Below w.heap.size w w' :=
 (proof_right.calls k a0_0 A0_1 c0_1 l0_1 r w hr0_1 hc0_1 h).mono fun e w' h_ => h_.bad hne_

end Go.Proofs.Ytkdoihcjhccliaa.Q
