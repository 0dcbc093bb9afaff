import Derived.Test.YtkdoihcjhccliaaQ0
import Derived.Test.YtkdoihcjhccliaaQ3
import Derived.Test.YtkdoihcjhccliaaQ4
namespace Go.Proofs.Ytkdoihcjhccliaa.Q
open Go.RowKit Go.Proofs.YtkdoihcjhccliaaW.PrintWords Go.Proofs.YtkdoihcjhccliaaW.PrintLast Go.Proofs.YtkdoihcjhccliaaW.PrintMore
attribute [local go_sem] dF dG eG eH cz cB dH dI   -- for this text's walks alone
set_option linter.unusedVariables false
set_option linter.unusedSimpArgs false

/-! ### dM: function 50 -/
def dM.f (k : Nat) (ay : Int) (ae : List (S98)) : Option (Int) := (bE.f k ay ae).bind fun M3 => (if M3.1 = 0 then (some 0) else (some M3.1))
set_option maxHeartbeats 8000000 in
set_option maxRecDepth 100000 in
theorem dM.calls (k : Nat) (ay : Int) (bX : Option Addr) (bN : Nat) (ae : List (S98)) (r : Int) (w : World) (dB : Kd.C k98 w bX ae.length ae) (dC : ae.length ≤ bN) (h : dM.f k ay ae = some r) :
    Calls Try.prog 50 #[.agg #[.int .i64 ay, .slice bX ae.length bN]] w fun e w' => oQ r (e = .returned (.tuple #[]) ∧ Below w.heap.size w w') (e = gave r ∧ Below w.heap.size w w') := by
 have hu24 := Try.underlying24; have hu131 := Try.underlying131; have bU := ak dB; have eU := ak dC; clear dB dC; have HB := ak (Below.refl w.heap.size w); have H : ((bE.f k ay ae).bind fun M3 => (if M3.1 = 0 then (some 0) else (some M3.1))) = some r := h; clear h; replace H := Option.bind_eq_some_iff.mp H; obtain ⟨⟨t109, t110⟩, A20, H⟩ := H; dsimp only at H; have A2 := ak A20; clear A20
 by_cases c3 : t109 = 0
 rotate_left
 ·
  rw [if_neg c3] at H; have c3b := bn2 c3; obtain rfl := Option.some.inj H
  go_enter Try.func50, Try.ntmps50
  go_wp2_with (first | ((with_reducible refine aC (N := 1) rfl ?_); refine bxe 1 #[.int .i64 ay, .slice bX ae.length bN] 24 ?_; intro gb108 hg w11 hbox hb; have n_ := a4 (bl hb) hbox (gw w hg) (gw w hg); clear HB; obtain ⟨HB, sI, GW108, GE108⟩ := n_; clear hb hbox hg; have ⟨_, _, _, _⟩ := cf2 sI) | ((with_reducible refine au (f := 87) rfl ?_); refine gl 4 Try.func87 #[.agg #[.int .i64 ay, .slice bX ae.length bN]] ?_; (with_reducible refine (bE.calls k ay _ _ ae t109 t110 _ (Kd.cZ bU.out lb) eU.out A2.out).mono ?_); rintro e w13 ⟨rfl, hb⟩; refine ⟨_, rfl, ?_⟩; have n_ := a2 (bo sI hb) (bl hb); clear sI HB; obtain ⟨sI, HB⟩ := n_; clear hb) | ((with_reducible refine aC (N := 2) rfl ?_); refine bxe 2 #[.int .i64 0, .int .i64 0] 131 ?_; intro gb111 hg w14 hbox hb; have n_ := a7 (bo sI hb) (bl hb) hbox (gw w hg) (gw w hg) (nl hg sI) (nr hg sI); clear sI HB; obtain ⟨sI, HB, VO, GW111, GE111, M4, Ae⟩ := n_; clear hb hbox hg; have ⟨_, _⟩ := nn Ae; have ⟨_, _, _, _⟩ := cf2 VO) | ((with_reducible refine au (f := 51) rfl ?_); refine pl 10 Try.func51 #[.bool false, .int .i64 t109] ?_; refine (aQ.bad t109 _).mono ?_; rintro e w' ⟨rfl, rfl⟩; refine ⟨_, rfl, ?_⟩; (repeat (first | refine fO ?_ | refine fu ?_)); exact fP rfl (oQ.no da ⟨rfl, lb⟩)))
 rw [if_pos c3] at H; have c3b := be2 c3; clear c3; have A4 := ak (show aQ.f true t109 = some () from rfl); obtain rfl := Option.some.inj H
 go_enter Try.func50, Try.ntmps50
 go_wp2_with (first | ((with_reducible refine aC (N := 1) rfl ?_); refine bxe 1 #[.int .i64 ay, .slice bX ae.length bN] 24 ?_; intro gb108 hg w5 hbox hb; have n_ := a4 (bl hb) hbox (gw w hg) (gw w hg); clear HB; obtain ⟨HB, sI, GW108, GE108⟩ := n_; clear hb hbox hg; have ⟨_, _, _, _⟩ := cf2 sI) | ((with_reducible refine au (f := 87) rfl ?_); refine gl 4 Try.func87 #[.agg #[.int .i64 ay, .slice bX ae.length bN]] ?_; (with_reducible refine (bE.calls k ay _ _ ae t109 t110 _ (Kd.cZ bU.out lb) eU.out A2.out).mono ?_); rintro e w7 ⟨rfl, hb⟩; refine ⟨_, rfl, ?_⟩; have n_ := a2 (bo sI hb) (bl hb); clear sI HB; obtain ⟨sI, HB⟩ := n_; clear hb) | ((with_reducible refine aC (N := 2) rfl ?_); refine bxe 2 #[.int .i64 0, .int .i64 0] 131 ?_; intro gb111 hg w8 hbox hb; have n_ := a7 (bo sI hb) (bl hb) hbox (gw w hg) (gw w hg) (nl hg sI) (nr hg sI); clear sI HB; obtain ⟨sI, HB, VO, GW111, GE111, M4, Ae⟩ := n_; clear hb hbox hg; have ⟨_, _⟩ := nn Ae; have ⟨_, _, _, _⟩ := cf2 VO) | ((with_reducible refine au (f := 51) rfl ?_); refine gl 10 Try.func51 #[.bool true, .int .i64 t109] ?_; (with_reducible refine (aQ.calls true t109  _ A4.out).mono ?_); rintro e w' ⟨rfl, ⟨nd, rfl⟩⟩; refine ⟨_, rfl, ?_⟩))
 first | go_end0 | ((try simp only [Exit.inBlock, Exit.then]); refine bodyPost_ret (results_none rfl _ _ _) rfl ?_)
 exact oQ.ok ⟨er, lb⟩
theorem dM.ok (k : Nat) (ay : Int) (bX : Option Addr) (bN : Nat) (ae : List (S98)) (w : World) (dB : Kd.C k98 w bX ae.length ae) (dC : ae.length ≤ bN) (h : dM.f k ay ae = some 0) :
    Calls Try.prog 50 #[.agg #[.int .i64 ay, .slice bX ae.length bN]] w fun e w' => e = .returned (.tuple #[]) ∧ Below w.heap.size w w' :=
 (dM.calls k ay bX bN ae 0 w dB dC h).mono fun e w' h_ => h_.good rfl
theorem dM.bad (k : Nat) (ay : Int) (bX : Option Addr) (bN : Nat) (ae : List (S98)) (r : Int) (w : World) (dB : Kd.C k98 w bX ae.length ae) (dC : ae.length ≤ bN) (h : dM.f k ay ae = some r) (hne_ : r ≠ 0) :
    Calls Try.prog 50 #[.agg #[.int .i64 ay, .slice bX ae.length bN]] w fun e w' => e = gave r ∧ Below w.heap.size w w' :=
 (dM.calls k ay bX bN ae r w dB dC h).mono fun e w' h_ => h_.bad hne_

end Go.Proofs.Ytkdoihcjhccliaa.Q
