import Derived.Test.YtkdoihcjhccliaaQ0
namespace Go.Proofs.Ytkdoihcjhccliaa.Q
open Go.RowKit Go.Proofs.YtkdoihcjhccliaaW.PrintWords Go.Proofs.YtkdoihcjhccliaaW.PrintLast Go.Proofs.YtkdoihcjhccliaaW.PrintMore
attribute [local go_sem] dF dG eG eH cz cB dH dI   -- for this text's walks alone
set_option linter.unusedVariables false
set_option linter.unusedSimpArgs false

/-! ### eT: function 80 -/
def eT.f (a0 : Int) : Option (Int) := if a0 < 0 then (some (IntKind.u64.wrap (-(IntKind.u64.wrap (a0))))) else (some (IntKind.u64.wrap (a0)))
set_option maxHeartbeats 8000000 in
set_option maxRecDepth 100000 in
theorem eT.calls (a0 : Int) (r : Int) (w : World) (h : eT.f a0 = some r) :
    Calls Try.prog 80 #[.int .i64 a0] w fun e w' => e = .returned (.int .u64 r) ∧ ll w w' := by
 have H : (if a0 < 0 then (some (IntKind.u64.wrap (-(IntKind.u64.wrap (a0))))) else (some (IntKind.u64.wrap (a0)))) = some r := h
 clear h
 by_cases c2 : a0 < 0
 ·
  rw [if_pos c2] at H
  have c2b0 := decide_eq_true c2
  clear c2
  obtain rfl := Option.some.inj H
  go_enter Try.func80, Try.ntmps80
  go_wp2
  go_ret
  exact ⟨by first | rfl | (simp; done) | (simp [*]; done), by repeat (first | exact ll.refl _ | apply ll.step)⟩
 rw [if_neg c2] at H
 have c2b0 := decide_eq_false c2
 clear c2
 obtain rfl := Option.some.inj H
 go_enter Try.func80, Try.ntmps80
 go_wp2
 go_ret
 exact ⟨by first | rfl | (simp; done) | (simp [*]; done), by repeat (first | exact ll.refl _ | apply ll.step)⟩

/-! ### ib: function 41 -/
def ib.l0 : Nat → Int → Int → Option (Int)
  | 0, _, _ => none
  | k + 1, x5, x6 => if x6 = 0 then (some x5) else (ib.l0 k x6 (Int.tmod x5 x6))
def ib.f (k : Nat) (a0 : Int) (a1 : Int) : Option (Int) := (eT.f a0).bind fun Si => ((eT.f a1).bind fun OG => (ib.l0 k Si OG))
set_option maxHeartbeats 8000000 in
set_option maxRecDepth 100000 in
theorem ib.calls (k : Nat) (a0 : Int) (a1 : Int) (r : Int) (w : World) (h : ib.f k a0 a1 = some r) :
    Calls Try.prog 41 #[.int .i64 a0, .int .i64 a1] w fun e w' => e = .returned (.int .u64 r) ∧ ll w w' := by
 have H : ((eT.f a0).bind fun Si => ((eT.f a1).bind fun OG => (ib.l0 k Si OG))) = some r := h
 clear h
 replace H := Option.bind_eq_some_iff.mp H
 obtain ⟨Si, A30, H⟩ := H
 replace H : ((eT.f a1).bind fun OG => (ib.l0 k Si OG)) = some r := H
 have A3 := ak A30
 clear A30
 replace H := Option.bind_eq_some_iff.mp H
 obtain ⟨OG, A40, H⟩ := H
 replace H : (ib.l0 k Si OG) = some r := H
 have A4 := ak A40
 clear A40
 have H' := ak H
 clear H
 go_enter Try.func41, Try.ntmps41
 go_wp2_with (first | (go_at_call 80; (with_reducible refine (eT.calls a0 Si _ A3.out).mono ?_); rintro e w' ⟨rfl, ⟨nd, rfl⟩⟩; (try first | exact ⟨rfl, _, World.drewN_drewN _ _ _⟩ | exact ⟨rfl, _, Eq.trans (World.drewN_drewN _ _ _) (congrArg (World.drewN _) (Nat.add_assoc _ _ _))⟩)) | (go_at_call 80; (with_reducible refine (eT.calls a1 OG _ A4.out).mono ?_); rintro e w' ⟨rfl, ⟨nd, rfl⟩⟩; (try first | exact ⟨rfl, _, World.drewN_drewN _ _ _⟩ | exact ⟨rfl, _, Eq.trans (World.drewN_drewN _ _ _) (congrArg (World.drewN _) (Nat.add_assoc _ _ _))⟩)))
 repeat (go_quiet (first | (go_at_call 80; (with_reducible refine (eT.calls a0 Si _ A3.out).mono ?_); rintro e w' ⟨rfl, ⟨nd, rfl⟩⟩; (try first | exact ⟨rfl, _, World.drewN_drewN _ _ _⟩ | exact ⟨rfl, _, Eq.trans (World.drewN_drewN _ _ _) (congrArg (World.drewN _) (Nat.add_assoc _ _ _))⟩)) | (go_at_call 80; (with_reducible refine (eT.calls a1 OG _ A4.out).mono ?_); rintro e w' ⟨rfl, ⟨nd, rfl⟩⟩; (try first | exact ⟨rfl, _, World.drewN_drewN _ _ _⟩ | exact ⟨rfl, _, Eq.trans (World.drewN_drewN _ _ _) (congrArg (World.drewN _) (Nat.add_assoc _ _ _))⟩))); try go_wp2_with (first | (go_at_call 80; (with_reducible refine (eT.calls a0 Si _ A3.out).mono ?_); rintro e w' ⟨rfl, ⟨nd, rfl⟩⟩; (try first | exact ⟨rfl, _, World.drewN_drewN _ _ _⟩ | exact ⟨rfl, _, Eq.trans (World.drewN_drewN _ _ _) (congrArg (World.drewN _) (Nat.add_assoc _ _ _))⟩)) | (go_at_call 80; (with_reducible refine (eT.calls a1 OG _ A4.out).mono ?_); rintro e w' ⟨rfl, ⟨nd, rfl⟩⟩; (try first | exact ⟨rfl, _, World.drewN_drewN _ _ _⟩ | exact ⟨rfl, _, Eq.trans (World.drewN_drewN _ _ _) (congrArg (World.drewN _) (Nat.add_assoc _ _ _))⟩))))
 go_loopg [5, 6] k (fun kq v5 v6 w' => ∃ (bV : Int) (eD : Int), v5 = .int .u64 bV ∧ v6 = .int .u64 eD ∧ ag (ib.l0 kq bV eD = some r) ∧ ag (kq ≤ k) ∧ ll w w')
 case atStart => exact ⟨(Si), (OG), sr, sr, H', ⟨Nat.le_refl _⟩, by repeat (first | exact ll.refl _ | apply ll.step)⟩
 clear H'
 try clear p2; try clear c4
 obtain ⟨bV, eD, rfl, rfl, HA, HK1, ⟨m1, rfl⟩⟩ := hrel
 cases gk with
 | zero => exact absurd HA.out (by simp [ib.l0])
 | succ k1 => ?_
 have H := HA.out
 clear HA
 simp only [ib.l0] at H
 by_cases c5 : eD = 0
 ·
  rw [if_pos c5] at H
  have c5b0 := be c5
  have c5b1 : (eD != 0) = false := bne_eq_false_iff_eq.mpr c5
  clear c5
  obtain rfl := Option.some.inj H
  go_wp2
  repeat (go_quiet (fail); try go_wp2)
  go_ret
  exact ⟨by first | rfl | (simp; done) | (simp [*]; done), by repeat (first | exact ll.refl _ | apply ll.step)⟩
 rw [if_neg c5] at H
 have c5b0 := bn c5
 have c5b1 : (eD != 0) = true := bne_iff_ne.mpr c5
 have H' := ak H
 clear H
 go_wp2
 repeat (go_quiet (fail); try go_wp2)
 go_roundg k1
 case measure => have := HK1.out; omega
 case rel => exact ⟨(eD), (Int.tmod bV eD), sr, sr, H', ⟨by have := HK1.out; omega⟩, by repeat (first | exact ll.refl _ | apply ll.step)⟩
end Go.Proofs.Ytkdoihcjhccliaa.Q
