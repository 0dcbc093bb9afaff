/- A tour that is told is taken by Covers; it shows that each node has as many edges into it as out of it (or an even number); and where none is told, the named node shows why: at every graph, directed or not. -/
import Derived.Test.YtplbkggdnonfbaaQ14
import Derived.Test.YtplbkggdnonfbaaQ27
import Derived.KernelRfl
import Derived.Test.YtplbkggdnonfbaaEven
namespace Go.Proofs.Ytplbkggdnonfbaa.Pure
open Go.RowKit Go.Proofs.Ytplbkggdnonfbaa.Q Go.Proofs.Ytplbkggdnonfbaa.G Go.Proofs.YtplbkggdnonfbaaW.PrintWords Go.Proofs.YtplbkggdnonfbaaW.PrintLast
set_option linter.unusedVariables false

theorem awake_f : Evl (fun k => compasslaw09_awake.f k) true := Evl.mono (k0 := 100) (by kernel_rfl) (fun k => compasslaw09_awake.mono k)

theorem even_l0 (n : Int) (E : List S45) (hR : Right n E) (d : Bool) (v e : Int) (h : (e = 0 ∧ ∀ u, 0 ≤ u → u < n → ¬ Odd E d u) ∨ (e = 90 ∧ 0 ≤ v ∧ v < n ∧ Odd E d v ∧ ∀ u, 0 ≤ u → u < v → ¬ Odd E d u)) (q : Nat) : ∀ u : Int, 0 ≤ u → u + q = n → (e = 90 → u ≤ v) →
    Evl (fun k => compasslaw09_EulerEven.l0 k d v e u n E) true := by
  have n1 := hR.n1
  have m1 := hR.m1
  induction q with
  | zero =>
    intro u u0 hu hv
    rcases h with ⟨rfl, -⟩ | ⟨rfl, v0, v1, -, -⟩
    · exact Evl.here fun k => by rw [compasslaw09_EulerEven.l0, if_neg (by omega)]; rfl
    · have := hv rfl; omega
  | succ q ih =>
    intro u u0 hu hv
    have D := degrees_f n E m1 u
    have bo := po_le E E.length u
    have bi := pi_le E E.length u
    have eo : dout E u = po E E.length u := rfl
    have ei : din E u = pi E E.length u := rfl
    have ws : wrap64 ((dout E u : Int) + (din E u : Int)) = (dout E u : Int) + (din E u : Int) := by unfold wrap64; omega
    have wu := w1 (i := u) (by omega) (by omega)
    by_cases o : Odd E d u
    · have : e = 90 ∧ v = u := by
        rcases h with ⟨-, hn⟩ | ⟨rfl, v0, v1, -, hl⟩
        · exact absurd o (hn u u0 (by omega))
        · refine ⟨rfl, ?_⟩
          have h1 := hv rfl
          by_cases hlt : u < v
          · exact absurd o (hl u u0 hlt)
          · omega
      obtain ⟨rfl, rfl⟩ := this
      refine (Evl.bind D (h := fun k bt457 => (if d = true then (if bt457.1 = bt457.2 then (compasslaw09_EulerEven.l0 k d v 90 (wrap64 (v + 1)) n E) else (if (90 : Int) = 90 then (some (v == v)) else (some false))) else (if (Int.tmod (wrap64 (bt457.1 + bt457.2)) 2) = 1 then (if (90 : Int) = 90 then (some (v == v)) else (some false)) else (compasslaw09_EulerEven.l0 k d v 90 (wrap64 (v + 1)) n E)))) (r := true) (Evl.pure.congr fun k => ?_)).step fun k => by rw [compasslaw09_EulerEven.l0, if_pos (by omega)]
      dsimp only
      unfold Odd at o
      by_cases hd : d = true
      · rw [if_pos hd] at o ⊢
        rw [if_neg (by omega), if_pos rfl]; simp
      · rw [if_neg hd] at o ⊢
        rw [ws, Int.tmod_eq_emod_of_nonneg (by omega), if_pos (by omega), if_pos rfl]; simp
    · have H := ih (u + 1) (by omega) (by omega) (fun he => by
        have := hv he
        by_cases q' : u = v
        · rcases h with ⟨h0, -⟩ | ⟨-, -, -, ov, -⟩
          · omega
          · rw [q'] at o; exact absurd ov o
        · omega)
      refine (Evl.bind D (h := fun k bt457 => (if d = true then (if bt457.1 = bt457.2 then (compasslaw09_EulerEven.l0 k d v e (wrap64 (u + 1)) n E) else (if e = 90 then (some (v == u)) else (some false))) else (if (Int.tmod (wrap64 (bt457.1 + bt457.2)) 2) = 1 then (if e = 90 then (some (v == u)) else (some false)) else (compasslaw09_EulerEven.l0 k d v e (wrap64 (u + 1)) n E)))) (r := true) (H.congr fun k => ?_)).step fun k => by rw [compasslaw09_EulerEven.l0, if_pos (by omega)]
      dsimp only
      unfold Odd at o
      by_cases hd : d = true
      · rw [if_pos hd] at o ⊢
        rw [if_pos (by omega), wu]
      · rw [if_neg hd] at o ⊢
        rw [ws, Int.tmod_eq_emod_of_nonneg (by omega), if_neg (by omega), wu]

theorem EulerEven (n : Int) (E : List S45) (d : Bool) : ∃ k, compasslaw09_EulerEven.f k n E d = some true := by
  obtain ⟨s, l, v, c, T, h⟩ := tour_f n E d
  refine Evl.at (r := true) (g := fun k => compasslaw09_EulerEven.f k n E d) ?_
  have top : ∀ b : Bool, (if c = 0 then b = false else if c = 90 then b = false else b = (c != 91)) → Evl (fun k => compasslaw09_EulerEven.j0 k d v c b n E s l) true → Evl (fun k => compasslaw09_EulerEven.f k n E d) true := fun b hb H => by
    refine (Evl.bind awake_f (h := fun k t446 => (if t446 = true then ((euler_Tour.f k n E d).bind fun bt447 => (if bt447.2.2.2 = 0 then (compasslaw09_EulerEven.j0 k d bt447.2.2.1 bt447.2.2.2 false n E bt447.1 bt447.2.1) else (if bt447.2.2.2 = 90 then (compasslaw09_EulerEven.j0 k d bt447.2.2.1 bt447.2.2.2 false n E bt447.1 bt447.2.1) else (compasslaw09_EulerEven.j0 k d bt447.2.2.1 bt447.2.2.2 (bt447.2.2.2 != 91) n E bt447.1 bt447.2.1)))) else (some false))) ?_).congr fun k => rfl
    refine Evl.congr (Evl.bind T (h := fun k bt447 => (if bt447.2.2.2 = 0 then (compasslaw09_EulerEven.j0 k d bt447.2.2.1 bt447.2.2.2 false n E bt447.1 bt447.2.1) else (if bt447.2.2.2 = 90 then (compasslaw09_EulerEven.j0 k d bt447.2.2.1 bt447.2.2.2 false n E bt447.1 bt447.2.1) else (compasslaw09_EulerEven.j0 k d bt447.2.2.1 bt447.2.2.2 (bt447.2.2.2 != 91) n E bt447.1 bt447.2.1)))) (r := true) (H.congr fun k => ?_)) (fun k => by rw [if_pos rfl])
    dsimp only
    by_cases c0 : c = 0
    · rw [if_pos c0] at hb ⊢; rw [hb]
    · rw [if_neg c0] at hb ⊢
      by_cases c1 : c = 90
      · rw [if_pos c1] at hb ⊢; rw [hb]
      · rw [if_neg c1] at hb ⊢; rw [hb]
  rcases h with ⟨-, c0, c1, c2, rfl, rfl, rfl, -⟩ | ⟨hR, rfl, rfl, rfl, v0, v1, ov, lv⟩ | ⟨hR, rfl, rfl, rfl, v0, v1, hv, hn, -⟩ | ⟨hR, rfl, rfl, hg, hn, -⟩
  · refine top true (by rw [if_neg c0, if_neg c1]; simp [c2]) (Evl.here fun k => ?_)
    rw [compasslaw09_EulerEven.j0, if_pos rfl]; rfl
  · have H := even_l0 n E hR d v 90 (Or.inr ⟨rfl, v0, v1, ov, lv⟩) n.toNat 0 (Int.le_refl 0) (by have := hR.n0; omega) (fun _ => v0)
    refine top false (by rw [if_neg (by decide), if_pos rfl]) ?_
    refine Evl.step (h := fun k => compasslaw09_EulerEven.j1 k d v 90 false n E 0 []) ?_ (fun k => by rw [compasslaw09_EulerEven.j0, if_neg (by simp), if_neg (by decide)])
    exact H.step fun k => by rw [compasslaw09_EulerEven.j1, if_neg (by simp), if_neg (by decide)]
  · have m1 := hR.m1
    have D := degrees_f n E m1 v
    have pos : 0 < dout E v + din E v := by
      obtain ⟨i, i0, i1, h⟩ := hv
      rcases h with h | h
      · have : 0 < dout E v := List.countP_pos_iff.mpr ⟨i, (mem_rng _ _).mpr ⟨i0, i1⟩, by simpa using h⟩
        omega
      · have : 0 < din E v := List.countP_pos_iff.mpr ⟨i, (mem_rng _ _).mpr ⟨i0, i1⟩, by simpa using h⟩
        omega
    have bo := po_le E E.length v
    have bi := pi_le E E.length v
    have eo : dout E v = po E E.length v := rfl
    have ei : din E v = pi E E.length v := rfl
    have ws : wrap64 ((dout E v : Int) + (din E v : Int)) = (dout E v : Int) + (din E v : Int) := by unfold wrap64; omega
    refine top false (by rw [if_neg (by decide), if_neg (by decide)]; rfl) ?_
    refine Evl.step (h := fun k => compasslaw09_EulerEven.j1 k d v 91 false n E 0 []) ?_ (fun k => by rw [compasslaw09_EulerEven.j0, if_neg (by simp), if_neg (by decide)])
    refine (Evl.bind D (h := fun k bt455 => (if (wrap64 (bt455.1 + bt455.2)) > 0 then (some (((([] : List S51).length : Nat) : Int) == 0)) else (some false))) (r := true) (Evl.pure.congr fun k => ?_)).step fun k => by rw [compasslaw09_EulerEven.j1, if_neg (by simp), if_pos rfl]
    dsimp only
    rw [ws, if_pos (by omega)]; rfl
  · have H := even_l0 n E hR d 0 0 (Or.inl ⟨rfl, hn⟩) n.toNat 0 (Int.le_refl 0) (by have := hR.n0; omega) (fun h => by omega)
    have J : Evl (fun k => compasslaw09_EulerEven.j1 k d 0 0 false n E s l) true := H.step fun k => by rw [compasslaw09_EulerEven.j1, if_neg (by simp), if_neg (by decide)]
    refine top false (by rw [if_pos rfl]) ?_
    by_cases hp : n > 0
    · have C := covers_true n E hR d d s l (hg hp) id
      refine (Evl.bind C (h := fun k t454 => compasslaw09_EulerEven.j1 k d 0 0 (!t454) n E s l) J).step fun k => by rw [compasslaw09_EulerEven.j0, if_neg (by simp), if_pos rfl, if_pos hp]
    · exact J.step fun k => by rw [compasslaw09_EulerEven.j0, if_neg (by simp), if_pos rfl, if_neg hp]
end Go.Proofs.Ytplbkggdnonfbaa.Pure
