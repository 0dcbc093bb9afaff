/- What is admitted is exact, within the bound, by the greatest scale: at all rows of labels. -/
import Derived.Test.YtdkhaibibpekoaaDoorQ10
import Derived.Test.YtdkhaibibpekoaaDoorQ6
import Derived.Test.YtdkhaibibpekoaaDoorQ9
import Derived.KernelRfl
import Derived.Test.YtdkhaibibpekoaaDoorPureScaleAdmits
namespace Go.Flt
set_option linter.unusedVariables false
/-- Rounded with nothing left over: what is nearest. -/
theorem nr_nearest (s : Bool) (N : Nat) (e : Int) (h0 : 0 < N) (h1 : N < 18446744073709551616) : nr s N e false = Ieee.double.nearest s N e := by
  obtain ⟨b0, b1, b2, b3⟩ := bitLen_bounds N h0 h1
  unfold nr
  by_cases p : 0 < max ((Lib.bitLen N : Int) - 53) (-1074 - e)
  · rw [if_pos p, nearest_rn s N e h0]
    have lg : N.log2 = Lib.bitLen N - 1 := (Nat.log2_eq_iff (by omega)).2 ⟨b2, by rw [show Lib.bitLen N - 1 + 1 = Lib.bitLen N by omega]; exact b3⟩
    obtain ⟨c, hc⟩ := Int.eq_ofNat_of_zero_le (Int.le_of_lt p)
    have last : max (e + (N.log2 : Int) - 52) (-1074) = e + (c : Int) := by rw [lg]; omega
    rw [hc, Int.toNat_natCast, last, rm_false]
    unfold wd rn
    rw [show (e - (e + (c : Int))).toNat = 0 by omega, show (e + (c : Int) - e).toNat = c by omega, Nat.pow_zero, Nat.mul_one, Nat.one_mul]
  · rw [if_neg p]
end Go.Flt
namespace Go.Proofs.YtdkhaibibpekoaaDoor.Pure
open Go.RowKit Go.Flt Go.Proofs.YtdkhaibibpekoaaDoor.Q Go.Proofs.YtdkhaibibpekoaaDoorW.PrintWords Go.Proofs.YtdkhaibibpekoaaDoorW.PrintLast Go.Proofs.YtdkhaibibpekoaaDoorW.PrintMore
set_option linter.unusedVariables false
theorem and_one (x : Int) : Go.bits .and .i64 x 1 = x % 2 := by
  show IntKind.i64.wrap ((BitVec.ofInt 64 x &&& BitVec.ofInt 64 1).toNat : Int) = _
  rw [BitVec.toNat_and, show (BitVec.ofInt 64 1).toNat = 1 by decide, Nat.and_one_is_mod, BitVec.toNat_ofInt, IntKind.wrap_i64]
  omega
theorem mn_mx (e : Int) (h0 : -1400 ≤ e) (h1 : e ≤ 1400) : mn (mx e (-1400)) 1400 = e := by
  unfold mn mx
  split <;> split <;> omega
theorem back_f (s : Bool) (G : Nat) (e : Int) (h0 : 0 < G) (h1 : G ≤ 9007199254740992) (e0 : -1400 ≤ e) (e1 : e ≤ 1400) : Evl (fun k => scale_Back.f k (sv s G) e) (Ieee.double.nearest s G e) := by
  have sc := sv_cases s G
  have na : (sv s G).natAbs = G := by omega
  have ng : decide (sv s G < 0) = s := by
    cases s
    · exact decide_eq_false (by show ¬ (G : Int) < 0; omega)
    · exact decide_eq_true (by show -(G : Int) < 0; omega)
  refine ⟨3, fun k hk => ?_⟩
  obtain ⟨m, rfl⟩ : ∃ m, k = m + 3 := ⟨k - 3, by omega⟩
  show scale_Back.f (m + 3) _ e = _
  unfold scale_Back.f
  rw [size_f (sv s G) (by omega) (by omega), Option.bind_some, mn_mx e e0 e1, na, ng, rounded_f m _ _ _ _ h0 (by omega) (by omega) (by omega), Option.bind_some, nr_nearest _ _ _ h0 (by omega)]
theorem back_zero (k : Nat) (e : Int) : scale_Back.f k 0 e = some 0 := by
  unfold scale_Back.f
  rw [size_f 0 (by decide) (by decide), Option.bind_some]
  unfold scale_rounded.f
  rw [if_pos (by rfl), Option.bind_some]
theorem order_self (b : Nat) (hb : b < 18446744073709551616) (hf : rg b ≤ 9218868437227405312) : (FloatKind.f64.format.order b b != some .eq) = false := by
  have o := order_word (ng b) (ng b) (rg b) (rg b) hf hf
  rw [word_of b hb] at o
  rw [o]
  unfold co
  rw [if_neg (by omega), if_pos rfl]; rfl
theorem rd_map (V : Nat → Int) (n i : Nat) (h : i < n) : rd ((List.range n).map V) (i : Int) = V i := by
  unfold rd
  rw [Int.toNat_natCast, List.getD_eq_getElem?_getD, List.getElem?_map, List.getElem?_range h]
  rfl
section
variable {X : List Nat} {M : Nat → Nat} {D : Nat → Int} {mo : Nat}
/-- Each is the label again. -/
theorem each (L : Labs X M D) (hx : ∀ i, i < X.length → at_ X i < 18446744073709551616) (h1 : 1 ≤ mo) (h2 : mo ≤ 9007199254740992) (all : ∀ i, i < X.length → gr M D mo (st M D X.length).1 i ≤ mo) (i : Nat) (hi : i < X.length) :
    ∃ W, Evl (fun k => scale_Back.f k (vl X M D mo (st M D X.length).1 i) (st M D X.length).1) W ∧ (FloatKind.f64.format.order W (at_ X i) != some .eq) = false := by
  obtain ⟨s1, s2, s3, s4, s5⟩ := st_lo L X.length (Nat.le_refl _)
  have l := L.lab i hi
  by_cases z : M i = 0
  · have g0 : gr M D mo (st M D X.length).1 i = 0 := by unfold gr; rw [z, grow_zero]
    have v0 : vl X M D mo (st M D X.length).1 i = 0 := by unfold vl; rw [g0]; have := sv_cases (ng (at_ X i)) 0; omega
    rw [v0]
    refine ⟨0, Evl.pure.congr fun k => back_zero k _, ?_⟩
    have lv := l.val
    rw [z, nearest_zero] at lv
    rw [lv]
    have o := order_word false (ng (at_ X i)) 0 0 (by decide) (by decide)
    have zz : (0 : Nat) = Ieee.double.word false 0 := rfl
    rw [show FloatKind.f64.format.order 0 (Ieee.double.word (ng (at_ X i)) 0) = some (co (sv false 0) (sv (ng (at_ X i)) 0)) from o]
    cases ng (at_ X i) <;> decide
  · have le := (s1 i hi z).2
    have e1 := l.e1
    have g : gr M D mo (st M D X.length).1 i = M i * 2 ^ (D i - (st M D X.length).1).toNat := by
      have := all i hi
      unfold gr at this ⊢
      rcases grow_or mo (D i - (st M D X.length).1).toNat (M i) with h | h
      · omega
      · exact h
    have gp : 0 < gr M D mo (st M D X.length).1 i := by rw [g]; exact Nat.mul_pos (by omega) (Nat.two_pow_pos _)
    have gl := all i hi
    refine ⟨at_ X i, ?_, order_self _ (hx i hi) ?_⟩
    · have bf := back_f (ng (at_ X i)) (gr M D mo (st M D X.length).1 i) (st M D X.length).1 gp (by omega) (by omega) (by omega)
      have e : Ieee.double.nearest (ng (at_ X i)) (gr M D mo (st M D X.length).1 i) (st M D X.length).1 = at_ X i := by
        have lv := l.val
        have := nearest_shift (ng (at_ X i)) (M i) (D i - (st M D X.length).1).toNat (D i)
        rw [← g, show D i - ((D i - (st M D X.length).1).toNat : Int) = (st M D X.length).1 by omega] at this
        rw [this]; exact lv.symm
      rw [e] at bf
      exact bf
    · have lv := l.val
      have m1 := l.m1
      rw [nearest_rn _ _ _ (by omega)] at lv
      generalize (max (D i + ((M i).log2 : Int) - 52) (-1074) + 1074).toNat * 4503599627370496 + rn (M i) 1 (D i) (max (D i + ((M i).log2 : Int) - 52) (-1074)) = r at lv
      have := (word_parts (ng (at_ X i)) (min r 9218868437227405312) (Nat.min_le_right _ _)).2
      rw [← lv] at this
      rw [this]; exact Nat.min_le_right _ _
def od (V : Nat → Int) (i : Nat) : Bool := (List.range i).any fun j => V j % 2 == 1
def nz (V : Nat → Int) (i : Nat) : Bool := (List.range i).any fun j => V j != 0
theorem od_succ (V : Nat → Int) (i : Nat) : od V (i + 1) = (od V i || (V i % 2 == 1)) := by
  unfold od; rw [List.range_succ, List.any_append]; simp
theorem nz_succ (V : Nat → Int) (i : Nat) : nz V (i + 1) = (nz V i || (V i != 0)) := by
  unfold nz; rw [List.range_succ, List.any_append]; simp
theorem exact_loop (L : Labs X M D) (hx : ∀ i, i < X.length → at_ X i < 18446744073709551616) (h1 : 1 ≤ mo) (h2 : mo ≤ 9007199254740992) (all : ∀ i, i < X.length → gr M D mo (st M D X.length).1 i ≤ mo) :
    ∀ (d i : Nat), i + d = X.length → Evl (fun k => compasslaw02_ScaleExact.l0 k (mo : Int) X ((List.range X.length).map (vl X M D mo (st M D X.length).1)) (st M D X.length).1 (od (vl X M D mo (st M D X.length).1) i) (nz (vl X M D mo (st M D X.length).1) i) ((List.range X.length).map (vl X M D mo (st M D X.length).1)) (X.length : Int) (i : Int)) true := by
  obtain ⟨s1, s2, s3, s4, s5⟩ := st_lo L X.length (Nat.le_refl _)
  have ln := L.len
  have lv : ((List.range X.length).map (vl X M D mo (st M D X.length).1)).length = X.length := by rw [List.length_map, List.length_range]
  intro d
  induction d with
  | zero =>
    intro i hi
    obtain rfl : i = X.length := by omega
    have eq : od (vl X M D mo (st M D X.length).1) X.length = nz (vl X M D mo (st M D X.length).1) X.length := by
      by_cases y : (st M D X.length).2 = true
      · obtain ⟨i, hi, hm, hd⟩ := s5 y
        have l := L.lab i hi
        have g : gr M D mo (st M D X.length).1 i = M i := by unfold gr; rw [hd, Int.sub_self]; rfl
        have vo : vl X M D mo (st M D X.length).1 i % 2 = 1 := by
          unfold vl
          rw [g]
          have := l.odd hm
          rcases sv_cases (ng (at_ X i)) (M i) with e | e <;> rw [e] <;> omega
        have a : od (vl X M D mo (st M D X.length).1) X.length = true := List.any_eq_true.2 ⟨i, List.mem_range.2 hi, by rw [vo]; rfl⟩
        have b : nz (vl X M D mo (st M D X.length).1) X.length = true := List.any_eq_true.2 ⟨i, List.mem_range.2 hi, bne_iff_ne.2 (by omega)⟩
        rw [a, b]
      · have zero : ∀ i, i < X.length → vl X M D mo (st M D X.length).1 i = 0 := fun i hi => by
          have z : M i = 0 := by
            by_cases c : M i = 0
            · exact c
            · exact absurd (s1 i hi c).1 y
          unfold vl gr
          rw [z, grow_zero]
          have := sv_cases (ng (at_ X i)) 0; omega
        have a : od (vl X M D mo (st M D X.length).1) X.length = false := List.any_eq_false.2 fun i hi => by rw [zero i (List.mem_range.1 hi)]; decide
        have b : nz (vl X M D mo (st M D X.length).1) X.length = false := List.any_eq_false.2 fun i hi => by rw [zero i (List.mem_range.1 hi)]; decide
        rw [a, b]
    refine Evl.here fun k => ?_
    rw [compasslaw02_ScaleExact.l0, if_neg (by omega), if_pos (by omega), eq, if_pos (beq_self_eq_true _)]
    by_cases n : nz (vl X M D mo (st M D X.length).1) X.length = true
    · rw [if_pos n]
    · rw [if_neg n]
      have y : (st M D X.length).2 = false := by
        by_cases y : (st M D X.length).2 = true
        · obtain ⟨i, hi, hm, hd⟩ := s5 y
          have l := L.lab i hi
          have g : gr M D mo (st M D X.length).1 i = M i := by unfold gr; rw [hd, Int.sub_self]; rfl
          have nv : vl X M D mo (st M D X.length).1 i ≠ 0 := by
            unfold vl
            rw [g]
            have := sv_cases (ng (at_ X i)) (M i)
            omega
          have b : nz (vl X M D mo (st M D X.length).1) X.length = true := List.any_eq_true.2 ⟨i, List.mem_range.2 hi, bne_iff_ne.2 nv⟩
          exact absurd b n
        · simpa using y
      rw [s2 y]; rfl
  | succ d ih =>
    intro i hi
    obtain ⟨W, ⟨K, hK⟩, ho⟩ := each L hx h1 h2 all i (by omega)
    obtain ⟨K2, hk2⟩ := ih (i + 1) (by omega)
    refine ⟨K + K2 + 1, fun k hk => ?_⟩
    obtain ⟨m, rfl⟩ : ∃ m, k = m + 1 := ⟨k - 1, by omega⟩
    have bk : scale_Back.f m _ _ = some W := hK m (by omega)
    have nk : compasslaw02_ScaleExact.l0 m _ _ _ _ _ _ _ _ _ = some true := hk2 m (by omega)
    rw [od_succ, nz_succ] at nk
    have sc := sv_cases (ng (at_ X i)) (gr M D mo (st M D X.length).1 i)
    have gl := all i (by omega)
    show compasslaw02_ScaleExact.l0 (m + 1) _ _ _ _ _ _ _ _ _ = _
    rw [compasslaw02_ScaleExact.l0, if_pos (by omega), if_pos (by omega), if_pos (by omega), rd_map _ _ i (by omega), rdOf_at]
    have vd : vl X M D mo (st M D X.length).1 i = sv (ng (at_ X i)) (gr M D mo (st M D X.length).1 i) := rfl
    rw [if_neg (by rw [vd]; omega), w64 (a := -(vl X M D mo (st M D X.length).1 i)) (by rw [vd]; omega) (by rw [vd]; omega), if_neg (by rw [vd]; omega), bk, Option.bind_some, if_pos (by omega), ho, if_neg (by decide), wi i (by omega), and_one]
    cases o : od (vl X M D mo (st M D X.length).1) i <;> cases n : nz (vl X M D mo (st M D X.length).1) i <;> rw [o, n] at nk <;> simp only [Bool.false_or, Bool.true_or] at nk
    · rw [if_neg (by decide), if_neg (by decide)]; exact nk
    · rw [if_neg (by decide), if_pos rfl]; exact nk
    · rw [if_pos rfl, if_neg (by decide)]; exact nk
    · rw [if_pos rfl, if_pos rfl]; exact nk
end
theorem ScaleExact : compasslaw02_ScaleExact.Pure := by
  intro l most hm h8 hw hw1
  obtain ⟨X, rfl, hx⟩ := unlift l hw
  rw [lift_len] at h8
  obtain ⟨res, adm, ⟨K1, q1⟩, -⟩ := admit_both X most hx (by omega)
  obtain ⟨K3, q3⟩ := floats_f X (by omega)
  have body : ∃ K, ∀ k, K ≤ k → (if res.2.2.1 = 0 then (compasslaw02_ScaleExact.l0 k most X res.1 res.2.1 false false res.1 (res.1.length : Int) 0) else (if (res.1.length : Int) = 0 then (if res.2.1 = 0 then (some (decide (res.2.2.2 ≥ 0))) else (some false)) else (some false))) = some true := by
    cases adm with
    | range _ e =>
      subst e
      refine ⟨0, fun k _ => ?_⟩
      dsimp only
      rw [if_neg (by decide), if_pos (by rfl), if_pos rfl]
      rfl
    | bad j c hj hc e =>
      subst e
      refine ⟨0, fun k _ => ?_⟩
      dsimp only
      rw [if_neg (by omega), if_pos (by rfl), if_pos rfl, decide_eq_true (by omega)]
    | wide j hj e =>
      subst e
      refine ⟨0, fun k _ => ?_⟩
      dsimp only
      rw [if_neg (by omega), if_pos (by rfl), if_pos rfl, decide_eq_true (by omega)]
    | good M D mo L h1 h2 em all e =>
      subst e; subst em
      obtain ⟨K, hK⟩ := exact_loop L hx h1 h2 all X.length 0 (by omega)
      refine ⟨K, fun k hk => ?_⟩
      dsimp only
      rw [if_pos rfl]
      have := hK k hk
      rw [List.length_map, List.length_range]
      exact this
  obtain ⟨K4, q4⟩ := body
  refine ⟨K1 + K3 + K4 + 40, ?_⟩
  have p1 : scale_Admit.f (K1 + K3 + K4 + 40) X most = _ := q1 _ (by omega)
  have p3 : compasslaw02_floats.f (K1 + K3 + K4 + 40) (lift X) = _ := q3 _ (by omega)
  have p4 := q4 (K1 + K3 + K4 + 40) (by omega)
  unfold compasslaw02_ScaleExact.f
  rw [awake_a, Option.bind_some, if_pos rfl, p3, Option.bind_some, p1, Option.bind_some]
  exact p4
end Go.Proofs.YtdkhaibibpekoaaDoor.Pure
