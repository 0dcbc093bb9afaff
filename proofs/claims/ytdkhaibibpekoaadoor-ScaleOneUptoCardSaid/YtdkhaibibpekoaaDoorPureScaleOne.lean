/- Labels multiplied by a power of two give the same whole numbers: at all rows of at most 2^40 whole numbers of 32 bits. -/
import Derived.Test.YtdkhaibibpekoaaDoorQ11
import Derived.Test.YtdkhaibibpekoaaDoorQ3
import Derived.Test.YtdkhaibibpekoaaDoorQ4
import Derived.Test.YtdkhaibibpekoaaDoorQ6
import Derived.KernelRfl
import Derived.Test.YtdkhaibibpekoaaDoorAdmitQ
namespace Go.Flt
set_option linter.unusedVariables false
theorem put_exp (s : Bool) (E G F : Nat) (h1 : E ≤ 2047) (h2 : F < 4503599627370496) (h3 : G ≤ 2047) : (Go.bits .or .u64 (Go.bits .andNot .u64 ((Ieee.double.word s (E * 4503599627370496 + F) : Nat) : Int) 9218868437227405312) ((G : Int) * 4503599627370496) : Int).toNat = Ieee.double.word s (G * 4503599627370496 + F) := by
  have wl := word_lt2 s (E * 4503599627370496 + F) (by omega)
  rw [show (9218868437227405312 : Int) = ((9218868437227405312 : Nat) : Int) by rfl, bits_andNot_u64_nat _ _ wl (by decide)]
  have e : 18446744073709551615 - 9218868437227405312 = 2 ^ 63 ||| (2 ^ 52 - 1) := by decide
  have z : (Ieee.double.word s (E * 4503599627370496 + F)) &&& 2 ^ 63 = if s = true then 2 ^ 63 else 0 := by
    refine Nat.eq_of_testBit_eq fun i => ?_
    rw [Nat.testBit_and, Nat.testBit_two_pow]
    by_cases c : 63 = i
    · subst c
      rw [decide_eq_true rfl, Bool.and_true]
      unfold Ieee.Format.word
      rw [sw]
      cases s
      · rw [if_neg (by decide), if_neg (by decide), Nat.testBit_lt_two_pow (show E * 4503599627370496 + F < 2 ^ 63 by omega), Nat.zero_testBit]
      · rw [if_pos rfl, if_pos rfl, show 9223372036854775808 + (E * 4503599627370496 + F) = 2 ^ 63 * 1 + (E * 4503599627370496 + F) by omega, Nat.testBit_two_pow_mul_add 1 (show E * 4503599627370496 + F < 2 ^ 63 by omega), if_neg (by decide), Nat.testBit_two_pow]
        rfl
    · rw [decide_eq_false c, Bool.and_false]
      cases s
      · rw [if_neg (by decide), Nat.zero_testBit]
      · rw [if_pos rfl, Nat.testBit_two_pow, decide_eq_false c]
  have m : Ieee.double.word s (E * 4503599627370496 + F) % 2 ^ 52 = F := by
    unfold Ieee.Format.word
    rw [sw]
    split <;> omega
  rw [e, Nat.and_or_distrib_left, Nat.and_two_pow_sub_one_eq_mod, z, m]
  rw [show (G : Int) * 4503599627370496 = ((G * 4503599627370496 : Nat) : Int) by omega]
  have key : ∀ q : Nat, (2 ^ 52 * q ||| F) = 2 ^ 52 * q + F := fun q => (Nat.two_pow_add_eq_or_of_lt (by omega) q).symm
  have c52 : G * 4503599627370496 = 2 ^ 52 * G := by rw [Nat.mul_comm]
  cases s
  · rw [if_neg (by decide), Nat.zero_or, bits_or_u64_nat _ _ (by omega) (by omega), Int.toNat_natCast, c52, Nat.or_comm, key]
    rfl
  · have o1 : 2 ^ 63 ||| F = 9223372036854775808 + F := by have := key 2048; rw [show 2 ^ 52 * 2048 = 2 ^ 63 by rfl] at this; rw [this]
    have o2 : 2 ^ 52 * G ||| 2 ^ 63 = 2 ^ 52 * (2048 + G) := by
      have := Nat.two_pow_add_eq_or_of_lt (i := 63) (b := 2 ^ 52 * G) (by omega) 1
      rw [Nat.mul_one] at this
      rw [Nat.or_comm, ← this, Nat.mul_add]
    rw [if_pos rfl, bits_or_u64_nat _ _ (by rw [o1]; omega) (by omega), Int.toNat_natCast, c52, Nat.or_comm, ← Nat.or_assoc, o2, key]
    unfold Ieee.Format.word
    rw [if_pos rfl, sw]
    omega
theorem mul_one_any (s : Bool) (M : Nat) (p : Int) (x : Nat) (hx : Ieee.double.read x = .number s M p) : Go.floatBits .mul .f64 4607182418800017408 x = some (Ieee.double.nearest s M p) := by
  show Ieee.double.mul 4607182418800017408 x = _
  unfold Ieee.Format.mul
  rw [read_one, hx]
  show some (Ieee.double.nearest (false ^^ s) (4503599627370496 * M) (-52 + p)) = _
  have := nearest_shift s M 52 p
  rw [Bool.false_xor, Nat.mul_comm, show (4503599627370496 : Nat) = 2 ^ 52 by rfl, show -52 + p = p - ((52 : Nat) : Int) by omega, this]
end Go.Flt
namespace Go.Proofs.YtdkhaibibpekoaaDoor.Pure
open Go.RowKit Go.Flt Go.Proofs.YtdkhaibibpekoaaDoor.Q Go.Proofs.YtdkhaibibpekoaaDoorW.PrintWords Go.Proofs.YtdkhaibibpekoaaDoorW.PrintLast Go.Proofs.YtdkhaibibpekoaaDoorW.PrintMore
set_option linter.unusedVariables false
theorem awake_o (k : Nat) : compasslaw02_awake.f (k + 40) = some true := by kernel_rfl
/-- A whole number of 32 bits as a float64, and times a power of two. -/
def fw (x : Int) (e : Int) : Nat := Ieee.double.nearest (decide (x < 0)) x.natAbs e
theorem fw_zero (x : Int) : floatOfInt .f64 x = fw x 0 := rfl
theorem fw_parts (x : Int) (hx : x ≠ 0) (hl : x.natAbs ≤ 2147483648) : ∃ L F : Nat, L ≤ 31 ∧ F < 4503599627370496 ∧ ∀ e : Int, -1000 ≤ e → e ≤ 950 → fw x e = Ieee.double.word (decide (x < 0)) ((e + L + 1023).toNat * 4503599627370496 + F) ∧ Ieee.double.read (fw x e) = .number (decide (x < 0)) (4503599627370496 + F) (e + L - 52) ∧ 4503599627370496 + F = x.natAbs * 2 ^ (52 - L) := by
  have h0 : 0 < x.natAbs := by omega
  have l1 := Nat.log2_self_le (n := x.natAbs) (by omega)
  have l2 := Nat.lt_log2_self (n := x.natAbs)
  have hl2 : x.natAbs.log2 ≤ 31 := by
    by_cases c : x.natAbs.log2 ≤ 31
    · exact c
    · have := Nat.pow_le_pow_right (n := 2) (by decide) (show 32 ≤ x.natAbs.log2 by omega)
      omega
  have hp := Nat.two_pow_pos (52 - x.natAbs.log2)
  have m1 := Nat.mul_le_mul_right (2 ^ (52 - x.natAbs.log2)) l1
  have m2 := Nat.mul_lt_mul_of_pos_right l2 hp
  rw [← Nat.pow_add, show x.natAbs.log2 + (52 - x.natAbs.log2) = 52 by omega] at m1
  rw [← Nat.pow_add, show x.natAbs.log2 + 1 + (52 - x.natAbs.log2) = 53 by omega] at m2
  obtain ⟨F, hF⟩ : ∃ F, x.natAbs * 2 ^ (52 - x.natAbs.log2) = 4503599627370496 + F := ⟨x.natAbs * 2 ^ (52 - x.natAbs.log2) - 4503599627370496, by omega⟩
  rw [hF] at m1 m2
  refine ⟨x.natAbs.log2, F, hl2, by omega, fun e e0 e1 => ?_⟩
  have fe : fw x e = wd (decide (x < 0)) (4503599627370496 + F) (e + x.natAbs.log2 - 52) := by
    unfold fw
    rw [← nearest_shift _ x.natAbs (52 - x.natAbs.log2) e, hF, nearest_wd0 _ _ _ (by omega) (by omega) (Or.inr (by omega))]
    congr 1
    omega
  refine ⟨?_, ?_, hF.symm⟩
  · rw [fe]
    unfold wd
    rw [Nat.min_eq_left (by omega), show (e + (x.natAbs.log2 : Int) - 52 + 1074).toNat * 4503599627370496 + (4503599627370496 + F) = (e + (x.natAbs.log2 : Int) + 1023).toNat * 4503599627370496 + F by omega]
  · rw [fe, read_wd _ _ _ (by omega) (by omega) (by omega) (by omega)]
theorem fw_lt (x e : Int) : fw x e < 18446744073709551616 := by
  have := Ieee.Format.nearest_lt Ieee.double (decide (x < 0)) x.natAbs e
  exact this
theorem fld_aux (b L F : Nat) (h : b % 9223372036854775808 = (L + 1023) * 4503599627370496 + F) (hb : b < 18446744073709551616) (hF : F < 4503599627370496) (hL : L ≤ 31) : (b / 4503599627370496) % 2048 = L + 1023 := by omega
theorem ne_aux (L F : Nat) : (L + 1023) * 4503599627370496 + F ≠ 0 := by omega
theorem ex_aux (y e : Int) (L : Nat) (h : y % 2048 = (L : Int) + 1023) (h0 : 0 ≤ y) (h1 : y < 9223372036854775808) (e0 : -900 ≤ e) (e1 : e ≤ 900) (hL : L ≤ 31) : (wrap64 ((wrap64 (e + 0)) + (wrap64 ((Go.bits .and .i64 y 2047) - 1023)))) = e + L := by
  rw [mask11 _ h0 h1, h]
  clear h h0 h1
  rw [w64 (a := (L : Int) + 1023 - 1023) (by omega) (by omega), w64 (a := e + 0) (by omega) (by omega), w64 (by omega) (by omega)]
  omega
theorem ew_aux (e : Int) (L : Nat) (e0 : -900 ≤ e) (e1 : e ≤ 900) (hL : L ≤ 31) : IntKind.u64.wrap ((IntKind.u64.wrap (wrap64 ((e + L) + 1023))) * 4503599627370496) = (((e + L + 1023).toNat : Nat) : Int) * 4503599627370496 := by
  rw [w64 (by omega) (by omega), wu64 (a := (e + L) + 1023) (by omega) (by omega), wu64 (by omega) (by omega)]
  omega
theorem ldexp_any (x : Int) (e : Int) (hx : x ≠ 0) (hl : x.natAbs ≤ 2147483648) (e0 : -900 ≤ e) (e1 : e ≤ 900) : math_Ldexp.f (floatOfInt .f64 x) e = some (fw x e) := by
  obtain ⟨L, F, L1, F1, hp⟩ := fw_parts x hx hl
  obtain ⟨a, r, -⟩ := hp 0 (by decide) (by decide)
  obtain ⟨a', r', -⟩ := hp e (by omega) (by omega)
  rw [fw_zero]
  have b1 := fw_lt x 0
  obtain ⟨b, eb⟩ : ∃ b, b = fw x 0 := ⟨_, rfl⟩
  rw [show ((0 : Int) + (L : Int) + 1023).toNat = L + 1023 by omega] at a
  rw [← eb] at a b1 ⊢
  obtain ⟨n1, n2⟩ := word_parts (decide (x < 0)) ((L + 1023) * 4503599627370496 + F) (by omega)
  rw [← a] at n1 n2
  have hf : rg b < 9218868437227405312 := by omega
  have za := zero_any b1 hf
  have ia := inf_any b1 hf
  have na := nan_any b1 hf
  have nb := norm_big b1 hf (by omega)
  have dv : wrap64 ((b : Int) / 4503599627370496) % 2048 = (L : Int) + 1023 ∧ 0 ≤ wrap64 ((b : Int) / 4503599627370496) ∧ wrap64 ((b : Int) / 4503599627370496) < 9223372036854775808 := by
    have q := fld_aux b L F n2 b1 F1 L1
    have q2 : b / 4503599627370496 < 4096 := by clear n2 a a' r r' hp q; omega
    rw [show ((b : Int) / 4503599627370496) = ((b / 4503599627370496 : Nat) : Int) from rfl]
    generalize b / 4503599627370496 = y at q q2
    clear n2 a a' r r' hp za ia na nb hf n1
    rw [w64 (by omega) (by omega)]
    omega
  have ex := ex_aux (wrap64 ((b : Int) / 4503599627370496)) e L dv.1 dv.2.1 dv.2.2 e0 e1 L1
  clear dv
  have ew := ew_aux e L e0 e1 L1
  have pe : (Go.bits .or .u64 (Go.bits .andNot .u64 (b : Int) 9218868437227405312) ((((e + L + 1023).toNat : Nat) : Int) * 4503599627370496) : Int).toNat = fw x e := by
    rw [a, a']
    exact put_exp _ (L + 1023) (e + L + 1023).toNat F (by omega) F1 (by omega)
  have mu := mul_one_any _ _ _ _ r'
  have back : Ieee.double.nearest (decide (x < 0)) (4503599627370496 + F) (e + L - 52) = fw x e := by
    rw [nearest_wd0 _ _ _ (by omega) (by omega) (Or.inr (by omega)), a']
    unfold wd
    rw [Nat.min_eq_left (by omega), show (e + (L : Int) - 52 + 1074).toNat * 4503599627370496 + (4503599627370496 + F) = (e + (L : Int) + 1023).toNat * 4503599627370496 + F by omega]
  rw [back] at mu
  unfold math_Ldexp.f math_ldexp.f
  have zz : decide (rg b = 0) = false := decide_eq_false (by rw [n2]; exact ne_aux L F)
  have t1 : ¬ e + (L : Int) < -1075 := by clear ex ew; omega
  have t2 : ¬ e + (L : Int) > 1023 := by clear ex ew; omega
  have t3 : ¬ e + (L : Int) < -1022 := by clear ex ew; omega
  rw [za, zz, if_neg (by decide), ia, Option.bind_some, if_neg (by decide), na, Option.bind_some, if_neg (by decide), nb, Option.bind_some]
  dsimp only
  rw [ex, if_neg t1, if_neg t2, if_neg t3, ew, pe, mu, if_pos Option.isSome_some, Option.getD_some, Option.bind_some]
/-- A number's odd part is told once. -/
theorem odd_once {o t o' t' : Nat} (h : o * 2 ^ t = o' * 2 ^ t') (ho : o % 2 = 1) (ho' : o' % 2 = 1) : o = o' ∧ t = t' := by
  have half : ∀ {o t o' d : Nat}, o * 2 ^ t = o' * 2 ^ (t + d) → o % 2 = 1 → d = 0 := fun {o t o' d} h ho => by
    rw [Nat.pow_add, Nat.mul_comm (2 ^ t), ← Nat.mul_assoc] at h
    have := Nat.mul_right_cancel (Nat.two_pow_pos t) h
    cases d with
    | zero => rfl
    | succ d => rw [Nat.pow_succ, ← Nat.mul_assoc] at this; omega
  have tt : t = t' := by
    rcases Nat.le_total t t' with c | c
    · obtain ⟨d, rfl⟩ : ∃ d, t' = t + d := ⟨t' - t, by omega⟩
      have := half h ho
      omega
    · obtain ⟨d, rfl⟩ : ∃ d, t = t' + d := ⟨t - t', by omega⟩
      have := half h.symm ho'
      omega
  subst tt
  exact ⟨Nat.mul_right_cancel (Nat.two_pow_pos t) h, rfl⟩
/-- The parts of a whole number times a power of two. -/
theorem fw_lab (x e : Int) (o t : Nat) (hx : x ≠ 0) (hl : x.natAbs ≤ 2147483648) (e0 : -900 ≤ e) (e1 : e ≤ 900) (ho : o % 2 = 1) (hot : x.natAbs = o * 2 ^ t) : Lab (fw x e) o (e + t) (ng (fw x e)) ∧ ng (fw x e) = decide (x < 0) := by
  obtain ⟨L, F, L1, F1, hp⟩ := fw_parts x hx hl
  obtain ⟨a, r, hF⟩ := hp e (by omega) (by omega)
  have b1 := fw_lt x e
  obtain ⟨n1, n2⟩ := word_parts (decide (x < 0)) ((e + (L : Int) + 1023).toNat * 4503599627370496 + F) (by omega)
  rw [← a] at n1 n2
  obtain ⟨m, d, l⟩ := lab (fw x e) b1 (by omega)
  have mz : m ≠ 0 := fun z => by
    have := l.zero
    rw [zero_any b1 (by omega), decide_eq_true z, decide_eq_false (by omega)] at this
    exact absurd this (by decide)
  obtain ⟨j, hj⟩ := l.rd mz
  rw [r] at hj
  simp only [Ieee.Datum.number.injEq] at hj
  obtain ⟨-, q1, q2⟩ := hj
  have eq : o * 2 ^ (t + (52 - L)) = m * 2 ^ j := by rw [← q1, hF, hot, Nat.mul_assoc, ← Nat.pow_add]
  obtain ⟨rfl, rfl⟩ := odd_once eq ho (l.odd mz)
  have : d = e + t := by omega
  subst this
  exact ⟨l, n1⟩
theorem zero_lab : Lab 0 0 0 (ng 0) := by
  obtain ⟨m, d, l⟩ := lab 0 (by decide) (by decide)
  have z := l.zero
  rw [show (FloatKind.f64.format.order 0 0 == some .eq) = true by decide] at z
  have mz : m = 0 := of_decide_eq_true z.symm
  have dz := l.z mz
  subst mz; subst dz
  exact l
theorem at_map (f : Int → Nat) (l : List Int) (i : Nat) (h : i < l.length) : at_ (l.map f) i = f (rd l (i : Int)) := by
  unfold at_ rd
  rw [Int.toNat_natCast, List.getD_eq_getElem?_getD, List.getElem?_map, List.getD_eq_getElem?_getD, List.getElem?_eq_getElem h]
  rfl
def fl (e x : Int) : Nat := if x = 0 then 0 else fw x e
/-- Admit at labels that are within the bound. -/
theorem admit_good (X : List Nat) (M : Nat → Nat) (D : Nat → Int) (mo : Nat) (L : Labs X M D) (h1 : 1 ≤ mo) (h2 : mo ≤ 9007199254740992) (all : ∀ i, i < X.length → gr M D mo (st M D X.length).1 i ≤ mo) :
    Evl (fun k => scale_Admit.f k X (mo : Int)) ((List.range X.length).map (vl X M D mo (st M D X.length).1), (st M D X.length).1, 0, 0) := by
  obtain ⟨s1, s2, s3, s4, s5⟩ := st_lo L X.length (Nat.le_refl _)
  obtain ⟨a, -⟩ := last_good L h1 h2 s3 s4 (fun i hi hm => (s1 i hi hm).2) all X.length 0 (by omega)
  have e := prog_first L (mo : Int) _ a X.length 0 (by omega)
  refine Evl.congr (h := fun k => scale_Admit.j0 k X (mo : Int) false) (e.step fun k => by rw [scale_Admit.j0, if_neg (by decide)]; rfl) fun k => ?_
  unfold scale_Admit.f
  rw [if_neg (by omega), decide_eq_false (by omega)]
theorem ScaleOne (l : List Int) (up : Int) (hm : l.length ≤ 1048576) (hw : ∀ x ∈ l, (Lit.int .i32 x).wf = true) (hu : (Lit.int .i64 up).wf = true) : ∃ k, compasslaw02_ScaleOne.f k l up = some true := by
  by_cases out : up < -900 ∨ up > 900
  · refine ⟨1 + 40, ?_⟩
    unfold compasslaw02_ScaleOne.f
    rw [awake_o, Option.bind_some, if_pos rfl]
    by_cases a : up < -900
    · rw [if_pos a, compasslaw02_ScaleOne.j0, if_pos rfl]
    · rw [if_neg a, decide_eq_true (by omega), compasslaw02_ScaleOne.j0, if_pos rfl]
  have u0 : -900 ≤ up := by omega
  have u1 : up ≤ 900 := by omega
  have inr : ∀ i : Nat, i < l.length → (rd l (i : Int)).natAbs ≤ 2147483648 := fun i hi => by
    have hmem : rd l (i : Int) ∈ l := by
      unfold rd
      rw [Int.toNat_natCast, List.getD_eq_getElem?_getD, List.getElem?_eq_getElem hi]
      exact List.getElem_mem hi
    have := hw _ hmem
    have : -2147483648 ≤ rd l (i : Int) ∧ rd l (i : Int) ≤ 2147483647 := by simpa [Lit.wf, IntKind.min, IntKind.max, IntKind.signed, IntKind.bits] using this
    omega
  have ch : ∀ i : Nat, ∃ p : Nat × Nat, rd l (i : Int) ≠ 0 → (rd l (i : Int)).natAbs = p.1 * 2 ^ p.2 ∧ p.1 % 2 = 1 := fun i => by
    by_cases z : rd l (i : Int) = 0
    · exact ⟨(0, 0), fun h => absurd z h⟩
    · obtain ⟨o, t, a, b⟩ := odd_part (rd l (i : Int)).natAbs (by omega)
      exact ⟨(o, t), fun _ => ⟨a, b⟩⟩
  obtain ⟨f, hf⟩ := Classical.axiomOfChoice ch
  obtain ⟨M, eM⟩ : ∃ M : Nat → Nat, M = fun (i : Nat) => if rd l (i : Int) = 0 then 0 else (f i).1 := ⟨_, rfl⟩
  have Mz : ∀ i : Nat, rd l (i : Int) = 0 → M i = 0 := fun i h => by rw [eM]; exact if_pos h
  have Mn : ∀ i : Nat, rd l (i : Int) ≠ 0 → M i = (f i).1 ∧ M i ≠ 0 ∧ M i % 2 = 1 := fun i h => by
    have e : M i = (f i).1 := by rw [eM]; exact if_neg h
    have := (hf i h).2
    exact ⟨e, by omega, by omega⟩
  obtain ⟨D, eD⟩ : ∃ D : Int → Nat → Int, D = fun (e : Int) (i : Nat) => if rd l (i : Int) = 0 then 0 else e + (f i).2 := ⟨_, rfl⟩
  have Dz : ∀ (e : Int) (i : Nat), rd l (i : Int) = 0 → D e i = 0 := fun e i h => by rw [eD]; exact if_pos h
  have Dn : ∀ (e : Int) (i : Nat), rd l (i : Int) ≠ 0 → D e i = e + (f i).2 := fun e i h => by rw [eD]; exact if_neg h
  have labs : ∀ e : Int, -900 ≤ e → e ≤ 900 → Labs (l.map (fl e)) M (D e) := fun e e0 e1 => by
    refine ⟨by rw [List.length_map]; omega, fun i hi => ?_⟩
    rw [List.length_map] at hi
    rw [at_map _ _ i hi]
    unfold fl
    by_cases z : rd l (i : Int) = 0
    · rw [if_pos z, Mz i z, Dz e i z]; exact zero_lab
    · obtain ⟨a, b⟩ := hf i z
      rw [if_neg z, (Mn i z).1, Dn e i z]
      exact (fw_lab _ e _ _ z (inr i hi) e0 e1 b a).1
  have sgn : ∀ e : Int, -900 ≤ e → e ≤ 900 → ∀ i : Nat, i < l.length → rd l (i : Int) ≠ 0 → ng (at_ (l.map (fl e)) i) = decide (rd l (i : Int) < 0) := fun e e0 e1 i hi z => by
    rw [at_map _ _ i hi]
    unfold fl
    rw [if_neg z]
    obtain ⟨a, b⟩ := hf i z
    exact (fw_lab _ e _ _ z (inr i hi) e0 e1 b a).2
  -- the scales
  have stq : ∀ n, n ≤ l.length → (st M (D up) n).2 = (st M (D 0) n).2 ∧ ((st M (D 0) n).2 = true → (st M (D up) n).1 = (st M (D 0) n).1 + up) := by
    intro n
    induction n with
    | zero => intro _; exact ⟨rfl, fun h => Bool.noConfusion h⟩
    | succ n ih =>
      intro hn
      obtain ⟨a, b⟩ := ih (by omega)
      rw [st, st]
      by_cases z : M n = 0
      · rw [if_pos z, if_pos z]; exact ⟨a, b⟩
      · have zz : rd l (n : Int) ≠ 0 := fun h => z (Mz n h)
        rw [if_neg z, if_neg z, Dn up n zz, Dn 0 n zz, a]
        by_cases y : (st M (D 0) n).2 = true
        · rw [if_pos y, if_pos y, b y]
          by_cases x : (0 : Int) + (f n).2 < (st M (D 0) n).1
          · rw [if_pos x, if_pos (by omega)]; exact ⟨rfl, fun _ => by show up + ((f n).2 : Int) = 0 + ((f n).2 : Int) + up; omega⟩
          · rw [if_neg x, if_neg (by omega)]; exact ⟨a, b⟩
        · rw [if_neg y, if_neg y]; exact ⟨rfl, fun _ => by show up + ((f n).2 : Int) = 0 + ((f n).2 : Int) + up; omega⟩
  have LA := labs 0 (by decide) (by decide)
  have LB := labs up u0 u1
  have lenA : (l.map (fl 0)).length = l.length := List.length_map ..
  have lenB : (l.map (fl up)).length = l.length := List.length_map ..
  obtain ⟨s1, s2, s3, s4, s5⟩ := st_lo LA l.length (by omega)
  obtain ⟨w1, w2⟩ := stq l.length (Nat.le_refl _)
  have least0 : ∀ i, i < l.length → M i ≠ 0 → 0 ≤ (st M (D 0) l.length).1 := fun i hi hm => by
    obtain ⟨j, hj, hmj, hd⟩ := s5 (s1 i hi hm).1
    have : rd l (j : Int) ≠ 0 := fun h => hmj (Mz j h)
    rw [Dn 0 j this] at hd
    omega
  have gB : ∀ i, i < l.length → gr M (D up) 1099511627776 (st M (D up) l.length).1 i = gr M (D 0) 1099511627776 (st M (D 0) l.length).1 i := fun i hi => by
    unfold gr
    by_cases z : M i = 0
    · rw [z, grow_zero, grow_zero]
    · have zz : rd l (i : Int) ≠ 0 := fun h => z (Mz i h)
      have y := (s1 i hi z).1
      rw [Dn up i zz, Dn 0 i zz, w2 y]
      congr 1
      omega
  have gA : ∀ i, i < l.length → gr M (D 0) 1099511627776 (st M (D 0) l.length).1 i ≤ 1099511627776 := fun i hi => by
    by_cases z : M i = 0
    · unfold gr; rw [z, grow_zero]; omega
    · have zz : rd l (i : Int) ≠ 0 := fun h => z (Mz i h)
      obtain ⟨a, b⟩ := hf i zz
      have ls := least0 i hi z
      have bound : ∀ (d m : Nat), m * 2 ^ d ≤ 2147483648 → grow 1099511627776 m d ≤ 1099511627776 := by
        intro d
        induction d with
        | zero => intro m h; rw [grow]; rw [Nat.pow_zero, Nat.mul_one] at h; omega
        | succ d ih =>
          intro m h
          have hp := Nat.two_pow_pos (d + 1)
          have : m ≤ m * 2 ^ (d + 1) := Nat.le_mul_of_pos_right _ hp
          rw [grow, if_pos (by omega)]
          refine ih (2 * m) ?_
          rw [Nat.pow_succ, ← Nat.mul_assoc, Nat.mul_right_comm, Nat.mul_comm m 2] at h
          exact h
      unfold gr
      refine bound _ _ ?_
      rw [Dn 0 i zz, (Mn i zz).1]
      refine Nat.le_trans (Nat.mul_le_mul_left _ (Nat.pow_le_pow_right (by decide) (show (0 + ((f i).2 : Int) - (st M (D 0) l.length).1).toNat ≤ (f i).2 by omega))) ?_
      rw [← a]; exact inr i hi
  have vB : ∀ i, i < l.length → vl (l.map (fl up)) M (D up) 1099511627776 (st M (D up) l.length).1 i = vl (l.map (fl 0)) M (D 0) 1099511627776 (st M (D 0) l.length).1 i := fun i hi => by
    unfold vl
    rw [gB i hi]
    by_cases z : rd l (i : Int) = 0
    · have : gr M (D 0) 1099511627776 (st M (D 0) l.length).1 i = 0 := by unfold gr; rw [Mz i z, grow_zero]
      rw [this]
      have c1 := sv_cases (ng (at_ (l.map (fl up)) i)) 0
      have c2 := sv_cases (ng (at_ (l.map (fl 0)) i)) 0
      omega
    · rw [sgn up u0 u1 i hi z, sgn 0 (by decide) (by decide) i hi z]
  have AA := admit_good _ M (D 0) 1099511627776 LA (by decide) (by decide) (by rw [lenA]; exact gA)
  have AB := admit_good _ M (D up) 1099511627776 LB (by decide) (by decide) (by rw [lenB]; exact fun i hi => by rw [gB i hi]; exact gA i hi)
  rw [lenA] at AA
  rw [lenB] at AB
  obtain ⟨V, eV⟩ : ∃ V, V = (List.range l.length).map (vl (l.map (fl 0)) M (D 0) 1099511627776 (st M (D 0) l.length).1) := ⟨_, rfl⟩
  have eVB : (List.range l.length).map (vl (l.map (fl up)) M (D up) 1099511627776 (st M (D up) l.length).1) = V := by
    rw [eV]
    exact List.map_congr_left fun i hi => vB i (List.mem_range.1 hi)
  rw [← eV] at AA
  rw [eVB] at AB
  have vlen : V.length = l.length := by rw [eV, List.length_map, List.length_range]
  have rdV : ∀ i : Nat, i < l.length → rd V (i : Int) = vl (l.map (fl 0)) M (D 0) 1099511627776 (st M (D 0) l.length).1 i := fun i hi => by
    rw [eV]
    unfold rd
    rw [Int.toNat_natCast, List.getD_eq_getElem?_getD, List.getElem?_map, List.getElem?_range hi]
    rfl
  -- the comparing loop
  have cmp : ∀ (d i : Nat), i + d = l.length → ∀ any : Bool, (any = true → (st M (D 0) l.length).2 = true) → Evl (fun k => compasslaw02_ScaleOne.l1 k up V (st M (D 0) l.length).1 V (st M (D up) l.length).1 any (l.length : Int) (i : Int)) true := by
    intro d
    induction d with
    | zero =>
      intro i hi any ha
      refine Evl.here fun k => ?_
      rw [compasslaw02_ScaleOne.l1, if_neg (by omega)]
      cases any
      · rw [if_neg (by decide)]
      · rw [if_pos rfl, w2 (ha rfl), w64 (by omega) (by omega)]
        simp
    | succ d ih =>
      intro i hi any ha
      have nx := ih (i + 1) (by omega)
      cases any
      · have nxt : (rd V (i : Int) != 0) = true → (st M (D 0) l.length).2 = true := fun h => by
          have h' := bne_iff_ne.mp h
          rw [rdV i (by omega)] at h'
          by_cases z : M i = 0
          · exfalso
            apply h'
            unfold vl gr
            rw [z, grow_zero]
            have := sv_cases (ng (at_ (l.map (fl 0)) i)) 0
            omega
          · exact (s1 i (by omega) z).1
        refine (nx _ nxt).step fun k => ?_
        rw [compasslaw02_ScaleOne.l1, if_pos (by omega), if_pos (by omega), if_pos (by omega), if_pos (by omega), if_pos rfl, if_neg (by decide), wi i (by omega)]
      · refine (nx true ha).step fun k => ?_
        rw [compasslaw02_ScaleOne.l1, if_pos (by omega), if_pos (by omega), if_pos (by omega), if_pos (by omega), if_pos rfl, if_pos rfl, wi i (by omega)]
  obtain ⟨K1, h1⟩ := AA
  obtain ⟨K2, h2⟩ := AB
  obtain ⟨K3, h3⟩ := cmp l.length 0 (by omega) false (fun h => Bool.noConfusion h)
  have fin : Evl (fun k => compasslaw02_ScaleOne.l0 k up (l.map (fl 0)) (l.map (fl up)) l (l.length : Int) (l.length : Int)) true := by
    refine ⟨K1 + K2 + K3 + 2, fun k hk => ?_⟩
    obtain ⟨m, rfl⟩ : ∃ m, k = m + 2 := ⟨k - 2, by omega⟩
    have p1 : scale_Admit.f (m + 1) (l.map (fl 0)) 1099511627776 = _ := h1 _ (by omega)
    have p2 : scale_Admit.f (m + 1) (l.map (fl up)) 1099511627776 = _ := h2 _ (by omega)
    have p3 : compasslaw02_ScaleOne.l1 m up V _ V _ false (l.length : Int) 0 = _ := h3 _ (by omega)
    show compasslaw02_ScaleOne.l0 (m + 2) _ _ _ _ _ _ = _
    rw [compasslaw02_ScaleOne.l0, if_neg (by omega), p1, Option.bind_some, p2, Option.bind_some, if_pos rfl, if_pos rfl]
    dsimp only
    rw [bne_self_eq_false, compasslaw02_ScaleOne.j2, if_neg (by decide), vlen]
    exact p3
  have build : ∀ (d i : Nat), i + d = l.length → Evl (fun k => compasslaw02_ScaleOne.l0 k up ((l.take i).map (fl 0)) ((l.take i).map (fl up)) l (l.length : Int) (i : Int)) true := by
    intro d
    induction d with
    | zero =>
      intro i hi
      obtain rfl : i = l.length := by omega
      rw [List.take_of_length_le (Nat.le_refl _)]
      exact fin
    | succ d ih =>
      intro i hi
      have e : l.take (i + 1) = l.take i ++ [rd l (i : Int)] := by
        rw [List.take_succ_eq_append_getElem (by omega)]
        unfold rd
        rw [Int.toNat_natCast, List.getD_eq_getElem?_getD, List.getElem?_eq_getElem (by omega)]; rfl
      have nx := ih (i + 1) (by omega)
      rw [e, List.map_append, List.map_append, List.map_singleton, List.map_singleton] at nx
      have fa : fl 0 (rd l (i : Int)) = floatOfInt .f64 (rd l (i : Int)) := by
        unfold fl
        by_cases z : rd l (i : Int) = 0
        · rw [if_pos z, z]; decide
        · rw [if_neg z]; exact (fw_zero _).symm
      have fb : math_Ldexp.f (floatOfInt .f64 (rd l (i : Int))) up = some (fl up (rd l (i : Int))) := by
        unfold fl
        by_cases z : rd l (i : Int) = 0
        · rw [if_pos z, z]; exact Ldexp_zero up
        · rw [if_neg z]; exact ldexp_any _ up z (inr i (by omega)) u0 u1
      have l1 : ((l.take i).map (fl 0)).length = i := by rw [List.length_map, List.length_take]; omega
      have l2 : ((l.take i).map (fl up)).length = i := by rw [List.length_map, List.length_take]; omega
      rw [fa] at nx
      refine nx.step fun k => ?_
      rw [compasslaw02_ScaleOne.l0, if_pos (by omega), if_pos (by omega), if_pos (by omega), if_pos (by omega), fb, Option.bind_some, if_pos (by omega), wi i (by omega)]
  obtain ⟨K, hK⟩ := build l.length 0 (by omega)
  refine ⟨K + 1 + 40, ?_⟩
  have p : compasslaw02_ScaleOne.l0 (K + 40) up [] [] l (l.length : Int) 0 = _ := hK _ (by omega)
  unfold compasslaw02_ScaleOne.f
  rw [awake_o, Option.bind_some, if_pos rfl, if_neg (by omega), decide_eq_false (by omega), show K + 1 + 40 = (K + 40) + 1 by omega, compasslaw02_ScaleOne.j0, if_neg (by decide)]
  exact p
end Go.Proofs.YtdkhaibibpekoaaDoor.Pure
