/- What the document's Near and Quotient answer: the same word. -/
import Derived.Test.YtdkhaibibpekoaaDoorQ14
import Derived.Test.YtdkhaibibpekoaaDoorQ15
import Derived.Test.YtdkhaibibpekoaaDoorQ16
import Derived.Test.YtdkhaibibpekoaaDoorQuotR
namespace Go.Flt
set_option linter.unusedVariables false
theorem rm_zero (N : Nat) (more : Bool) : rm N 0 more = N := by
  unfold rm
  rw [Nat.pow_zero, Nat.div_one, Nat.mod_one, if_neg (by omega)]; rfl
theorem rm_le (N c : Nat) (more : Bool) (h : N < 2 ^ (53 + c)) : rm N c more ≤ 9007199254740992 := by
  have : N / 2 ^ c < 2 ^ 53 := by rw [Nat.div_lt_iff_lt_mul (Nat.two_pow_pos _), ← Nat.pow_add]; exact h
  unfold rm
  split <;> omega
/-- The bit that is cut last, and what is left below it. -/
theorem rm_half (N c : Nat) (more : Bool) (hc : 0 < c) : rm N c more = N / 2 ^ c + (if N / 2 ^ (c - 1) % 2 = 1 ∧ (more = true ∨ N % 2 ^ (c - 1) ≠ 0 ∨ N / 2 ^ c % 2 = 1) then 1 else 0) := by
  obtain ⟨d, rfl⟩ : ∃ d, c = d + 1 := ⟨c - 1, by omega⟩
  rw [Nat.add_sub_cancel]
  unfold rm
  have e0 : 2 ^ (d + 1) = 2 ^ d * 2 := Nat.pow_succ ..
  have e1 : N % 2 ^ (d + 1) = N % 2 ^ d + 2 ^ d * (N / 2 ^ d % 2) := by rw [e0, Nat.mod_mul]
  have hp := Nat.two_pow_pos d
  have hr := Nat.mod_lt N hp
  rw [e1]
  generalize N / 2 ^ (d + 1) = q
  have hb : N / 2 ^ d % 2 = 0 ∨ N / 2 ^ d % 2 = 1 := by omega
  generalize N % 2 ^ d = r at *
  rw [e0]
  generalize 2 ^ d = P at *
  congr 1
  rcases hb with hb | hb
  · rw [hb, if_neg (by omega), if_neg (by omega)]
  · rw [hb]
    by_cases c1 : r = 0
    · subst c1
      by_cases c2 : more = true ∨ q % 2 = 1
      · rw [if_pos (Or.inr ⟨by omega, c2⟩), if_pos ⟨rfl, by rcases c2 with h | h; exact Or.inl h; exact Or.inr (Or.inr h)⟩]
      · rw [if_neg (by rintro (h | ⟨_, h⟩); omega; exact c2 h), if_neg (by rintro ⟨_, h | h | h⟩; exact c2 (Or.inl h); exact h rfl; exact c2 (Or.inr h))]
    · rw [if_pos (Or.inl (by omega)), if_pos ⟨rfl, Or.inr (Or.inl c1)⟩]
end Go.Flt
namespace Go.Proofs.YtdkhaibibpekoaaDoor.Pure
open Go.RowKit Go.Flt Go.Proofs.YtdkhaibibpekoaaDoor.Q Go.Proofs.YtdkhaibibpekoaaDoorW.PrintWords Go.Proofs.YtdkhaibibpekoaaDoorW.PrintLast Go.Proofs.YtdkhaibibpekoaaDoorW.PrintMore
set_option linter.unusedVariables false
theorem length_f (N : Nat) (hN : N < 18446744073709551616) : Evl (fun k => compassref02_length.f k (N : Int)) (Lib.bitLen N : Int) := by
  have loop : ∀ (f m n : Nat), m < 2 ^ f → f + n ≤ 64 → Evl (fun k => compassref02_length.l0 k (m : Int) (n : Int)) ((Lib.bitLenAux f m + n : Nat) : Int) := by
    intro f
    induction f with
    | zero =>
      intro m n hm hf
      have : m = 0 := by omega
      subst this
      refine Evl.here fun k => ?_
      rw [compassref02_length.l0, if_neg (by omega)]
      simp [Lib.bitLenAux]
    | succ f ih =>
      intro m n hm hf
      have l64 : 2 ^ (f + 1) ≤ 2 ^ 64 := Nat.pow_le_pow_right (by decide) (by omega)
      by_cases z : m = 0
      · subst z
        refine Evl.here fun k => ?_
        rw [compassref02_length.l0, if_neg (by omega)]
        simp [Lib.bitLenAux]
      · have h2 : m / 2 < 2 ^ f := by rw [Nat.pow_succ] at hm; omega
        have e := ih (m / 2) (n + 1) h2 (by omega)
        have q : Lib.bitLenAux (f + 1) m + n = Lib.bitLenAux f (m / 2) + (n + 1) := by rw [Lib.bitLenAux, if_neg z]; omega
        rw [q]
        refine e.step fun k => ?_
        rw [compassref02_length.l0, if_pos (by omega), show ((m : Int).tdiv 2) = ((m / 2 : Nat) : Int) from rfl, un _ (by omega), w64 (by omega) (by omega)]
        rfl
  have := loop 64 N 0 (by omega) (by omega)
  rw [Nat.add_zero] at this
  exact this.congr fun k => rfl
def sg (s : Bool) : Int := if s = true then 9223372036854775808 else 0
theorem word_sg (s : Bool) (r : Nat) : ((Ieee.double.word s r : Nat) : Int) = sg s + r := by
  unfold Ieee.Format.word sg
  rw [sw]
  cases s
  · rw [if_neg (by decide), if_neg (by decide)]; omega
  · rw [if_pos rfl, if_pos rfl]; omega
theorem sg_01 (s : Bool) : sg s = 0 ∨ sg s = 9223372036854775808 := by cases s <;> simp [sg]
theorem j8_f (k : Nat) (s : Bool) (M : Nat) (e : Int) (hM : M < 9007199254740992) (h1 : -1074 ≤ e) (h2 : e = -1074 ∨ 4503599627370496 ≤ M) (h3 : e ≤ 3000) : compassref02_Near.j8 (k + 1) (M : Int) e (sg s) = some ((wd s M e : Nat) : Int) := by
  have g := sg_01 s
  rw [compassref02_Near.j8]
  unfold wd
  rw [word_sg]
  simp only [IntKind.wrap_u64]
  rw [w64 (a := e + 1075) (by omega) (by omega)]
  by_cases c : M < 4503599627370496
  · rw [if_pos (by omega)]
    congr 1
    have : e = -1074 := by omega
    subst this
    omega
  · rw [if_neg (by omega)]
    by_cases c2 : (e + 1075) % 18446744073709551616 ≥ 2047
    · rw [if_pos c2]
      congr 1
      omega
    · rw [if_neg c2]
      congr 1
      omega
theorem j7_f (k : Nat) (s : Bool) (M : Nat) (e : Int) (hM : M ≤ 9007199254740992) (h1 : -1074 ≤ e) (h2 : e = -1074 ∨ 4503599627370496 ≤ M) (h3 : e ≤ 2000) : compassref02_Near.j7 (k + 2) (M : Int) e (sg s) = some ((wd s M e : Nat) : Int) := by
  rw [compassref02_Near.j7]
  by_cases c : M = 9007199254740992
  · subst c
    rw [if_pos (by omega), w64 (a := e + 1) (by omega) (by omega)]
    have := j8_f k s 4503599627370496 (e + 1) (by omega) (by omega) (Or.inr (by omega)) (by omega)
    have q : IntKind.u64.wrap (Int.tdiv ((9007199254740992 : Nat) : Int) 2) = ((4503599627370496 : Nat) : Int) := by decide
    rw [q, this]
    unfold wd
    have : (e + 1 + 1074).toNat * 4503599627370496 + 4503599627370496 = (e + 1074).toNat * 4503599627370496 + 9007199254740992 := by omega
    rw [this]
  · rw [if_neg (by omega)]
    exact j8_f k s M e (by omega) h1 h2 (by omega)
theorem j6_f (k : Nat) (s : Bool) (M : Nat) (e : Int) (up : Bool) (hM : M + up.toNat ≤ 9007199254740992) (h1 : -1074 ≤ e) (h2 : e = -1074 ∨ 4503599627370496 ≤ M) (h3 : e ≤ 2000) : compassref02_Near.j6 (k + 3) (M : Int) e (sg s) up = some ((wd s (M + up.toNat) e : Nat) : Int) := by
  rw [compassref02_Near.j6]
  cases up
  · rw [if_neg (by decide)]
    exact j7_f k s M e hM h1 h2 h3
  · rw [if_pos rfl]
    have a : (true : Bool).toNat = 1 := rfl
    rw [a] at hM ⊢
    rw [show (M : Int) + 1 = ((M + 1 : Nat) : Int) by omega, un _ (by omega)]
    exact j7_f k s (M + 1) e hM h1 (by omega) h3
def hf (N i : Nat) : Bool := decide (0 < i) && (N / 2 ^ (i - 1) % 2 == 1)
def rs (N i : Nat) (more : Bool) : Bool := more || (decide (0 < i) && (N % 2 ^ (i - 1) != 0))
theorem odd_eq (m : Nat) : ((Int.tmod (m : Int) 2) == 1) = (m % 2 == 1) := by
  rw [show (Int.tmod (m : Int) 2) = ((m % 2 : Nat) : Int) from rfl]
  by_cases c : m % 2 = 1
  · rw [c]; rfl
  · rw [show m % 2 = 0 by omega]; rfl
theorem rs_succ (N i : Nat) (more : Bool) : rs N (i + 1) more = (hf N i || rs N i more) := by
  unfold rs hf
  rw [Nat.add_sub_cancel, decide_eq_true (by omega), Bool.true_and]
  rcases Nat.eq_zero_or_pos i with rfl | hi
  · rw [Nat.pow_zero, Nat.mod_one]; cases more <;> rfl
  · obtain ⟨d, rfl⟩ : ∃ d, i = d + 1 := ⟨i - 1, by omega⟩
    rw [Nat.add_sub_cancel, decide_eq_true (by omega), Bool.true_and, Bool.true_and, Nat.pow_succ, Nat.mod_mul]
    have hp := Nat.two_pow_pos d
    have hb : N / 2 ^ d % 2 = 0 ∨ N / 2 ^ d % 2 = 1 := by omega
    generalize 2 ^ d = P at *
    rcases hb with hb | hb
    · rw [hb, Nat.mul_zero, Nat.add_zero]; cases more <;> simp
    · rw [hb, Nat.mul_one, show (N % P + P != 0) = true from bne_iff_ne.mpr (by omega)]; cases more <;> simp
theorem l1_f2 (s : Bool) (N : Nat) (e : Int) (more : Bool) (c : Nat) (hN : N < 18446744073709551616) (hM : N < 2 ^ (53 + c)) (h1 : -1074 ≤ e + c) (h2 : e + c = -1074 ∨ 4503599627370496 ≤ N / 2 ^ c) (h3 : e + c ≤ 2000) (h4 : -4000 ≤ e) :
    ∀ (d i : Nat), i + d = c → Evl (fun k => compassref02_Near.l1 k ((N / 2 ^ i : Nat) : Int) (e + i) (rs N i more) (sg s) (c : Int) (hf N i) (i : Int)) ((wd s (rm N c more) (e + c) : Nat) : Int) := by
  have ml := rm_le N c more hM
  intro d
  induction d with
  | zero =>
    intro i hi
    obtain rfl : i = c := by omega
    have key : ∀ up : Bool, N / 2 ^ i + up.toNat = rm N i more → Evl (fun k => compassref02_Near.j6 k ((N / 2 ^ i : Nat) : Int) (e + i) (sg s) up) ((wd s (rm N i more) (e + i) : Nat) : Int) := fun up hup => by
      refine ⟨3, fun k hk => ?_⟩
      obtain ⟨m, rfl⟩ : ∃ m, k = m + 3 := ⟨k - 3, by omega⟩
      show compassref02_Near.j6 (m + 3) _ _ _ _ = _
      rw [j6_f m s _ _ up (by omega) h1 h2 h3, hup]
    rcases Nat.eq_zero_or_pos i with z | hi0
    · subst z
      refine (key false (by rw [rm_zero, Nat.pow_zero, Nat.div_one]; rfl)).step fun k => ?_
      rw [compassref02_Near.l1, if_neg (by omega)]
      unfold hf
      rw [if_neg (by simp)]
    · have hm := rm_half N i more hi0
      have ph : hf N i = (N / 2 ^ (i - 1) % 2 == 1) := by unfold hf; rw [decide_eq_true hi0, Bool.true_and]
      have pr : rs N i more = (more || (N % 2 ^ (i - 1) != 0)) := by unfold rs; rw [decide_eq_true hi0, Bool.true_and]
      by_cases b : N / 2 ^ (i - 1) % 2 = 1
      · have hb : hf N i = true := by rw [ph, b]; rfl
        by_cases r : rs N i more = true
        · refine (key true ?_).step fun k => ?_
          · have o : more = true ∨ N % 2 ^ (i - 1) ≠ 0 ∨ N / 2 ^ i % 2 = 1 := by
              rw [pr] at r
              rcases Bool.or_eq_true_iff.mp r with r | r
              · exact Or.inl r
              · exact Or.inr (Or.inl (bne_iff_ne.mp r))
            rw [hm, if_pos ⟨b, o⟩]; rfl
          · rw [compassref02_Near.l1, if_neg (by omega), if_pos hb, if_pos r]
        · have rn : ¬ (more = true ∨ N % 2 ^ (i - 1) ≠ 0) := fun h => r (by
            rw [pr]
            rcases h with h | h
            · rw [h]; rfl
            · rw [bne_iff_ne.mpr h, Bool.or_true])
          refine (key (N / 2 ^ i % 2 == 1) ?_).step fun k => ?_
          · rw [hm]
            by_cases o : N / 2 ^ i % 2 = 1
            · rw [if_pos ⟨b, Or.inr (Or.inr o)⟩, o]; rfl
            · rw [if_neg (by rintro ⟨_, h | h | h⟩; exact rn (Or.inl h); exact rn (Or.inr h); exact o h), show N / 2 ^ i % 2 = 0 by omega]; rfl
          · rw [compassref02_Near.l1, if_neg (by omega), if_pos hb, if_neg r, odd_eq]
      · have hb : ¬ hf N i = true := by rw [ph]; intro h; exact b (beq_iff_eq.mp h)
        refine (key false ?_).step fun k => ?_
        · rw [hm, if_neg (by rintro ⟨h, _⟩; exact b h)]; rfl
        · rw [compassref02_Near.l1, if_neg (by omega), if_neg hb]
  | succ d ih =>
    intro i hi
    have nx := ih (i + 1) (by omega)
    have e1 : N / 2 ^ (i + 1) = N / 2 ^ i / 2 := by rw [Nat.pow_succ, Nat.div_div_eq_div_mul]
    have le := Nat.div_le_self N (2 ^ i)
    have e2 : hf N (i + 1) = (N / 2 ^ i % 2 == 1) := by unfold hf; rw [Nat.add_sub_cancel, decide_eq_true (by omega), Bool.true_and]
    rw [e1, e2, rs_succ, show e + ((i + 1 : Nat) : Int) = e + i + 1 by omega] at nx
    refine nx.step fun k => ?_
    rw [compassref02_Near.l1, if_pos (by omega), odd_eq, show (Int.tdiv ((N / 2 ^ i : Nat) : Int) 2) = ((N / 2 ^ i / 2 : Nat) : Int) from rfl, un _ (by omega), w64 (a := e + i + 1) (by omega) (by omega), w64 (by omega) (by omega)]
    by_cases b : hf N i = true
    · rw [if_pos b, b]; rfl
    · rw [if_neg b, show hf N i = false by simpa using b, Bool.false_or]; rfl
theorem l0_f2 (s : Bool) (rest : Bool) (res : Int) : ∀ (j N : Nat) (e : Int), N * 2 ^ j < 9007199254740992 → -4000 ≤ e - j → e ≤ 4000 → Evl (fun k => compassref02_Near.l1 k ((N * 2 ^ j : Nat) : Int) (e - j) rest (sg s) 0 false 0) res → Evl (fun k => compassref02_Near.l0 k (N : Int) e rest (sg s) (-(j : Int))) res := by
  intro j
  induction j with
  | zero =>
    intro N e h h1 h2 f
    rw [Nat.pow_zero, Nat.mul_one, show e - ((0 : Nat) : Int) = e by omega] at f
    refine f.step fun k => ?_
    rw [compassref02_Near.l0, if_neg (by omega)]
    rfl
  | succ j ih =>
    intro N e h h1 h2 f
    have p : N * 2 ^ (j + 1) = N * 2 * 2 ^ j := by rw [Nat.pow_succ, Nat.mul_assoc, Nat.mul_comm 2]
    have hp := Nat.two_pow_pos j
    rw [p] at h f
    have small : N * 2 < 9007199254740992 := Nat.lt_of_le_of_lt (Nat.le_mul_of_pos_right _ hp) h
    rw [show e - ((j + 1 : Nat) : Int) = e - 1 - j by omega] at f h1
    refine (ih (N * 2) (e - 1) h h1 (by omega) f).step fun k => ?_
    rw [compassref02_Near.l0, if_pos (by omega), show (N : Int) * 2 = ((N * 2 : Nat) : Int) by omega, un _ (by omega), w64 (a := e - 1) (by omega) (by omega), w64 (by omega) (by omega)]
    congr 1
    omega
theorem wd_inf (s : Bool) (M : Nat) (p : Int) (h : 973 ≤ p) : wd s M p = Ieee.double.word s 9218868437227405312 := by
  unfold wd
  rw [Nat.min_eq_right (by omega)]
/-- The document's Near, where there is something: at every exponent. -/
theorem near_f (s : Bool) (N : Nat) (e : Int) (more : Bool) (h0 : 0 < N) (hN : N < 18446744073709551616) (h1 : -9223372036854775808 ≤ e) (h2 : e < 9223372036854775808) :
    Evl (fun k => compassref02_Near.f k s (N : Int) e more) ((nr s N (min (max e (-1400)) 1400) more : Nat) : Int) := by
  obtain ⟨b0, b1, b2, b3⟩ := bitLen_bounds N h0 hN
  suffices hj1 : Evl (fun k => compassref02_Near.j1 k (N : Int) e more (sg s)) ((nr s N (min (max e (-1400)) 1400) more : Nat) : Int) by
    have hj0 : Evl (fun k => compassref02_Near.j0 k (N : Int) e more 0 s) ((nr s N (min (max e (-1400)) 1400) more : Nat) : Int) := hj1.step fun k => by
      rw [compassref02_Near.j0]
      cases s
      · rw [if_neg (by decide)]; rfl
      · rw [if_pos rfl]; rfl
    refine hj0.congr fun k => ?_
    unfold compassref02_Near.f
    cases s
    · rw [if_neg (by decide)]
    · rw [if_pos rfl, decide_eq_true (by omega)]
  suffices hj2 : Evl (fun k => compassref02_Near.j2 k (N : Int) e more (sg s) (decide (e < -1300))) ((nr s N (min (max e (-1400)) 1400) more : Nat) : Int) from
    hj2.step fun k => by rw [compassref02_Near.j1, if_neg (by omega)]
  by_cases c1 : e < -1300
  · refine Evl.here fun k => ?_
    rw [compassref02_Near.j2, decide_eq_true c1, if_pos rfl]
    congr 1
    unfold nr
    obtain ⟨c, hc⟩ : ∃ c : Nat, max ((Lib.bitLen N : Int) - 53) (-1074 - (min (max e (-1400)) 1400)) = (c : Int) := ⟨(-1074 - (min (max e (-1400)) 1400)).toNat, by omega⟩
    rw [hc, if_pos (by omega), Int.toNat_natCast]
    have c65 : 65 ≤ c := by omega
    have h64 : 2 ^ 65 ≤ 2 ^ c := Nat.pow_le_pow_right (by decide) c65
    have z : rm N c more = 0 := by
      unfold rm
      rw [Nat.div_eq_of_lt (by omega), Nat.mod_eq_of_lt (by omega), if_neg (by omega)]
    rw [z, show (min (max e (-1400)) 1400) + (c : Int) = -1074 by omega]
    show sg s = ((Ieee.double.word s 0 : Nat) : Int)
    rw [word_sg]; omega
  · rw [decide_eq_false c1]
    by_cases c2 : e > 1100
    · refine Evl.here fun k => ?_
      rw [compassref02_Near.j2, if_neg (by decide), if_pos c2]
      congr 1
      have inf : nr s N (min (max e (-1400)) 1400) more = Ieee.double.word s 9218868437227405312 := by
        unfold nr
        by_cases p : 0 < max ((Lib.bitLen N : Int) - 53) (-1074 - (min (max e (-1400)) 1400))
        · rw [if_pos p, wd_inf _ _ _ (by omega)]
        · rw [if_neg p, nearest_rn _ _ _ h0, Nat.min_eq_right (by omega)]
      rw [inf, word_sg]
      have g := sg_01 s
      rw [IntKind.wrap_u64]
      omega
    · rw [show min (max e (-1400)) 1400 = e by omega]
      obtain ⟨K, hK⟩ := length_f N hN
      suffices hj3 : Evl (fun k => compassref02_Near.j3 k (N : Int) e more (sg s) (max ((Lib.bitLen N : Int) - 53) (-1074 - e))) ((nr s N e more : Nat) : Int) by
        obtain ⟨L, hL⟩ := hj3
        refine ⟨K + L + 1, fun k hk => ?_⟩
        obtain ⟨m, rfl⟩ : ∃ m, k = m + 1 := ⟨k - 1, by omega⟩
        have lk : compassref02_length.f m (N : Int) = _ := hK m (by omega)
        have jl : compassref02_Near.j3 m (N : Int) e more (sg s) _ = _ := hL m (by omega)
        show compassref02_Near.j2 (m + 1) _ _ _ _ _ = _
        rw [compassref02_Near.j2, if_neg (by decide), if_neg c2, lk, Option.bind_some, w64 (a := -1074 - e) (by omega) (by omega), w64 (a := (Lib.bitLen N : Int) - 53) (by omega) (by omega)]
        by_cases q : -1074 - e > (Lib.bitLen N : Int) - 53
        · rw [if_pos q, ← jl, Int.max_eq_right (by omega)]
        · rw [if_neg q, ← jl, Int.max_eq_left (by omega)]
      refine Evl.step (h := fun k => compassref02_Near.l0 k (N : Int) e more (sg s) (max ((Lib.bitLen N : Int) - 53) (-1074 - e))) ?_ (fun k => by rw [compassref02_Near.j3])
      by_cases p : 0 < max ((Lib.bitLen N : Int) - 53) (-1074 - e)
      · obtain ⟨c, hc⟩ := Int.eq_ofNat_of_zero_le (Int.le_of_lt p)
        unfold nr
        rw [if_pos p, hc, Int.toNat_natCast]
        have hM : N < 2 ^ (53 + c) := Nat.lt_of_lt_of_le b3 (Nat.pow_le_pow_right (by decide) (by omega))
        have h2' : e + c = -1074 ∨ 4503599627370496 ≤ N / 2 ^ c := by
          by_cases z : e + c = -1074
          · exact Or.inl z
          · right
            rw [Nat.le_div_iff_mul_le (Nat.two_pow_pos _), show 4503599627370496 = 2 ^ 52 by rfl, ← Nat.pow_add, show 52 + c = Lib.bitLen N - 1 by omega]
            exact b2
        have lp := l1_f2 s N e more c hN hM (by omega) h2' (by omega) (by omega) c 0 (by omega)
        have r0 : rs N 0 more = more := by unfold rs; simp
        have f0 : hf N 0 = false := by unfold hf; simp
        rw [r0, f0, Nat.pow_zero, Nat.div_one, show e + ((0 : Nat) : Int) = e by omega] at lp
        refine lp.step fun k => ?_
        rw [compassref02_Near.l0, if_neg (by omega)]
        rfl
      · obtain ⟨j, hj⟩ : ∃ j : Nat, max ((Lib.bitLen N : Int) - 53) (-1074 - e) = -(j : Int) := ⟨(-(max ((Lib.bitLen N : Int) - 53) (-1074 - e))).toNat, by omega⟩
        unfold nr
        rw [if_neg p, hj]
        have hM : N * 2 ^ j < 9007199254740992 := by
          have := Nat.mul_lt_mul_of_pos_right b3 (Nat.two_pow_pos j)
          rw [← Nat.pow_add] at this
          exact Nat.lt_of_lt_of_le this (show 2 ^ (Lib.bitLen N + j) ≤ 2 ^ 53 from Nat.pow_le_pow_right (by decide) (by omega))
        have h2' : e - j + (0 : Nat) = -1074 ∨ 4503599627370496 ≤ N * 2 ^ j / 2 ^ 0 := by
          by_cases z : e - j = -1074
          · left; omega
          · right
            have := Nat.mul_le_mul_right (2 ^ j) b2
            rw [← Nat.pow_add, show Lib.bitLen N - 1 + j = 52 by omega] at this
            rw [Nat.pow_zero, Nat.div_one]; exact this
        have lp := l1_f2 s (N * 2 ^ j) (e - j) more 0 (by omega) hM (by omega) h2' (by omega) (by omega) 0 0 (by omega)
        have r0 : rs (N * 2 ^ j) 0 more = more := by unfold rs; simp
        have f0 : hf (N * 2 ^ j) 0 = false := by unfold hf; simp
        rw [r0, f0, rm_zero, Nat.pow_zero, Nat.div_one, show e - j + ((0 : Nat) : Int) = e - j by omega] at lp
        rw [← nearest_shift s N j e, nearest_wd0 s _ _ hM (by omega) (by rw [Nat.pow_zero, Nat.div_one] at h2'; omega)]
        exact l0_f2 s more _ j N e hM (by omega) (by omega) lp
theorem refsize_f (n : Int) (h0 : -9223372036854775808 ≤ n) (h1 : n < 9223372036854775808) : compassref02_size.f n = some (n.natAbs : Int) := by
  unfold compassref02_size.f
  simp only [IntKind.wrap_u64]
  by_cases c : n < 0
  · rw [if_pos c, w64 (a := n + 1) (by omega) (by omega), w64 (by omega) (by omega)]; congr 1; omega
  · rw [if_neg c]; congr 1; omega
end Go.Proofs.YtdkhaibibpekoaaDoor.Pure
