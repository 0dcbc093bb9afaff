/- Numbers of any length in base 65536, as the document has them: the printed functions on canonical digits are the operations of whole numbers. -/
import Derived.Test.YtofcjoccnbegdaaQ5
import Derived.Test.YtofcjoccnbegdaaQ6
import Derived.Test.YtofcjoccnbegdaaQ7
import Derived.Test.YtofcjoccnbegdaaQ8
import Derived.Test.YtofcjoccnbegdaaQ9
import Derived.Laws.BitsAllLaws
namespace Go.Proofs.Ytofcjoccnbegdaa.Q
open Go.RowKit Go.Proofs.YtofcjoccnbegdaaW.PrintWords Go.Proofs.YtofcjoccnbegdaaW.PrintLast Go.Proofs.YtofcjoccnbegdaaW.PrintMore
set_option linter.unusedVariables false
namespace Big
def val : List Int → Int
  | [] => 0
  | d :: r => d + 65536 * val r
def Dig (l : List Int) : Prop := ∀ d ∈ l, 0 ≤ d ∧ d < 65536
theorem dig_nil : Dig [] := by intro d h; cases h
theorem dig_cons {d : Int} {r : List Int} : Dig (d :: r) ↔ (0 ≤ d ∧ d < 65536) ∧ Dig r := by simp [Dig]
theorem dig_append {a b : List Int} : Dig (a ++ b) ↔ Dig a ∧ Dig b := by
  simp only [Dig, List.mem_append]
  exact ⟨fun h => ⟨fun d hd => h d (.inl hd), fun d hd => h d (.inr hd)⟩, fun h d hd => hd.elim (h.1 d) (h.2 d)⟩
theorem dig_take {l : List Int} (h : Dig l) (n : Nat) : Dig (l.take n) := fun d hd => h d (List.mem_of_mem_take hd)
theorem dig_drop {l : List Int} (h : Dig l) (n : Nat) : Dig (l.drop n) := fun d hd => h d (List.mem_of_mem_drop hd)
theorem dig_set {l : List Int} (h : Dig l) (i : Nat) (d : Int) (hd : 0 ≤ d ∧ d < 65536) : Dig (l.set i d) := by
  intro x hx
  rcases List.mem_or_eq_of_mem_set hx with h1 | h1
  · exact h x h1
  · subst h1; exact hd
theorem dig_get {l : List Int} (h : Dig l) (i : Nat) : 0 ≤ l.getD i 0 ∧ l.getD i 0 < 65536 := by
  rcases Nat.lt_or_ge i l.length with hl | hl
  · rw [List.getD_eq_getElem?_getD, List.getElem?_eq_getElem hl]; exact h _ (List.getElem_mem hl)
  · rw [List.getD_eq_getElem?_getD, List.getElem?_eq_none hl]; simp
def B (n : Nat) : Int := 65536 ^ n
theorem B_zero : B 0 = 1 := rfl
theorem B_succ (n : Nat) : B (n + 1) = 65536 * B n := by unfold B; rw [Int.pow_succ]; omega
theorem B_add (n m : Nat) : B (n + m) = B n * B m := by unfold B; exact Int.pow_add ..
theorem B_pos (n : Nat) : 0 < B n := by
  induction n with
  | zero => decide
  | succ n ih => rw [B_succ]; omega
theorem B_mono {n m : Nat} (h : n ≤ m) : B n ≤ B m := by
  obtain ⟨k, rfl⟩ := Nat.exists_eq_add_of_le h
  rw [B_add]
  have := B_pos n; have := B_pos k
  have : B n * 1 ≤ B n * B k := Int.mul_le_mul_of_nonneg_left (by omega) (by omega)
  omega
theorem val_nonneg {l : List Int} (h : Dig l) : 0 ≤ val l := by
  induction l with
  | nil => simp [val]
  | cons d r ih => have := dig_cons.1 h; have := ih this.2; simp only [val]; omega
theorem val_lt {l : List Int} (h : Dig l) : val l < B l.length := by
  induction l with
  | nil => simp [val, B]
  | cons d r ih => have := dig_cons.1 h; have := ih this.2; simp only [val, List.length_cons, B_succ]; omega
theorem val_append (a b : List Int) : val (a ++ b) = val a + B a.length * val b := by
  induction a with
  | nil => simp [val, B]
  | cons d r ih => simp only [List.cons_append, val, ih, List.length_cons, B_succ]; grind
theorem val_snoc (a : List Int) (d : Int) : val (a ++ [d]) = val a + B a.length * d := by rw [val_append]; simp [val]
theorem val_take_succ (l : List Int) (i : Nat) (h : i < l.length) : val (l.take (i + 1)) = val (l.take i) + B i * l.getD i 0 := by
  rw [List.take_succ_eq_append_getElem h, val_snoc, List.length_take, Nat.min_eq_left (by omega), List.getD_eq_getElem?_getD, List.getElem?_eq_getElem h]; rfl
theorem val_set (l : List Int) (i : Nat) (h : i < l.length) (d : Int) : val (l.set i d) = val l + B i * (d - l.getD i 0) := by
  induction l generalizing i with
  | nil => simp at h
  | cons x r ih =>
    cases i with
    | zero => simp [val, B]; omega
    | succ i =>
      simp only [List.set_cons_succ, val, List.length_cons] at *
      rw [ih i (by omega), B_succ]
      have : (x :: r).getD (i + 1) 0 = r.getD i 0 := by simp
      rw [this]; grind
theorem val_replicate (n : Nat) : val (List.replicate n 0) = 0 := by
  induction n with
  | zero => rfl
  | succ n ih => simp [List.replicate_succ, val, ih]
theorem dig_replicate (n : Nat) : Dig (List.replicate n 0) := by intro d hd; have := List.eq_of_mem_replicate hd; omega
theorem val_zero {l : List Int} (h : Dig l) (hv : val l = 0) : ∀ i, l.getD i 0 = 0 := by
  induction l with
  | nil => simp
  | cons d r ih =>
    have h1 := dig_cons.1 h
    have h2 := val_nonneg h1.2
    simp only [val] at hv
    intro i
    cases i with
    | zero => simp; omega
    | succ i => simpa using ih h1.2 (by omega) i
/-- the digits of a number, without noughts at the end -/
def dig (n : Nat) : List Int := if h : n = 0 then [] else ((n % 65536 : Nat) : Int) :: dig (n / 65536)
termination_by n
decreasing_by omega
theorem dig_zero : dig 0 = [] := by unfold dig; simp
theorem dig_pos {n : Nat} (h : n ≠ 0) : dig n = ((n % 65536 : Nat) : Int) :: dig (n / 65536) := by rw [dig]; simp [h]
theorem val_dig (n : Nat) : val (dig n) = n := by
  induction n using Nat.strongRecOn with
  | ind n ih =>
    by_cases h : n = 0
    · subst h; rw [dig_zero]; rfl
    · rw [dig_pos h, val, ih _ (by omega)]; omega
theorem dig_dig (n : Nat) : Dig (dig n) := by
  induction n using Nat.strongRecOn with
  | ind n ih =>
    by_cases h : n = 0
    · subst h; rw [dig_zero]; exact dig_nil
    · rw [dig_pos h]; exact dig_cons.2 ⟨by omega, ih _ (by omega)⟩
/-- no nought at the end -/
def Trim (l : List Int) : Prop := l.getLast? ≠ some 0
theorem trim_of_cons {d : Int} {r : List Int} (h : Trim (d :: r)) : Trim r := by
  unfold Trim at *
  cases r with
  | nil => simp
  | cons x r => simpa [List.getLast?_cons_cons] using h
theorem dig_uniq {l : List Int} (h : Dig l) (ht : Trim l) : l = dig (val l).toNat := by
  induction l with
  | nil => simp [val, dig_zero]
  | cons d r ih =>
    have h1 := dig_cons.1 h
    have h2 := val_nonneg h1.2
    have ih := ih h1.2 (trim_of_cons ht)
    have hne : (val (d :: r)).toNat ≠ 0 := by
      simp only [val]
      intro h0
      have hv : val r = 0 := by omega
      have hr : r = [] := by rw [ih, hv]; exact dig_zero
      subst hr
      have : d = 0 := by omega
      subst this
      exact ht rfl
    rw [dig_pos hne]
    simp only [val] at *
    congr 1
    · omega
    · rw [ih]
      congr 1
      rw [← ih]; omega
theorem dig_length_le {n m : Nat} (h : (n : Int) < B m) : (dig n).length ≤ m := by
  induction m generalizing n with
  | zero => have : n = 0 := by rw [B_zero] at h; omega
            subst this; simp [dig_zero]
  | succ m ih =>
    by_cases h0 : n = 0
    · subst h0; simp [dig_zero]
    · rw [dig_pos h0, List.length_cons]
      have := ih (n := n / 65536) (by rw [B_succ] at h; omega)
      omega
theorem trim_dig (n : Nat) : Trim (dig n) := by
  induction n using Nat.strongRecOn with
  | ind n ih =>
    by_cases h : n = 0
    · subst h; rw [dig_zero]; simp [Trim]
    · rw [dig_pos h]
      have := ih (n / 65536) (by omega)
      by_cases h1 : n / 65536 = 0
      · rw [h1, dig_zero]; unfold Trim; simp; omega
      · rw [dig_pos h1] at this ⊢
        unfold Trim at *
        rw [List.getLast?_cons_cons]; exact this
theorem dig_length_lt {n : Nat} (h : n ≠ 0) : B ((dig n).length - 1) ≤ n := by
  induction n using Nat.strongRecOn with
  | ind n ih =>
    rw [dig_pos h]
    by_cases h1 : n / 65536 = 0
    · rw [h1, dig_zero]; simp [B]; omega
    · have := ih (n / 65536) (by omega) h1
      have hl : (dig (n / 65536)).length ≠ 0 := by rw [dig_pos h1]; simp
      simp only [List.length_cons, Nat.add_sub_cancel]
      obtain ⟨k, hk⟩ : ∃ k, (dig (n / 65536)).length = k + 1 := ⟨_, (Nat.succ_pred_eq_of_ne_zero hl).symm⟩
      rw [hk] at this ⊢
      rw [B_succ]
      simp only [Nat.add_sub_cancel] at this
      omega

/-! ### the printed functions -/
theorem wu64 (n : Int) : IntKind.u64.wrap n = n % 18446744073709551616 := by simp [IntKind.wrap, IntKind.bits, IntKind.signed]
theorem wr64 {n : Int} (h1 : -9223372036854775808 ≤ n) (h2 : n ≤ 9223372036854775807) : wrap64 n = n := by unfold wrap64; omega
theorem and16 (a : Int) (h0 : 0 ≤ a) (h1 : a < 18446744073709551616) : Go.bits .and .u64 a 65535 = a % 65536 := by
  have := bits_mask .u64 64 (by decide) (fun n h0 h1 => by rw [wu64]; omega) 16 (by omega) a h0 (by simpa using h1)
  simpa using this
theorem rd_get (l : List Int) (i : Nat) : rd l (i : Int) = l.getD i 0 := by simp [rd]

theorem val_take_add_drop (l : List Int) (i : Nat) : val l = val (l.take i) + B (min i l.length) * val (l.drop i) := by
  have := val_append (l.take i) (l.drop i)
  rw [List.take_append_drop, List.length_take] at this
  exact this

theorem trim_l0 (l : List Int) (hd : Dig l) (hl : l.length ≤ 9223372036854775807) : ∀ (i k : Nat), i ≤ l.length → val (l.drop i) = 0 → i < k →
    compassref01_trim.l0 k l (i : Int) = some (dig (val l).toNat) := by
  intro i
  induction i with
  | zero =>
    intro k _ h0 hk
    obtain ⟨k, rfl⟩ : ∃ m, k = m + 1 := ⟨k - 1, by omega⟩
    simp only [compassref01_trim.l0]
    rw [if_neg (by omega), if_pos (by omega), if_pos (by omega)]
    have : val l = 0 := by simpa using h0
    rw [this]; simp [dig_zero]
  | succ i ih =>
    intro k hi h0 hk
    obtain ⟨k, rfl⟩ : ∃ m, k = m + 1 := ⟨k - 1, by omega⟩
    simp only [compassref01_trim.l0]
    have e : wrap64 (((i + 1 : Nat) : Int) - 1) = (i : Int) := by unfold wrap64; omega
    rw [if_pos (by omega), e, if_pos (by omega), if_pos (by omega), rd_get]
    have hdrop : val (l.drop i) = l.getD i 0 + 65536 * val (l.drop (i + 1)) := by
      rw [List.drop_eq_getElem_cons (by omega), val, List.getD_eq_getElem?_getD, List.getElem?_eq_getElem (by omega)]; rfl
    by_cases hz : l.getD i 0 = 0
    · rw [if_pos hz]
      exact ih k (by omega) (by rw [hdrop, hz, h0]; rfl) (by omega)
    · rw [if_neg hz, if_pos (by omega), if_pos (by omega)]
      congr 1
      have hv : val l = val (l.take (i + 1)) := by
        have := val_take_add_drop l (i + 1)
        rw [h0] at this; omega
      rw [hv, show (((i + 1 : Nat) : Int)).toNat = i + 1 from by omega]
      apply dig_uniq (dig_take hd _)
      unfold Trim
      rw [List.take_succ_eq_append_getElem (by omega), List.getLast?_append]
      simp
      intro h
      apply hz
      rw [List.getD_eq_getElem?_getD, List.getElem?_eq_getElem (by omega)]; exact h
theorem trim_f (l : List Int) (hd : Dig l) (hl : l.length ≤ 9223372036854775807) (k : Nat) (hk : l.length < k) : compassref01_trim.f k l = some (dig (val l).toNat) :=
  trim_l0 l hd hl l.length k (Nat.le_refl _) (by simp [val]) hk

/-- The number's digits and sign. -/
def big (z : Int) : Bool × List Int := (decide (z < 0), dig z.natAbs)
theorem natural_f (b : Bool) (a : Int) (h0 : 0 ≤ a) (h1 : a < 18446744073709551616) (k : Nat) (hk : 4 < k) : compassref01_Natural.f k b a = some (b && decide (0 < a), dig a.toNat) := by
  unfold compassref01_Natural.f
  simp only [Option.bind_some]
  have hd : Dig [Go.bits .and .u64 a 65535, Go.bits .and .u64 (a / 65536) 65535, Go.bits .and .u64 (a / 4294967296) 65535, a / 281474976710656] := by
    rw [and16 a h0 h1, and16 (a / 65536) (by omega) (by omega), and16 (a / 4294967296) (by omega) (by omega)]
    simp only [dig_cons]
    refine ⟨by omega, by omega, by omega, by omega, dig_nil⟩
  have hv : val [Go.bits .and .u64 a 65535, Go.bits .and .u64 (a / 65536) 65535, Go.bits .and .u64 (a / 4294967296) 65535, a / 281474976710656] = a := by
    rw [and16 a h0 h1, and16 (a / 65536) (by omega) (by omega), and16 (a / 4294967296) (by omega) (by omega)]
    simp only [val]; omega
  rw [trim_f _ hd (by simp) k (by simpa using hk), hv]
  cases b <;> simp
theorem of_f (z : Int) (h0 : -9223372036854775808 ≤ z) (h1 : z ≤ 9223372036854775807) (k : Nat) (hk : 4 < k) : compassref01_Of.f k z = some (big z) := by
  unfold compassref01_Of.f big
  by_cases h : z < 0
  · rw [if_pos h]
    have e : IntKind.u64.wrap (IntKind.u64.wrap (wrap64 (-wrap64 (z + 1))) + 1) = -z := by rw [wu64, wu64]; unfold wrap64; omega
    rw [e, natural_f _ _ (by omega) (by omega) k hk]
    simp only [Option.bind_some]
    congr 2
    · first | (simp [h]; done) | (simp [h]; omega)
    · congr 1; omega
  · rw [if_neg h]
    have e : IntKind.u64.wrap z = z := by rw [wu64]; omega
    rw [e, natural_f _ _ (by omega) (by omega) k hk]
    simp only [Option.bind_some]
    congr 2
    · first | (simp [h]; done) | (simp [h]; omega)
    · congr 1; omega

/-! order -/
theorem above_l0 (a b : List Int) (ha : Dig a) (hb : Dig b) (hlen : a.length = b.length) (hl : a.length ≤ 9223372036854775807) : ∀ (i k : Nat), i ≤ a.length → a.drop i = b.drop i → i < k →
    compassref01_above.l0 k a b ((i : Int) - 1) = some (if val a < val b then -1 else if val a = val b then 0 else 1) := by
  intro i
  induction i with
  | zero =>
    intro k _ h0 hk
    obtain ⟨k, rfl⟩ : ∃ m, k = m + 1 := ⟨k - 1, by omega⟩
    simp only [compassref01_above.l0]
    rw [if_neg (by omega)]
    have : a = b := by simpa using h0
    subst this
    simp
  | succ i ih =>
    intro k hi h0 hk
    obtain ⟨k, rfl⟩ : ∃ m, k = m + 1 := ⟨k - 1, by omega⟩
    simp only [compassref01_above.l0]
    have e : (((i + 1 : Nat) : Int) - 1) = (i : Int) := by omega
    rw [e, if_pos (by omega), if_pos (by omega), if_pos (by omega), if_pos (by omega), rd_get, rd_get]
    have va := val_take_add_drop a (i + 1)
    have vb := val_take_add_drop b (i + 1)
    rw [Nat.min_eq_left (by omega)] at va vb
    rw [← h0] at vb
    have ta := val_take_succ a i (by omega)
    have tb := val_take_succ b i (by omega)
    have la := val_lt (dig_take ha i)
    have lb := val_lt (dig_take hb i)
    rw [List.length_take, Nat.min_eq_left (by omega)] at la lb
    have na := val_nonneg (dig_take ha i)
    have nb := val_nonneg (dig_take hb i)
    have bp := B_pos i
    generalize val (a.drop (i + 1)) = D at va vb
    generalize B (i + 1) = E at va vb
    generalize hx : a.getD i 0 = x at *
    generalize hy : b.getD i 0 = y at *
    by_cases h1 : x < y
    · rw [if_pos h1]
      have : B i * (x + 1) ≤ B i * y := Int.mul_le_mul_of_nonneg_left (by omega) (by omega)
      rw [if_pos]
      rw [Int.mul_add, Int.mul_one] at this
      omega
    · rw [if_neg h1]
      by_cases h2 : x > y
      · rw [if_pos h2]
        have : B i * (y + 1) ≤ B i * x := Int.mul_le_mul_of_nonneg_left (by omega) (by omega)
        rw [Int.mul_add, Int.mul_one] at this
        rw [if_neg (by omega), if_neg (by omega)]
      · rw [if_neg h2]
        have hw : wrap64 ((i : Int) - 1) = (i : Int) - 1 := wr64 (by omega) (by omega)
        rw [hw]
        refine ih k (by omega) ?_ (by omega)
        rw [List.drop_eq_getElem_cons (by omega), List.drop_eq_getElem_cons (by omega : i < b.length), h0]
        congr 1
        rw [List.getD_eq_getElem?_getD, List.getElem?_eq_getElem (by omega)] at hx hy
        simp at hx hy
        omega
theorem dig_length_mono {n m : Nat} (h : (dig n).length < (dig m).length) : n < m := by
  have h1 : (n : Int) < B (dig n).length := by have := val_lt (dig_dig n); rwa [val_dig] at this
  have hm : m ≠ 0 := by rintro rfl; simp [dig_zero] at h
  have h2 := dig_length_lt hm
  have h3 := B_mono (show (dig n).length ≤ (dig m).length - 1 by omega)
  omega
theorem dig_len_le (n k : Nat) (h : (n : Int) < B k) : (dig n).length ≤ k := dig_length_le h
theorem above_f (n m k : Nat) (hl : (dig n).length ≤ 9223372036854775807) (hk : (dig n).length < k) : compassref01_above.f k (dig n) (dig m) = some (if n < m then -1 else if n = m then 0 else 1) := by
  unfold compassref01_above.f
  by_cases h : ((dig n).length : Int) = ((dig m).length : Int)
  · rw [if_pos h, wr64 (by omega) (by omega), above_l0 _ _ (dig_dig n) (dig_dig m) (by omega) hl (dig n).length k (Nat.le_refl _) (by rw [List.drop_length, show (dig n).length = (dig m).length by omega, List.drop_length]) hk]
    rw [val_dig, val_dig]
    congr 1
    simp only [Int.ofNat_lt, Int.ofNat_inj]
  · rw [if_neg h]
    by_cases h1 : ((dig n).length : Int) < ((dig m).length : Int)
    · rw [if_pos h1, if_pos (dig_length_mono (by omega))]
    · have := dig_length_mono (n := m) (m := n) (by omega)
      rw [if_neg h1, if_neg (by omega), if_neg (by omega)]
def sgn (a b : Int) : Int := if a < b then -1 else if a = b then 0 else 1
theorem compare_f (a b : Int) (k : Nat) (h1 : (dig a.natAbs).length ≤ 9223372036854775807) (h2 : (dig b.natAbs).length ≤ 9223372036854775807) (hk1 : (dig a.natAbs).length < k) (hk2 : (dig b.natAbs).length < k) :
    compassref01_Compare.f k (big a).1 (big a).2 (big b).1 (big b).2 = some (sgn a b) := by
  unfold compassref01_Compare.f big sgn
  by_cases ha : a < 0 <;> by_cases hb : b < 0
  · simp only [ha, hb, decide_true, bne_self_eq_false, Bool.false_eq_true, if_false, if_true]
    rw [above_f _ _ k h2 hk2]
    simp only [Option.bind_some]
    congr 1
    split
    · rw [if_pos (by omega)]
    · split
      · rw [if_neg (by omega), if_pos (by omega)]
      · rw [if_neg (by omega), if_neg (by omega)]
  · simp [ha, hb]; omega
  · simp [ha, hb]; rw [if_neg (by omega), if_neg (by omega)]
  · simp only [ha, hb, decide_false, bne_self_eq_false, Bool.false_eq_true, if_false]
    rw [above_f _ _ k h1 hk1]
    simp only [Option.bind_some]
    congr 1
    split
    · rw [if_pos (by omega)]
    · split
      · rw [if_neg (by omega), if_pos (by omega)]
      · rw [if_neg (by omega), if_neg (by omega)]
/-! sums -/
theorem dm1 (s : Int) (h0 : 0 ≤ s) (h1 : s < 131072) : (0 ≤ s / 65536 ∧ s / 65536 ≤ 1) ∧ (0 ≤ s % 65536 ∧ s % 65536 < 65536) ∧ s % 65536 = s - 65536 * (s / 65536) := by omega
theorem dm2 (s : Int) (h : 0 ≤ s / 65536 ∧ s / 65536 ≤ 1) : 0 ≤ 1 - s / 65536 ∧ 1 - s / 65536 ≤ 1 := by omega
theorem ring1 (p x y c q : Int) : p * (x + y + c - 65536 * q) = p * x + p * y + c * p - q * (65536 * p) := by grind
theorem ring2 (p x y w q : Int) : p * (x + 65536 - y - w - 65536 * q) = p * x - p * y - w * p + (1 - q) * (65536 * p) := by grind
theorem at_f (l : List Int) (i : Nat) : compassref01_at.f l (i : Int) = some (l.getD i 0) := by
  unfold compassref01_at.f
  by_cases h : (i : Int) < (l.length : Int)
  · rw [if_pos h, if_pos (by omega), rd_get]
  · rw [if_neg h, List.getD_eq_getElem?_getD, List.getElem?_eq_none (by omega)]; rfl
theorem val_takeD (l : List Int) (i : Nat) : val (l.take (i + 1)) = val (l.take i) + B i * l.getD i 0 := by
  rcases Nat.lt_or_ge i l.length with h | h
  · exact val_take_succ l i h
  · rw [List.take_of_length_le (by omega), List.take_of_length_le h, List.getD_eq_getElem?_getD, List.getElem?_eq_none h]; simp
theorem plus_l0 (a b : List Int) (ha : Dig a) (hb : Dig b) (hla : a.length ≤ 1099511627776) (hlb : b.length ≤ 1099511627776) (m m' : Bool) :
    ∀ (d i k : Nat) (acc : List Int) (c : Int), i + d = max a.length b.length + 1 → Dig acc → acc.length = i → 0 ≤ c → c ≤ 1 → val acc + c * B i = val (a.take i) + val (b.take i) → 2 * d + max a.length b.length + 5 ≤ k →
    compassref01_Plus.l0 k acc c (i : Int) m a m' b = some (m, dig (val a + val b).toNat) := by
  have out : ∀ (i k : Nat) (acc : List Int), max a.length b.length ≤ i → i ≤ max a.length b.length + 1 → Dig acc → acc.length = i → val acc + 0 * B i = val (a.take i) + val (b.take i) → max a.length b.length + 4 ≤ k →
      compassref01_Plus.j1 k acc 0 (i : Int) false m a m' b = some (m, dig (val a + val b).toNat) := by
    intro i k acc h1 h2 hd hl hI hk
    obtain ⟨k, rfl⟩ : ∃ m, k = m + 1 := ⟨k - 1, by omega⟩
    simp only [compassref01_Plus.j1]
    rw [if_neg (by simp), trim_f acc hd (by omega) k (by omega)]
    simp only [Option.bind_some]
    rw [List.take_of_length_le (by omega), List.take_of_length_le (by omega)] at hI
    have : val acc = val a + val b := by omega
    rw [this]
  intro d
  induction d with
  | zero =>
    intro i k acc c hi hd hl h0 h1 hI hk
    obtain ⟨k, rfl⟩ : ∃ m, k = m + 1 := ⟨k - 1, by omega⟩
    simp only [compassref01_Plus.l0]
    have hc : c = 0 := by
      rcases (show c = 0 ∨ c = 1 by omega) with h | h
      · exact h
      · subst h
        rw [List.take_of_length_le (by omega), List.take_of_length_le (by omega)] at hI
        have := val_lt ha
        have := val_lt hb
        have := val_nonneg hd
        have := B_mono (show a.length ≤ max a.length b.length by omega)
        have := B_mono (show b.length ≤ max a.length b.length by omega)
        have := B_pos (max a.length b.length)
        have e : B i = 65536 * B (max a.length b.length) := by rw [← B_succ]; congr 1
        omega
    subst hc
    rw [if_neg (by omega), if_neg (by omega)]
    exact out i k acc (by omega) (by omega) hd hl hI (by omega)
  | succ d ih =>
    intro i k acc c hi hd hl h0 h1 hI hk
    obtain ⟨k, rfl⟩ : ∃ m, k = m + 2 := ⟨k - 2, by omega⟩
    have g1 : i + 1 + d = max a.length b.length + 1 := by omega
    have g3 : 2 * d + max a.length b.length + 5 ≤ k := by omega
    have g4 : acc.length < 17592186044416 := by omega
    have g5 : wrap64 ((i : Int) + 1) = ((i + 1 : Nat) : Int) := wr64 (by omega) (by omega)
    have go : compassref01_Plus.j1 (k + 1) acc c (i : Int) true m a m' b = some (m, dig (val a + val b).toNat) := by
      simp only [compassref01_Plus.j1]
      have hx := dig_get ha i
      have hy := dig_get hb i
      have ta := val_takeD a i
      have tb := val_takeD b i
      rw [if_pos trivial, at_f a i, at_f b i]
      simp only [Option.bind_some]
      rw [if_pos g4, g5]
      generalize hxe : a.getD i 0 = x at *
      generalize hye : b.getD i 0 = y at *
      have e1 : IntKind.u64.wrap (IntKind.u64.wrap (x + y) + c) = x + y + c := by rw [wu64, wu64]; omega
      rw [e1, and16 _ (by omega) (by omega)]
      have dm := dm1 (x + y + c) (by omega) (by omega)
      refine ih (i + 1) k _ _ g1 (dig_append.2 ⟨hd, dig_cons.2 ⟨dm.2.1, dig_nil⟩⟩) (by simp [hl]) dm.1.1 dm.1.2 ?_ g3
      rw [val_snoc, hl, ta, tb, B_succ]
      rw [dm.2.2]
      clear dm
      generalize (x + y + c) / 65536 = q at *
      generalize B i = p at *
      have e9 := ring1 p x y c q
      omega
    simp only [compassref01_Plus.l0]
    split
    · exact go
    · split
      · exact go
      · by_cases hc : c = 0
        · subst hc
          exact out i (k + 1) acc (by omega) (by omega) hd hl hI (by omega)
        · rw [decide_eq_true (by omega : c > 0)]; exact go

theorem plus_l2 (a b : List Int) (ha : Dig a) (hb : Dig b) (hlb : b.length ≤ a.length) (hla : a.length ≤ 1099511627776) (hv : val b ≤ val a) (m m' : Bool) :
    ∀ (d i k : Nat) (acc : List Int) (w : Int), i + d = a.length → Dig acc → acc.length = i → 0 ≤ w → w ≤ 1 → val acc + val (b.take i) = val (a.take i) + w * B i → d + a.length + 3 ≤ k →
    compassref01_Plus.l2 k acc w (i : Int) m a m' b = some (m && decide (0 < (dig (val a - val b).toNat).length), dig (val a - val b).toNat) := by
  intro d
  induction d with
  | zero =>
    intro i k acc w hi hd hl h0 h1 hI hk
    obtain ⟨k, rfl⟩ : ∃ m, k = m + 1 := ⟨k - 1, by omega⟩
    simp only [compassref01_Plus.l2]
    rw [if_neg (by omega), trim_f acc hd (by omega) k (by omega)]
    simp only [Option.bind_some]
    have hi' : i = a.length := by omega
    rw [hi', List.take_length, List.take_of_length_le hlb] at hI
    have hacc := val_lt hd
    rw [hl, hi'] at hacc
    have hw : w = 0 := by
      rcases (show w = 0 ∨ w = 1 by omega) with h | h
      · exact h
      · subst h; omega
    subst hw
    have : val acc = val a - val b := by omega
    rw [this]
    cases m <;> simp
  | succ d ih =>
    intro i k acc w hi hd hl h0 h1 hI hk
    obtain ⟨k, rfl⟩ : ∃ m, k = m + 1 := ⟨k - 1, by omega⟩
    have g1 : i + 1 + d = a.length := by omega
    have g3 : d + a.length + 3 ≤ k := by omega
    have g4 : acc.length < 17592186044416 := by omega
    have g5 : wrap64 ((i : Int) + 1) = ((i + 1 : Nat) : Int) := wr64 (by omega) (by omega)
    have g6 : (i : Int) < (a.length : Int) := by omega
    simp only [compassref01_Plus.l2]
    have hx := dig_get ha i
    have hy := dig_get hb i
    have ta := val_takeD a i
    have tb := val_takeD b i
    rw [if_pos g6, at_f a i, at_f b i]
    simp only [Option.bind_some]
    rw [if_pos g4, g5]
    generalize hxe : a.getD i 0 = x at *
    generalize hye : b.getD i 0 = y at *
    have e1 : IntKind.u64.wrap (IntKind.u64.wrap (IntKind.u64.wrap (x + 65536) - y) - w) = x + 65536 - y - w := by rw [wu64, wu64, wu64]; omega
    rw [e1, and16 _ (by omega) (by omega)]
    have e2 : IntKind.u64.wrap (1 - (x + 65536 - y - w) / 65536) = 1 - (x + 65536 - y - w) / 65536 := by rw [wu64]; omega
    rw [e2]
    have dm := dm1 (x + 65536 - y - w) (by omega) (by omega)
    have dn := dm2 _ dm.1
    refine ih (i + 1) k _ _ g1 (dig_append.2 ⟨hd, dig_cons.2 ⟨dm.2.1, dig_nil⟩⟩) (by simp [hl]) dn.1 dn.2 ?_ g3
    rw [val_snoc, hl, ta, tb, B_succ]
    rw [dm.2.2]
    clear dm dn
    generalize (x + 65536 - y - w) / 65536 = q at *
    generalize B i = p at *
    have e9 := ring2 p x y w q
    omega

theorem plus_l3 (a b : List Int) (ha : Dig a) (hb : Dig b) (hlb : b.length ≤ a.length) (hla : a.length ≤ 1099511627776) (hv : val b ≤ val a) (m m' : Bool) :
    ∀ (d i k : Nat) (acc : List Int) (w : Int), i + d = a.length → Dig acc → acc.length = i → 0 ≤ w → w ≤ 1 → val acc + val (b.take i) = val (a.take i) + w * B i → d + a.length + 3 ≤ k →
    compassref01_Plus.l3 k acc w (i : Int) m a m' b = some (m && decide (0 < (dig (val a - val b).toNat).length), dig (val a - val b).toNat) := by
  intro d
  induction d with
  | zero =>
    intro i k acc w hi hd hl h0 h1 hI hk
    obtain ⟨k, rfl⟩ : ∃ m, k = m + 1 := ⟨k - 1, by omega⟩
    simp only [compassref01_Plus.l3]
    rw [if_neg (by omega), trim_f acc hd (by omega) k (by omega)]
    simp only [Option.bind_some]
    have hi' : i = a.length := by omega
    rw [hi', List.take_length, List.take_of_length_le hlb] at hI
    have hacc := val_lt hd
    rw [hl, hi'] at hacc
    have hw : w = 0 := by
      rcases (show w = 0 ∨ w = 1 by omega) with h | h
      · exact h
      · subst h; omega
    subst hw
    have : val acc = val a - val b := by omega
    rw [this]
    cases m <;> simp
  | succ d ih =>
    intro i k acc w hi hd hl h0 h1 hI hk
    obtain ⟨k, rfl⟩ : ∃ m, k = m + 1 := ⟨k - 1, by omega⟩
    have g1 : i + 1 + d = a.length := by omega
    have g3 : d + a.length + 3 ≤ k := by omega
    have g4 : acc.length < 17592186044416 := by omega
    have g5 : wrap64 ((i : Int) + 1) = ((i + 1 : Nat) : Int) := wr64 (by omega) (by omega)
    have g6 : (i : Int) < (a.length : Int) := by omega
    simp only [compassref01_Plus.l3]
    have hx := dig_get ha i
    have hy := dig_get hb i
    have ta := val_takeD a i
    have tb := val_takeD b i
    rw [if_pos g6, at_f a i, at_f b i]
    simp only [Option.bind_some]
    rw [if_pos g4, g5]
    generalize hxe : a.getD i 0 = x at *
    generalize hye : b.getD i 0 = y at *
    have e1 : IntKind.u64.wrap (IntKind.u64.wrap (IntKind.u64.wrap (x + 65536) - y) - w) = x + 65536 - y - w := by rw [wu64, wu64, wu64]; omega
    rw [e1, and16 _ (by omega) (by omega)]
    have e2 : IntKind.u64.wrap (1 - (x + 65536 - y - w) / 65536) = 1 - (x + 65536 - y - w) / 65536 := by rw [wu64]; omega
    rw [e2]
    have dm := dm1 (x + 65536 - y - w) (by omega) (by omega)
    have dn := dm2 _ dm.1
    refine ih (i + 1) k _ _ g1 (dig_append.2 ⟨hd, dig_cons.2 ⟨dm.2.1, dig_nil⟩⟩) (by simp [hl]) dn.1 dn.2 ?_ g3
    rw [val_snoc, hl, ta, tb, B_succ]
    rw [dm.2.2]
    clear dm dn
    generalize (x + 65536 - y - w) / 65536 = q at *
    generalize B i = p at *
    have e9 := ring2 p x y w q
    omega

theorem plus_f (x y : Int) (k : Nat) (h1 : (dig x.natAbs).length ≤ 1099511627776) (h2 : (dig y.natAbs).length ≤ 1099511627776) (hk : 3 * max (dig x.natAbs).length (dig y.natAbs).length + 8 ≤ k) :
    compassref01_Plus.f k (big x).1 (big x).2 (big y).1 (big y).2 = some (big (x + y)) := by
  unfold compassref01_Plus.f big
  dsimp only
  by_cases hs : decide (x < 0) = decide (y < 0)
  · rw [if_pos (by simp [hs])]
    have := plus_l0 (dig x.natAbs) (dig y.natAbs) (dig_dig _) (dig_dig _) h1 h2 (decide (x < 0)) (decide (y < 0)) (max (dig x.natAbs).length (dig y.natAbs).length + 1) 0 k [] 0 (by omega) dig_nil rfl (by omega) (by omega) (by simp [val]) (by omega)
    refine Eq.trans this ?_
    rw [val_dig, val_dig]
    have hs' : x < 0 ↔ y < 0 := by simpa using hs
    congr 2
    · rw [decide_eq_decide]; omega
    · congr 1; omega
  · rw [if_neg (by simp [hs])]
    have hs' : ¬ (x < 0 ↔ y < 0) := fun h => hs (decide_eq_decide.2 h)
    rw [above_f _ _ k (by omega) (by omega)]
    simp only [Option.bind_some]
    have hpos : ∀ n : Nat, n ≠ 0 → 0 < (dig n).length := fun n h => by rw [dig_pos h]; simp
    by_cases hlt : x.natAbs < y.natAbs
    · rw [if_pos hlt, if_pos (by omega)]
      have hle : (dig x.natAbs).length ≤ (dig y.natAbs).length := by
        rcases Nat.lt_or_ge (dig y.natAbs).length (dig x.natAbs).length with h | h
        · have := dig_length_mono h; omega
        · exact h
      have := plus_l2 (dig y.natAbs) (dig x.natAbs) (dig_dig _) (dig_dig _) hle h2 (by rw [val_dig, val_dig]; omega) (decide (y < 0)) (decide (x < 0)) (dig y.natAbs).length 0 k [] 0 (by omega) dig_nil rfl (by omega) (by omega) (by simp [val]) (by omega)
      refine Eq.trans this ?_
      rw [val_dig, val_dig]
      have e : ((y.natAbs : Int) - (x.natAbs : Int)).toNat = (x + y).natAbs := by omega
      have := hpos (x + y).natAbs (by omega)
      rw [e]
      congr 2
      rw [decide_eq_true this, Bool.and_true, decide_eq_decide]; omega
    · rw [if_neg hlt]
      have hle : (dig y.natAbs).length ≤ (dig x.natAbs).length := by
        rcases Nat.lt_or_ge (dig x.natAbs).length (dig y.natAbs).length with h | h
        · have := dig_length_mono h; omega
        · exact h
      rw [if_neg (by split <;> omega)]
      have := plus_l3 (dig x.natAbs) (dig y.natAbs) (dig_dig _) (dig_dig _) hle h1 (by rw [val_dig, val_dig]; omega) (decide (x < 0)) (decide (y < 0)) (dig x.natAbs).length 0 k [] 0 (by omega) dig_nil rfl (by omega) (by omega) (by simp [val]) (by omega)
      refine Eq.trans this ?_
      rw [val_dig, val_dig]
      have e : ((x.natAbs : Int) - (y.natAbs : Int)).toNat = (x + y).natAbs := by omega
      rw [e]
      congr 2
      by_cases h0 : (x + y).natAbs = 0
      · rw [h0, dig_zero]; simp; omega
      · rw [decide_eq_true (hpos _ h0), Bool.and_true, decide_eq_decide]; omega

/-! products -/
theorem ring3 (V p q s c a b x : Int) (h : p = q * s) : V + p * (a * b + c) = V + c * p + a * q * (s * b) := by subst h; grind
theorem prod_le {a b : Int} (h0 : 0 ≤ a) (h1 : a ≤ 65535) (h2 : 0 ≤ b) (h3 : b ≤ 65535) : 0 ≤ a * b ∧ a * b ≤ 4294836225 := by
  have e1 : 0 ≤ a * b := Int.mul_nonneg h0 h2
  have e2 : a * b ≤ 65535 * b := Int.mul_le_mul_of_nonneg_right h1 h2
  omega
theorem dm3 (s : Int) (h0 : 0 ≤ s) (h1 : s < 4294967296) : (0 ≤ s / 65536 ∧ s / 65536 < 65536) ∧ (0 ≤ s % 65536 ∧ s % 65536 < 65536) ∧ s % 65536 = s - 65536 * (s / 65536) := by omega
theorem dm4 (x c y : Int) (hx : 0 ≤ x ∧ x < 65536) (hc : 0 ≤ c ∧ c < 65536) (hy : 0 ≤ y ∧ y ≤ 4294836225) :
    IntKind.u64.wrap (IntKind.u64.wrap (x + c) + IntKind.u64.wrap y) = x + c + y ∧ 0 ≤ x + c + y ∧ x + c + y < 4294967296 ∧ x + c + y < 18446744073709551616 := by
  rw [wu64, wu64, wu64]; omega
theorem ring4 (V p x c y q : Int) : V + p * (x + c + y - 65536 * q - x) + q * (65536 * p) = V + p * (c + y) := by grind
theorem ring5 (V p c y : Int) : V + p * (c + y) = V + c * p + p * y := by grind
theorem ring6 (s q a b : Int) : s * q * (a * b) = a * s * (q * b) := by grind
theorem mul_lt_B {a b : Int} {n m : Nat} (h0 : 0 ≤ a) (h1 : a < B n) (h2 : 0 ≤ b) (h3 : b < B m) : a * b < B (n + m) := by
  rw [B_add]
  have e1 : a * b ≤ a * B m := Int.mul_le_mul_of_nonneg_left (by omega) h0
  have e2 : a * B m < B n * B m := Int.mul_lt_mul_of_pos_right h1 (B_pos m)
  omega
theorem carry_none {c T : Int} {n m : Nat} (h0 : 0 ≤ c) (h1 : c * B n ≤ T) (h2 : T < B m) (h3 : m ≤ n) : c = 0 := by
  rcases Int.lt_or_le 0 c with h | h
  · have e1 : 1 * B n ≤ c * B n := Int.mul_le_mul_of_nonneg_right (by omega) (by have := B_pos n; omega)
    have := B_mono h3
    omega
  · omega
theorem idx_facts (i j la lb n d M k : Nat) (hi : i < la) (hj : j + (d + 1) = lb + 1) (hl : n = la + lb + 1) (hla : la ≤ 1099511627776) (hlb : lb ≤ 1099511627776) (hk : M + (d + 1) + 1 ≤ k + 1) :
    j + 1 + d = lb + 1 ∧ M + d + 1 ≤ k ∧ wrap64 ((i : Int) + (j : Int)) = ((i + j : Nat) : Int) ∧ wrap64 ((j : Int) + 1) = ((j + 1 : Nat) : Int) ∧ (0 : Int) ≤ ((i + j : Nat) : Int) ∧
    ((i + j : Nat) : Int) < (n : Int) ∧ (0 : Int) ≤ (i : Int) ∧ (i : Int) < (la : Int) ∧ i + j < n := by
  unfold wrap64
  refine ⟨?_, ?_, ?_, ?_, ?_, ?_, ?_, ?_, ?_⟩ <;> omega
theorem times_l1 (a b : List Int) (ha : Dig a) (hb : Dig b) (hla : a.length ≤ 1099511627776) (hlb : b.length ≤ 1099511627776) (m m' : Bool) (i : Nat) (hi : i < a.length) (R : Bool × List Int) (M : Nat)
    (next : ∀ (k : Nat) (acc : List Int), Dig acc → acc.length = a.length + b.length + 1 → val acc = val (a.take (i + 1)) * val b → M ≤ k → compassref01_Times.l0 k acc ((i + 1 : Nat) : Int) m a m' b = some R) :
    ∀ (d j k : Nat) (acc : List Int) (c : Int), j + d = b.length + 1 → Dig acc → acc.length = a.length + b.length + 1 → 0 ≤ c → c < 65536 →
    val acc + c * B (i + j) = val (a.take i) * val b + a.getD i 0 * B i * val (b.take j) → M + d + 1 ≤ k →
    compassref01_Times.l1 k acc (i : Int) c (j : Int) m a m' b = some R := by
  have w1 : wrap64 ((i : Int) + 1) = ((i + 1 : Nat) : Int) := wr64 (by omega) (by omega)
  have tot : val (a.take i) * val b + a.getD i 0 * B i * val b = val (a.take (i + 1)) * val b := by rw [val_takeD]; grind
  have small : val (a.take (i + 1)) * val b < B (i + 1 + b.length) := by
    have h := val_lt (dig_take ha (i + 1))
    rw [List.length_take, Nat.min_eq_left (by omega)] at h
    exact mul_lt_B (val_nonneg (dig_take ha _)) h (val_nonneg hb) (val_lt hb)
  have hx := dig_get ha i
  -- the end of the row
  have out : ∀ (j k : Nat) (acc : List Int), b.length ≤ j → Dig acc → acc.length = a.length + b.length + 1 → val acc + 0 * B (i + j) = val (a.take i) * val b + a.getD i 0 * B i * val (b.take j) → M + 1 ≤ k →
      compassref01_Times.l1 k acc (i : Int) 0 (j : Int) m a m' b = some R := by
    intro j k acc hj hd hl hI hk
    obtain ⟨k, rfl⟩ : ∃ m, k = m + 1 := ⟨k - 1, by omega⟩
    simp only [compassref01_Times.l1]
    rw [if_neg (by omega), if_neg (by omega), w1]
    refine next k acc hd hl ?_ (by omega)
    rw [List.take_of_length_le hj, tot] at hI
    omega
  intro d
  induction d with
  | zero =>
    intro j k acc c hj hd hl h0 h1 hI hk
    have hc : c = 0 := by
      have hI' := hI
      rw [List.take_of_length_le (show b.length ≤ j by omega), tot] at hI'
      exact carry_none h0 (T := val (a.take (i + 1)) * val b) (n := i + j) (m := i + 1 + b.length) (by rw [← hI']; exact Int.le_add_of_nonneg_left (val_nonneg hd)) small (by omega)
    subst hc
    exact out j k acc (by omega) hd hl hI (by omega)
  | succ d ih =>
    intro j k acc c hj hd hl h0 h1 hI hk
    obtain ⟨k, rfl⟩ : ∃ m, k = m + 1 := ⟨k - 1, by omega⟩
    obtain ⟨g1, g2, g3, g4, g5, g6, g7, g8, g9⟩ := idx_facts i j a.length b.length acc.length d M k hi hj hl hla hlb hk
    have hy := dig_get hb j
    have hz := dig_get hd (i + j)
    have tb := val_takeD b j
    have hp := prod_le hx.1 (by omega) hy.1 (by omega : b.getD j 0 ≤ 65535)
    have d4 := dm4 (acc.getD (i + j) 0) c (a.getD i 0 * b.getD j 0) hz ⟨h0, h1⟩ hp
    have d3 := dm3 _ d4.2.1 d4.2.2.1
    have go : compassref01_Times.l1 k (acc.set (((i + j : Nat) : Int)).toNat (Go.bits .and .u64 (IntKind.u64.wrap (IntKind.u64.wrap (rd acc ((i + j : Nat) : Int) + c) + IntKind.u64.wrap (rd a (i : Int) * b.getD j 0))) 65535)) (i : Int)
        (IntKind.u64.wrap (IntKind.u64.wrap (rd acc ((i + j : Nat) : Int) + c) + IntKind.u64.wrap (rd a (i : Int) * b.getD j 0)) / 65536) ((j + 1 : Nat) : Int) m a m' b = some R := by
      rw [rd_get, rd_get, d4.1, and16 _ d4.2.1 d4.2.2.2, Int.toNat_natCast]
      refine ih (j + 1) k _ _ g1 (dig_set hd _ _ d3.2.1) (by rw [List.length_set]; exact hl) d3.1.1 d3.1.2 ?_ g2
      rw [val_set _ _ g9, d3.2.2, ← Nat.add_assoc, B_succ, tb]
      have r4 := ring4 (val acc) (B (i + j)) (acc.getD (i + j) 0) c (a.getD i 0 * b.getD j 0) ((acc.getD (i + j) 0 + c + a.getD i 0 * b.getD j 0) / 65536)
      have r5 := ring5 (val acc) (B (i + j)) c (a.getD i 0 * b.getD j 0)
      have r6 := ring6 (B i) (B j) (a.getD i 0) (b.getD j 0)
      rw [← B_add] at r6
      rw [r4, r5, hI, r6, Int.mul_add, Int.add_assoc]
    simp only [compassref01_Times.l1]
    rw [g3, g4, if_pos g5, if_pos g6, if_pos g7, if_pos g8, at_f b j]
    simp only [Option.bind_some]
    split
    · exact go
    · rename_i hj'
      split
      · exact go
      · rename_i hc
        have hc : c = 0 := by omega
        subst hc
        have := out j (k + 1) acc (by omega) hd hl hI (by omega)
        simp only [compassref01_Times.l1] at this
        rw [if_neg hj', if_neg hc] at this
        exact this
theorem times_l0 (a b : List Int) (ha : Dig a) (hb : Dig b) (hla : a.length ≤ 1099511627776) (hlb : b.length ≤ 1099511627776) (m m' : Bool) :
    ∀ (d i k : Nat) (acc : List Int), i + d = a.length → Dig acc → acc.length = a.length + b.length + 1 → val acc = val (a.take i) * val b → d * (b.length + 4) + a.length + b.length + 4 ≤ k →
    compassref01_Times.l0 k acc (i : Int) m a m' b = some ((m != m') && decide (0 < (dig (val a * val b).toNat).length), dig (val a * val b).toNat) := by
  intro d
  induction d with
  | zero =>
    intro i k acc hi hd hl hI hk
    obtain ⟨k, rfl⟩ : ∃ m, k = m + 1 := ⟨k - 1, by omega⟩
    simp only [compassref01_Times.l0]
    rw [if_neg (by omega), trim_f acc hd (by omega) k (by omega)]
    simp only [Option.bind_some]
    rw [hI, List.take_of_length_le (by omega)]
    cases hm : (m != m') <;> simp
  | succ d ih =>
    intro i k acc hi hd hl hI hk
    obtain ⟨k, rfl⟩ : ∃ m, k = m + 1 := ⟨k - 1, by omega⟩
    have e : (d + 1) * (b.length + 4) = d * (b.length + 4) + (b.length + 4) := Nat.succ_mul _ _
    simp only [compassref01_Times.l0]
    rw [if_pos (by omega)]
    refine times_l1 a b ha hb hla hlb m m' i (by omega) _ (d * (b.length + 4) + a.length + b.length + 4) (fun k acc h1 h2 h3 h4 => ih (i + 1) k acc (by omega) h1 h2 h3 h4) (b.length + 1) 0 k acc 0 (by omega) hd hl (by omega) (by omega) ?_ (by omega)
    rw [hI]; simp [val]
theorem times_f (x y : Int) (k : Nat) (h1 : (dig x.natAbs).length ≤ 1099511627776) (h2 : (dig y.natAbs).length ≤ 1099511627776)
    (hk : (dig x.natAbs).length * ((dig y.natAbs).length + 4) + (dig x.natAbs).length + (dig y.natAbs).length + 4 ≤ k) :
    compassref01_Times.f k (big x).1 (big x).2 (big y).1 (big y).2 = some (big (x * y)) := by
  unfold compassref01_Times.f big
  dsimp only
  have e : wrap64 (wrap64 (((dig x.natAbs).length : Int) + ((dig y.natAbs).length : Int)) + 1) = (((dig x.natAbs).length + (dig y.natAbs).length + 1 : Nat) : Int) := by
    rw [wr64 (n := ((dig x.natAbs).length : Int) + ((dig y.natAbs).length : Int)) (by omega) (by omega), wr64 (by omega) (by omega)]; omega
  rw [e, if_pos (by omega), if_pos (by omega), Int.toNat_natCast]
  have := times_l0 (dig x.natAbs) (dig y.natAbs) (dig_dig _) (dig_dig _) h1 h2 (decide (x < 0)) (decide (y < 0)) (dig x.natAbs).length 0 k (List.replicate ((dig x.natAbs).length + (dig y.natAbs).length + 1) 0) (by omega) (dig_replicate _) (by simp) (by rw [val_replicate]; simp [val]) hk
  refine Eq.trans this ?_
  rw [val_dig, val_dig, ← Int.natCast_mul, Int.toNat_natCast, Int.natAbs_mul]
  congr 2
  by_cases h0 : x.natAbs * y.natAbs = 0
  · rw [h0, dig_zero]
    have : x * y = 0 := by
      have := Int.natAbs_mul x y
      omega
    simp [this]
  · have hx : x ≠ 0 := by rintro rfl; simp at h0
    have hy : y ≠ 0 := by rintro rfl; simp at h0
    rw [dig_pos h0]
    simp only [List.length_cons, Nat.zero_lt_succ, decide_true, Bool.and_true]
    by_cases hx' : x < 0 <;> by_cases hy' : y < 0
    · have : 0 < x * y := Int.mul_pos_of_neg_of_neg hx' hy'
      simp [hx', hy']; omega
    · have : x * y < 0 := Int.mul_neg_of_neg_of_pos hx' (by omega)
      simp [hx', hy', this]
    · have : x * y < 0 := Int.mul_neg_of_pos_of_neg (by omega) hy'
      simp [hx', hy', this]
    · have : 0 < x * y := Int.mul_pos (by omega) (by omega)
      simp [hx', hy']; omega
end Big
end Go.Proofs.Ytofcjoccnbegdaa.Q
