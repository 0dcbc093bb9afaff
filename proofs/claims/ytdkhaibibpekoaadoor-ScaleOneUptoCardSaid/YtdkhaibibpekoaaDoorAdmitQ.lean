/- Admit's last loop: the program's and the document's; what Admit answers in all. -/
import Derived.Test.YtdkhaibibpekoaaDoorQ2
import Derived.Test.YtdkhaibibpekoaaDoorQ3
import Derived.Test.YtdkhaibibpekoaaDoorQ6
import Derived.Test.YtdkhaibibpekoaaDoorQ7
import Derived.Test.YtdkhaibibpekoaaDoorQ8
import Derived.Test.YtdkhaibibpekoaaDoorAdmitP
namespace Go.Proofs.YtdkhaibibpekoaaDoor.Pure
open Go.RowKit Go.Flt Go.Proofs.YtdkhaibibpekoaaDoor.Q Go.Proofs.YtdkhaibibpekoaaDoorW.PrintWords Go.Proofs.YtdkhaibibpekoaaDoorW.PrintLast Go.Proofs.YtdkhaibibpekoaaDoorW.PrintMore
set_option linter.unusedVariables false
theorem sv_cases (s : Bool) (m : Nat) : sv s m = (m : Int) ∨ sv s m = -(m : Int) := by cases s; exact Or.inl rfl; exact Or.inr rfl
theorem sv_two (s : Bool) (m : Nat) : sv s m * 2 = sv s (2 * m) := by unfold sv; split <;> omega
section
variable {X : List Nat} {M : Nat → Nat} {D : Nat → Int} {mo : Nat} {least : Int}
theorem l2_f (hm1 : 1 ≤ mo) (hm2 : mo ≤ 9007199254740992) (hl0 : -1100 ≤ least) (hl1 : least ≤ 1100) (out : List Int) (ho : out.length < 17592186044416) (s : Bool) (i n : Int) (k9 : Int) (h9 : k9 = wrap64 (i + 1)) :
    ∀ (d m : Nat), d ≤ 3000 → m ≤ 18014398509481984 →
      (mo < grow mo m d → Evl (fun k => scale_Admit.l2 k (mo : Int) least out i (sv s m) (least + d) X n i) ([], 0, 22, i)) ∧
      (grow mo m d ≤ mo → ∀ res, Evl (fun k => scale_Admit.l1 k (mo : Int) least (out ++ [sv s (grow mo m d)]) X n k9) res → Evl (fun k => scale_Admit.l2 k (mo : Int) least out i (sv s m) (least + d) X n i) res) := by
  subst h9
  intro d
  induction d with
  | zero =>
    intro m _ hm
    have sc := sv_cases s m
    have wn : wrap64 (-(sv s m)) = -(sv s m) := w64 (by omega) (by omega)
    rw [grow]
    refine ⟨fun h => Evl.here fun k => ?_, fun h res e => e.step fun k => ?_⟩
    · rw [scale_Admit.l2, if_neg (by omega), wn]
      by_cases c : sv s m > (mo : Int)
      · rw [if_pos c]
      · rw [if_neg c, if_pos (by omega)]
    · rw [scale_Admit.l2, if_neg (by omega), wn, if_neg (by omega), if_neg (by omega), if_pos ho]
  | succ d ih =>
    intro m hd hm
    have sc := sv_cases s m
    have wn : wrap64 (-(sv s m)) = -(sv s m) := w64 (by omega) (by omega)
    by_cases c : m ≤ mo
    · rw [grow, if_pos c]
      obtain ⟨a, b⟩ := ih (2 * m) (by omega) (by omega)
      have w2 : wrap64 (sv s m * 2) = sv s (2 * m) := by rw [sv_two]; have := sv_cases s (2 * m); exact w64 (by omega) (by omega)
      have we : wrap64 (least + ((d + 1 : Nat) : Int) - 1) = least + d := by rw [w64 (by omega) (by omega)]; omega
      have st : ∀ k, scale_Admit.l2 (k + 1) (mo : Int) least out i (sv s m) (least + ((d + 1 : Nat) : Int)) X n i = scale_Admit.l2 k (mo : Int) least out i (sv s (2 * m)) (least + d) X n i := fun k => by
        rw [scale_Admit.l2, if_pos (by omega), if_pos (by omega), wn, if_pos (by omega), w2, we]
      exact ⟨fun h => (a h).step st, fun h res e => (b h res e).step st⟩
    · rw [grow, if_neg c]
      refine ⟨fun h => Evl.here fun k => ?_, fun h => absurd h (by omega)⟩
      rw [scale_Admit.l2, if_pos (by omega), wn]
      by_cases c1 : sv s m > (mo : Int)
      · rw [if_neg (by omega), if_pos c1]
      · rw [if_pos (by omega), if_neg (by omega), if_neg c1, if_pos (by omega)]
theorem l3_f (hm1 : 1 ≤ mo) (hm2 : mo ≤ 9007199254740992) (hl0 : -1100 ≤ least) (hl1 : least ≤ 1100) (l : List Int) (out : List Int) (ho : out.length < 17592186044416) (s : Bool) (i : Int) (k9 : Int) (h9 : k9 = wrap64 (i + 1)) :
    ∀ (d m : Nat), d ≤ 3000 → m ≤ 18014398509481984 → m ≠ 0 →
      (mo < grow mo m d → Evl (fun k => compassref02_Admit.l3 k l (mo : Int) least out i (m : Int) (least + d) s) ([], 0, 22, i)) ∧
      (grow mo m d ≤ mo → ∀ res, Evl (fun k => compassref02_Admit.l2 k l (mo : Int) least (out ++ [sv s (grow mo m d)]) k9) res → Evl (fun k => compassref02_Admit.l3 k l (mo : Int) least out i (m : Int) (least + d) s) res) := by
  subst h9
  have um : IntKind.u64.wrap ((mo : Int)) = (mo : Int) := un mo (by omega)
  have j5 : ∀ m : Nat, m ≤ 18014398509481984 → (mo < m → Evl (fun k => compassref02_Admit.j5 k l (mo : Int) least out i (m : Int) s) ([], 0, 22, i)) ∧
      (m ≤ mo → ∀ res, Evl (fun k => compassref02_Admit.l2 k l (mo : Int) least (out ++ [sv s m]) (wrap64 (i + 1))) res → Evl (fun k => compassref02_Admit.j5 k l (mo : Int) least out i (m : Int) s) res) := fun m hm => by
    refine ⟨fun h => Evl.here fun k => ?_, fun h res e => e.step fun k => ?_⟩
    · rw [compassref02_Admit.j5, um, if_pos (by omega)]
    · rw [compassref02_Admit.j5, um, if_neg (by omega)]
      cases s
      · rw [if_neg (by decide), if_pos ho, w64 (by omega) (by omega)]; rfl
      · rw [if_pos rfl, if_pos ho, w64 (a := (m : Int)) (by omega) (by omega), w64 (by omega) (by omega)]; rfl
  intro d
  induction d with
  | zero =>
    intro m _ hm mz
    obtain ⟨a, b⟩ := j5 m hm
    rw [grow]
    have st : ∀ k, compassref02_Admit.l3 (k + 1) l (mo : Int) least out i (m : Int) (least + ((0 : Nat) : Int)) s = compassref02_Admit.j5 k l (mo : Int) least out i (m : Int) s := fun k => by
      rw [compassref02_Admit.l3, if_neg (by omega), if_neg (by omega)]
    exact ⟨fun h => (a h).step st, fun h res e => (b h res e).step st⟩
  | succ d ih =>
    intro m hd hm mz
    by_cases c : m ≤ mo
    · rw [grow, if_pos c]
      obtain ⟨a, b⟩ := ih (2 * m) (by omega) (by omega) (by omega)
      have we : wrap64 (least + ((d + 1 : Nat) : Int) - 1) = least + d := by rw [w64 (by omega) (by omega)]; omega
      have st : ∀ k, compassref02_Admit.l3 (k + 1) l (mo : Int) least out i (m : Int) (least + ((d + 1 : Nat) : Int)) s = compassref02_Admit.l3 k l (mo : Int) least out i ((2 * m : Nat) : Int) (least + d) s := fun k => by
        rw [compassref02_Admit.l3, if_neg (by omega), if_pos (by omega), um, if_pos (by omega), we, show (m : Int) * 2 = ((2 * m : Nat) : Int) by omega, un _ (by omega)]
      exact ⟨fun h => (a h).step st, fun h res e => (b h res e).step st⟩
    · rw [grow, if_neg c]
      obtain ⟨a, b⟩ := j5 m hm
      have st : ∀ k, compassref02_Admit.l3 (k + 1) l (mo : Int) least out i (m : Int) (least + ((d + 1 : Nat) : Int)) s = compassref02_Admit.j5 k l (mo : Int) least out i (m : Int) s := fun k => by
        rw [compassref02_Admit.l3, if_neg (by omega), if_pos (by omega), um, if_neg (by omega)]
      exact ⟨fun h => (a h).step st, fun h res e => (b h res e).step st⟩
end
/-- What label i is told as. -/
def gr (M : Nat → Nat) (D : Nat → Int) (mo : Nat) (least : Int) (i : Nat) : Nat := grow mo (M i) (D i - least).toNat
def vl (X : List Nat) (M : Nat → Nat) (D : Nat → Int) (mo : Nat) (least : Int) (i : Nat) : Int := sv (ng (at_ X i)) (gr M D mo least i)
section
variable {X : List Nat} {M : Nat → Nat} {D : Nat → Int} {mo : Nat} {least : Int}
theorem prog_step (L : Labs X M D) (hm1 : 1 ≤ mo) (hm2 : mo ≤ 9007199254740992) (hl0 : -1100 ≤ least) (hl1 : least ≤ 1100) (hle : ∀ i, i < X.length → M i ≠ 0 → least ≤ D i) (i : Nat) (hi : i < X.length) (out : List Int) (ho : out.length = i) :
    (mo < gr M D mo least i → Evl (fun k => scale_Admit.l1 k (mo : Int) least out X (X.length : Int) (i : Int)) ([], 0, 22, (i : Int))) ∧
    (gr M D mo least i ≤ mo → ∀ res, Evl (fun k => scale_Admit.l1 k (mo : Int) least (out ++ [vl X M D mo least i]) X (X.length : Int) ((i + 1 : Nat) : Int)) res → Evl (fun k => scale_Admit.l1 k (mo : Int) least out X (X.length : Int) (i : Int)) res) := by
  have ln := L.len
  have l := L.lab i hi
  have e0 := l.e0
  have e1 := l.e1
  have m1 := l.m1
  obtain ⟨K, hK⟩ := l.par
  have head : ∀ res, Evl (fun k => scale_Admit.j3 k (mo : Int) least out (i : Int) (sv (ng (at_ X i)) (M i)) (D i) X (X.length : Int) (i : Int) (if M i = 0 then false else decide (D i - least > 53))) res → Evl (fun k => scale_Admit.l1 k (mo : Int) least out X (X.length : Int) (i : Int)) res := fun res e => by
    obtain ⟨K2, h2⟩ := e
    refine ⟨K + K2 + 1, fun k hk => ?_⟩
    obtain ⟨m, rfl⟩ : ∃ m, k = m + 1 := ⟨k - 1, by omega⟩
    have pk : scale_parts.f m (at_ X i) = _ := hK m (by omega)
    have nk : scale_Admit.j3 m _ _ _ _ _ _ _ _ _ _ = some res := h2 m (by omega)
    show scale_Admit.l1 (m + 1) _ _ _ _ _ _ = _
    have sc := sv_cases (ng (at_ X i)) (M i)
    rw [scale_Admit.l1, if_pos (by omega), if_pos (by omega), if_pos (by omega), rdOf_at, pk, Option.bind_some, w64 (a := D i - least) (by omega) (by omega)]
    by_cases z : M i = 0
    · rw [if_pos (by rw [z] at sc ⊢; omega)]
      rw [if_pos z] at nk
      exact nk
    · rw [if_neg (by omega)]
      rw [if_neg z] at nk
      exact nk
  by_cases z : M i = 0
  · have g0 : gr M D mo least i = 0 := by unfold gr; rw [z, grow_zero]
    have v0 : vl X M D mo least i = 0 := by unfold vl; rw [g0]; have := sv_cases (ng (at_ X i)) 0; omega
    have s0 : sv (ng (at_ X i)) (M i) = 0 := by rw [z]; have := sv_cases (ng (at_ X i)) 0; omega
    rw [g0, v0]
    refine ⟨fun h => absurd h (Nat.not_lt_zero _), fun _ res e => head res (e.step fun k => ?_)⟩
    rw [if_pos z, scale_Admit.j3, if_neg (by decide), s0, if_pos rfl, if_neg (by omega), show wrap64 (-0) = 0 from w64 (by decide) (by decide), if_neg (by omega), if_pos (by omega), wi i (by omega)]
  · have hd := hle i hi z
    have sc := sv_cases (ng (at_ X i)) (M i)
    by_cases w : D i - least > 53
    · have gw := grow_wide mo (M i) (D i - least).toNat (by omega) hm2 (by omega)
      refine ⟨fun _ => head _ (Evl.here fun k => ?_), fun h => absurd h (by unfold gr; omega)⟩
      rw [if_neg z, decide_eq_true w, scale_Admit.j3, if_pos rfl]
    · have ee : D i = least + ((D i - least).toNat : Int) := by omega
      obtain ⟨a, b⟩ := l2_f (X := X) hm1 hm2 hl0 hl1 out (by omega) (ng (at_ X i)) (i : Int) (X.length : Int) ((i + 1 : Nat) : Int) (wi i (by omega)).symm (D i - least).toNat (M i) (by omega) (by omega)
      rw [← ee] at a b
      have st : ∀ k, scale_Admit.j3 (k + 1) (mo : Int) least out (i : Int) (sv (ng (at_ X i)) (M i)) (D i) X (X.length : Int) (i : Int) (if M i = 0 then false else decide (D i - least > 53)) = scale_Admit.l2 k (mo : Int) least out (i : Int) (sv (ng (at_ X i)) (M i)) (D i) X (X.length : Int) (i : Int) := fun k => by
        rw [if_neg z, decide_eq_false w, scale_Admit.j3, if_neg (by decide), if_neg (by omega)]
      exact ⟨fun h => head _ ((a h).step st), fun h res e => head res ((b h res e).step st)⟩
theorem ref_step (L : Labs X M D) (hm1 : 1 ≤ mo) (hm2 : mo ≤ 9007199254740992) (hl0 : -1100 ≤ least) (hl1 : least ≤ 1100) (hle : ∀ i, i < X.length → M i ≠ 0 → least ≤ D i) (i : Nat) (hi : i < X.length) (out : List Int) (ho : out.length = i) :
    (mo < gr M D mo least i → Evl (fun k => compassref02_Admit.l2 k (lift X) (mo : Int) least out (i : Int)) ([], 0, 22, (i : Int))) ∧
    (gr M D mo least i ≤ mo → ∀ res, Evl (fun k => compassref02_Admit.l2 k (lift X) (mo : Int) least (out ++ [vl X M D mo least i]) ((i + 1 : Nat) : Int)) res → Evl (fun k => compassref02_Admit.l2 k (lift X) (mo : Int) least out (i : Int)) res) := by
  have ln := L.len
  have ll := lift_len X
  have l := L.lab i hi
  have e0 := l.e0
  have e1 := l.e1
  have m1 := l.m1
  obtain ⟨K, hK⟩ := l.ref
  have head : ∀ res, Evl (fun k => compassref02_Admit.l3 k (lift X) (mo : Int) least out (i : Int) (M i : Int) (D i) (ng (at_ X i))) res → Evl (fun k => compassref02_Admit.l2 k (lift X) (mo : Int) least out (i : Int)) res := fun res e => by
    obtain ⟨K2, h2⟩ := e
    refine ⟨K + K2 + 1, fun k hk => ?_⟩
    obtain ⟨m, rfl⟩ : ∃ m, k = m + 1 := ⟨k - 1, by omega⟩
    have pk : compassref02_Parts.f m (at_ X i : Int) = _ := hK m (by omega)
    have nk : compassref02_Admit.l3 m _ _ _ _ _ _ _ _ = some res := h2 m (by omega)
    show compassref02_Admit.l2 (m + 1) _ _ _ _ _ = _
    rw [compassref02_Admit.l2, if_pos (by omega), if_pos (by omega), rd_lift X i (by omega), pk, Option.bind_some]
    exact nk
  by_cases z : M i = 0
  · have g0 : gr M D mo least i = 0 := by unfold gr; rw [z, grow_zero]
    have v0 : vl X M D mo least i = 0 := by unfold vl; rw [g0]; have := sv_cases (ng (at_ X i)) 0; omega
    have um : IntKind.u64.wrap ((mo : Int)) = (mo : Int) := un mo (by omega)
    rw [g0, v0]
    refine ⟨fun h => absurd h (Nat.not_lt_zero _), fun _ res e => head res ?_⟩
    have j5 : Evl (fun k => compassref02_Admit.j5 k (lift X) (mo : Int) least out (i : Int) 0 (ng (at_ X i))) res := e.step fun k => by
      rw [compassref02_Admit.j5, um, if_neg (by omega), wi i (by omega)]
      cases ng (at_ X i)
      · rw [if_neg (by decide), if_pos (by omega), show wrap64 0 = 0 from w64 (by decide) (by decide)]
      · rw [if_pos rfl, if_pos (by omega), show wrap64 0 = 0 from w64 (by decide) (by decide), show wrap64 (-0) = 0 from w64 (by decide) (by decide)]
    refine j5.step fun k => ?_
    rw [compassref02_Admit.l3, if_pos (by omega), z]
    rfl
  · have hd := hle i hi z
    have ee : D i = least + ((D i - least).toNat : Int) := by omega
    obtain ⟨a, b⟩ := l3_f hm1 hm2 hl0 hl1 (lift X) out (by omega) (ng (at_ X i)) (i : Int) ((i + 1 : Nat) : Int) (wi i (by omega)).symm (D i - least).toNat (M i) (by omega) (by omega) z
    rw [← ee] at a b
    exact ⟨fun h => head _ (a h), fun h res e => head res (b h res e)⟩
/-- All are within the bound. -/
theorem last_good (L : Labs X M D) (hm1 : 1 ≤ mo) (hm2 : mo ≤ 9007199254740992) (hl0 : -1100 ≤ least) (hl1 : least ≤ 1100) (hle : ∀ i, i < X.length → M i ≠ 0 → least ≤ D i) (all : ∀ i, i < X.length → gr M D mo least i ≤ mo) :
    ∀ (d i : Nat), i + d = X.length → Evl (fun k => scale_Admit.l1 k (mo : Int) least ((List.range i).map (vl X M D mo least)) X (X.length : Int) (i : Int)) ((List.range X.length).map (vl X M D mo least), least, 0, 0) ∧ Evl (fun k => compassref02_Admit.l2 k (lift X) (mo : Int) least ((List.range i).map (vl X M D mo least)) (i : Int)) ((List.range X.length).map (vl X M D mo least), least, 0, 0) := by
  have ll := lift_len X
  intro d
  induction d with
  | zero =>
    intro i hi
    obtain rfl : i = X.length := by omega
    refine ⟨Evl.here fun k => ?_, Evl.here fun k => ?_⟩
    · rw [scale_Admit.l1, if_neg (by omega)]
    · rw [compassref02_Admit.l2, if_neg (by omega)]
  | succ d ih =>
    intro i hi
    obtain ⟨a, b⟩ := ih (i + 1) (by omega)
    rw [List.range_succ, List.map_append] at a b
    have lo : ((List.range i).map (vl X M D mo least)).length = i := by rw [List.length_map, List.length_range]
    exact ⟨(prog_step L hm1 hm2 hl0 hl1 hle i (by omega) _ lo).2 (all i (by omega)) _ a, (ref_step L hm1 hm2 hl0 hl1 hle i (by omega) _ lo).2 (all i (by omega)) _ b⟩
/-- Label j is the first that is too wide. -/
theorem last_wide (L : Labs X M D) (hm1 : 1 ≤ mo) (hm2 : mo ≤ 9007199254740992) (hl0 : -1100 ≤ least) (hl1 : least ≤ 1100) (hle : ∀ i, i < X.length → M i ≠ 0 → least ≤ D i) (j : Nat) (hj : j < X.length) (first : ∀ i, i < j → gr M D mo least i ≤ mo) (wide : mo < gr M D mo least j) :
    ∀ (d i : Nat), i + d = j → Evl (fun k => scale_Admit.l1 k (mo : Int) least ((List.range i).map (vl X M D mo least)) X (X.length : Int) (i : Int)) ([], 0, 22, (j : Int)) ∧ Evl (fun k => compassref02_Admit.l2 k (lift X) (mo : Int) least ((List.range i).map (vl X M D mo least)) (i : Int)) ([], 0, 22, (j : Int)) := by
  intro d
  induction d with
  | zero =>
    intro i hi
    obtain rfl : i = j := by omega
    have lo : ((List.range i).map (vl X M D mo least)).length = i := by rw [List.length_map, List.length_range]
    exact ⟨(prog_step L hm1 hm2 hl0 hl1 hle i hj _ lo).1 wide, (ref_step L hm1 hm2 hl0 hl1 hle i hj _ lo).1 wide⟩
  | succ d ih =>
    intro i hi
    obtain ⟨a, b⟩ := ih (i + 1) (by omega)
    rw [List.range_succ, List.map_append] at a b
    have lo : ((List.range i).map (vl X M D mo least)).length = i := by rw [List.length_map, List.length_range]
    exact ⟨(prog_step L hm1 hm2 hl0 hl1 hle i (by omega) _ lo).2 (first i (by omega)) _ a, (ref_step L hm1 hm2 hl0 hl1 hle i (by omega) _ lo).2 (first i (by omega)) _ b⟩
end
theorem first_of (p : Nat → Prop) : ∀ n : Nat, (∃ i, i < n ∧ p i) → ∃ j, j < n ∧ p j ∧ ∀ i, i < j → ¬ p i := by
  intro n
  induction n with
  | zero => rintro ⟨i, hi, _⟩; exact absurd hi (Nat.not_lt_zero _)
  | succ n ih =>
    rintro ⟨i, hi, hp⟩
    by_cases c : ∃ i, i < n ∧ p i
    · obtain ⟨j, a, b, d⟩ := ih c
      exact ⟨j, by omega, b, d⟩
    · refine ⟨i, hi, hp, fun q hq hpq => c ⟨q, ?_, hpq⟩⟩
      omega
/-- What Admit answers, both ways: refused for the bound; for a label that is none; too wide; or all told. -/
inductive Adm (X : List Nat) (most : Int) (res : List Int × Int × Int × Int) : Prop where
  | range (h : most < 1 ∨ most > 9007199254740992) (e : res = ([], 0, 1, 0))
  | bad (j : Nat) (c : Int) (hj : j < X.length) (hc : c = 20 ∨ c = 21) (e : res = ([], 0, c, (j : Int)))
  | wide (j : Nat) (hj : j < X.length) (e : res = ([], 0, 22, (j : Int)))
  | good (M : Nat → Nat) (D : Nat → Int) (mo : Nat) (L : Labs X M D) (h1 : 1 ≤ mo) (h2 : mo ≤ 9007199254740992) (em : most = (mo : Int)) (all : ∀ i, i < X.length → gr M D mo (st M D X.length).1 i ≤ mo) (e : res = ((List.range X.length).map (vl X M D mo (st M D X.length).1), (st M D X.length).1, 0, 0))
theorem admit_both (X : List Nat) (most : Int) (hx : ∀ i, i < X.length → at_ X i < 18446744073709551616) (hn : X.length < 17592186044416) : ∃ res, Adm X most res ∧ Evl (fun k => scale_Admit.f k X most) res ∧ Evl (fun k => compassref02_Admit.f k (lift X) most) res := by
  have ll := lift_len X
  by_cases r : most < 1 ∨ most > 9007199254740992
  · refine ⟨([], 0, 1, 0), .range r rfl, ?_, ?_⟩
    · refine (Evl.here (g := fun k => scale_Admit.j0 k X most true) fun k => by rw [scale_Admit.j0, if_pos rfl]).congr fun k => ?_
      unfold scale_Admit.f
      by_cases a : most < 1
      · rw [if_pos a]
      · rw [if_neg a, decide_eq_true (by omega)]
    · refine (Evl.here (g := fun k => compassref02_Admit.j0 k (lift X) most true) fun k => by rw [compassref02_Admit.j0, if_pos rfl]).congr fun k => ?_
      unfold compassref02_Admit.f
      by_cases a : most < 1
      · rw [if_pos a]
      · rw [if_neg a, decide_eq_true (by omega)]
  · have pf : ∀ res, Evl (fun k => scale_Admit.l0 k X most 0 false X (X.length : Int) ((0 : Nat) : Int)) res → Evl (fun k => scale_Admit.f k X most) res := fun res e =>
      Evl.congr (h := fun k => scale_Admit.j0 k X most false) (e.step fun k => by rw [scale_Admit.j0, if_neg (by decide)]; rfl) fun k => by unfold scale_Admit.f; rw [if_neg (by omega), decide_eq_false (by omega)]
    have rf : ∀ res, Evl (fun k => compassref02_Admit.l0 k (lift X) most ((0 : Nat) : Int)) res → Evl (fun k => compassref02_Admit.f k (lift X) most) res := fun res e =>
      Evl.congr (h := fun k => compassref02_Admit.j0 k (lift X) most false) (e.step fun k => by rw [compassref02_Admit.j0, if_neg (by decide)]; rfl) fun k => by unfold compassref02_Admit.f; rw [if_neg (by omega), decide_eq_false (by omega)]
    by_cases b : ∃ i, i < X.length ∧ cls (at_ X i) ≠ 0
    · obtain ⟨j, hj, hc, hf⟩ := first_of _ _ b
      have fine : ∀ i, i < j → cls (at_ X i) = 0 := fun i hi => by have := hf i hi; omega
      have code : ∃ c : Int, (c = 20 ∧ cls (at_ X j) = 2) ∨ (c = 21 ∧ cls (at_ X j) = 1) := by
        rcases cls_012 (at_ X j) with h | h | h
        · exact absurd h hc
        · exact ⟨21, Or.inr ⟨rfl, h⟩⟩
        · exact ⟨20, Or.inl ⟨rfl, h⟩⟩
      obtain ⟨c, hcc⟩ := code
      refine ⟨([], 0, c, (j : Int)), .bad j c hj (by omega) rfl, pf _ ?_, rf _ ?_⟩
      · have lp : ∀ (d i : Nat), i + d = j → ∀ (x : Int) (y : Bool), Evl (fun k => scale_Admit.l0 k X most x y X (X.length : Int) (i : Int)) ([], 0, c, (j : Int)) := by
          intro d
          induction d with
          | zero =>
            intro i hi x y
            obtain rfl : i = j := by omega
            refine Evl.here fun k => ?_
            rw [scale_Admit.l0, if_pos (by omega), if_pos (by omega), if_pos (by omega), rdOf_at]
            rcases hcc with ⟨rfl, h⟩ | ⟨rfl, h⟩
            · rw [nan_two _ h, Option.bind_some, if_pos rfl]
            · obtain ⟨a1, a2⟩ := inf_one _ (hx i hj) h
              rw [a1, Option.bind_some, if_neg (by decide), a2, Option.bind_some, if_pos rfl]
          | succ d ih =>
            intro i hi x y
            obtain ⟨m, e, l⟩ := lab (at_ X i) (hx i (by omega)) (cls_zero _ (fine i (by omega)))
            obtain ⟨K, hK⟩ := l.par
            have nx := ih (i + 1) (by omega)
            by_cases z : m = 0
            · refine (nx x y).step fun k => ?_
              rw [scale_Admit.l0, if_pos (by omega), if_pos (by omega), if_pos (by omega), rdOf_at, l.nan, Option.bind_some, if_neg (by decide), l.inf, Option.bind_some, if_neg (by decide), l.zero, wi i (by omega), decide_eq_true z, if_pos rfl]
            · obtain ⟨K1, h1⟩ := nx e true
              obtain ⟨K2, h2⟩ := nx x true
              refine ⟨K + K1 + K2 + 1, fun k hk => ?_⟩
              obtain ⟨q, rfl⟩ : ∃ q, k = q + 1 := ⟨k - 1, by omega⟩
              have pk : scale_parts.f q (at_ X i) = _ := hK q (by omega)
              have n1 : scale_Admit.l0 q X most e true X (X.length : Int) ((i + 1 : Nat) : Int) = _ := h1 q (by omega)
              have n2 : scale_Admit.l0 q X most x true X (X.length : Int) ((i + 1 : Nat) : Int) = _ := h2 q (by omega)
              show scale_Admit.l0 (q + 1) _ _ _ _ _ _ _ = _
              rw [scale_Admit.l0, if_pos (by omega), if_pos (by omega), if_pos (by omega), rdOf_at, l.nan, Option.bind_some, if_neg (by decide), l.inf, Option.bind_some, if_neg (by decide), l.zero, wi i (by omega), decide_eq_false z, if_neg (by decide), pk, Option.bind_some]
              cases y
              · rw [if_neg (by decide)]; exact n1
              · rw [if_pos rfl]
                by_cases w : e < x
                · rw [if_pos w]; exact n1
                · rw [if_neg w]; exact n2
        exact lp j 0 (by omega) 0 false
      · have lp : ∀ (d i : Nat), i + d = j → Evl (fun k => compassref02_Admit.l0 k (lift X) most (i : Int)) ([], 0, c, (j : Int)) := by
          intro d
          induction d with
          | zero =>
            intro i hi
            obtain rfl : i = j := by omega
            refine Evl.here fun k => ?_
            rw [compassref02_Admit.l0, if_pos (by omega), if_pos (by omega), rd_lift X i hj, class_f _ (hx i hj), Option.bind_some, Option.bind_some]
            rcases hcc with ⟨rfl, h⟩ | ⟨rfl, h⟩
            · rw [h, if_pos (by rfl)]
            · rw [h, if_neg (by decide), if_pos (by rfl)]
          | succ d ih =>
            intro i hi
            refine (ih (i + 1) (by omega)).step fun k => ?_
            rw [compassref02_Admit.l0, if_pos (by omega), if_pos (by omega), rd_lift X i (by omega), class_f _ (hx i (by omega)), Option.bind_some, Option.bind_some, fine i (by omega), if_neg (by decide), if_neg (by decide), wi i (by omega)]
        exact lp j 0 (by omega)
    · have fine : ∀ i, i < X.length → cls (at_ X i) = 0 := fun i hi => by
        by_cases c : cls (at_ X i) = 0
        · exact c
        · exact absurd ⟨i, hi, c⟩ b
      have ch : ∀ i, ∃ p : Nat × Int, i < X.length → Lab (at_ X i) p.1 p.2 (ng (at_ X i)) := fun i => by
        by_cases hi : i < X.length
        · obtain ⟨m, e, l⟩ := lab (at_ X i) (hx i hi) (cls_zero _ (fine i hi))
          exact ⟨(m, e), fun _ => l⟩
        · exact ⟨(0, 0), fun h => absurd h hi⟩
      obtain ⟨f, hf⟩ := Classical.axiomOfChoice ch
      have L : Labs X (fun i => (f i).1) (fun i => (f i).2) := ⟨hn, fun i hi => hf i hi⟩
      obtain ⟨s1, s2, s3, s4, s5⟩ := st_lo L X.length (Nat.le_refl _)
      obtain ⟨mo, rfl⟩ := Int.eq_ofNat_of_zero_le (show 0 ≤ most by omega)
      have hle : ∀ i, i < X.length → (f i).1 ≠ 0 → (st (fun i => (f i).1) (fun i => (f i).2) X.length).1 ≤ (f i).2 := fun i hi hm => (s1 i hi hm).2
      have pp : ∀ res, Evl (fun k => scale_Admit.l1 k (mo : Int) (st (fun i => (f i).1) (fun i => (f i).2) X.length).1 [] X (X.length : Int) 0) res → Evl (fun k => scale_Admit.f k X (mo : Int)) res := fun res e => pf res (prog_first L (mo : Int) res e X.length 0 (by omega))
      have rr : ∀ res, Evl (fun k => compassref02_Admit.l2 k (lift X) (mo : Int) (st (fun i => (f i).1) (fun i => (f i).2) X.length).1 [] 0) res → Evl (fun k => compassref02_Admit.f k (lift X) (mo : Int)) res := fun res e => rf res (ref_first L (fun i hi => ⟨hx i hi, fine i hi⟩) (mo : Int) res (ref_second L (mo : Int) res e X.length 0 (by omega)) X.length 0 (by omega))
      by_cases w : ∃ i, i < X.length ∧ mo < gr (fun i => (f i).1) (fun i => (f i).2) mo (st (fun i => (f i).1) (fun i => (f i).2) X.length).1 i
      · obtain ⟨j, hj, hw, hfst⟩ := first_of _ _ w
        obtain ⟨a, b⟩ := last_wide L (by omega) (by omega) s3 s4 hle j hj (fun i hi => by have := hfst i hi; omega) hw j 0 (by omega)
        exact ⟨([], 0, 22, (j : Int)), .wide j hj rfl, pp _ a, rr _ b⟩
      · have all : ∀ i, i < X.length → gr (fun i => (f i).1) (fun i => (f i).2) mo (st (fun i => (f i).1) (fun i => (f i).2) X.length).1 i ≤ mo := fun i hi => by
          by_cases c : gr (fun i => (f i).1) (fun i => (f i).2) mo (st (fun i => (f i).1) (fun i => (f i).2) X.length).1 i ≤ mo
          · exact c
          · exact absurd ⟨i, hi, by omega⟩ w
        obtain ⟨a, b⟩ := last_good L (by omega) (by omega) s3 s4 hle all X.length 0 (by omega)
        exact ⟨_, .good _ _ mo L (by omega) (by omega) rfl all rfl, pp _ a, rr _ b⟩
theorem floats_f (X : List Nat) (hn : X.length < 17592186044416) : Evl (fun k => compasslaw02_floats.f k (lift X)) X := by
  have ll := lift_len X
  have loop : ∀ (d i : Nat), i + d = X.length → Evl (fun k => compasslaw02_floats.l0 k (X.take i) (lift X) (X.length : Int) (i : Int)) X := by
    intro d
    induction d with
    | zero =>
      intro i hi
      refine Evl.here fun k => ?_
      rw [compasslaw02_floats.l0, if_neg (by omega), List.take_of_length_le (by omega)]
    | succ d ih =>
      intro i hi
      have e : X.take (i + 1) = X.take i ++ [at_ X i] := by
        rw [List.take_succ_eq_append_getElem (by omega)]
        unfold at_
        rw [List.getD_eq_getElem?_getD, List.getElem?_eq_getElem (by omega)]; rfl
      have nx := ih (i + 1) (by omega)
      rw [e] at nx
      refine nx.step fun k => ?_
      rw [compasslaw02_floats.l0, if_pos (by omega), if_pos (by omega), if_pos (by omega), if_pos (by rw [List.length_take]; omega), wi i (by omega), rd_lift X i (by omega), Int.toNat_natCast]
  refine (loop X.length 0 (by omega)).congr fun k => ?_
  unfold compasslaw02_floats.f
  rw [ll]
  rfl
end Go.Proofs.YtdkhaibibpekoaaDoor.Pure
