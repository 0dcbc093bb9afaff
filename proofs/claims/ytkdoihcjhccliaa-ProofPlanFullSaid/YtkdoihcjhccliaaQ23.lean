import Derived.Test.YtkdoihcjhccliaaQ0
import Derived.Test.YtkdoihcjhccliaaQ22
namespace Go.Proofs.Ytkdoihcjhccliaa.Q
open Go.RowKit Go.Proofs.YtkdoihcjhccliaaW.PrintWords Go.Proofs.YtkdoihcjhccliaaW.PrintLast Go.Proofs.YtkdoihcjhccliaaW.PrintMore
attribute [local go_sem] max2_int min2_int max_two min_two max_three min_three max_four min_four   -- for this text's walks alone
set_option linter.unusedVariables false
set_option linter.unusedSimpArgs false

/-! ### compassref03_Check: function 44 -/
mutual
def compassref03_Check.j0 : Nat → Bool → Int → List (S98) → Option (Int × Int)
  | 0, _, _, _ => none
  | k + 1, x19, x333000, x333001 => if x19 = true then (some (3, 0)) else (compassref03_Check.l0 k 0 x333000 x333001)
def compassref03_Check.l0 : Nat → Int → Int → List (S98) → Option (Int × Int)
  | 0, _, _, _ => none
  | k + 1, x4, x333000, x333001 => if x4 < (x333001.length : Int) then (if 0 ≤ x4 then ((compassref03_Bad.f k x333000 ((rd_T98 x333001 x4).f0) ((rd_T98 x333001 x4).f1) ((rd_T98 x333001 x4).f2) ((rd_T98 x333001 x4).f3)).bind fun t334 => (if t334 = 0 then (compassref03_Check.l0 k (wrap64 (x4 + 1)) x333000 x333001) else (some (t334, x4)))) else (none)) else (some (0, 0))
end
def compassref03_Check.f (k : Nat) (a0_0 : Int) (l0_1 : List (S98)) : Option (Int × Int) := if a0_0 < 0 then (compassref03_Check.j0 k true a0_0 l0_1) else (if a0_0 > 1024 then (compassref03_Check.j0 k true a0_0 l0_1) else (compassref03_Check.j0 k (decide ((l0_1.length : Int) > 4096)) a0_0 l0_1))
def compassref03_Check.T6 : Bool × List (List Nat × List Nat) := (true, [([], []), ([0], [0]), ([], []), ([2], [2]), ([], []), ([3, 4], [3, 4]), ([5], [5]), ([1, 6], [1, 6]), ([7, 7, 0, 1, 2, 3, 4, 5, 6, 7], [7])])
def compassref03_Check.B6 : List Nat := [0, 1, 0, 4, 0, 28, 60, 127, 255]
theorem compassref03_Check.tab6 : rtab .any (opsOf Try.f44 6) = compassref03_Check.T6 := by kernel_rfl
theorem compassref03_Check.bits6 : waitsOk compassref03_Check.T6.2 compassref03_Check.B6 = true := by kernel_rfl
set_option maxHeartbeats 8000000 in
set_option maxRecDepth 100000 in
theorem compassref03_Check.calls (k : Nat) (a0_0 : Int) (A0_1 : Option Addr) (c0_1 : Nat) (l0_1 : List (S98)) (r1 : Int) (r2 : Int) (w : World) (hr0_1 : Kd.C k98 w A0_1 l0_1.length l0_1) (hc0_1 : l0_1.length ≤ c0_1) (h : compassref03_Check.f k a0_0 l0_1 = some (r1, r2)) :
    Calls Try.prog 44 #[.agg #[.int .i64 a0_0, .slice A0_1 l0_1.length c0_1]] w fun e w' => e = .returned (.tuple #[.int .i64 r1, .int .i64 r2]) ∧ Below w.heap.size w w' := by
 have hu24 := Try.underlying24; have hu98 := Try.underlying98; have HR0_1 := ak hr0_1; have HC0_1 := ak hc0_1; clear hr0_1 hc0_1; have HB := ak (Below.refl w.heap.size w); have H : (if a0_0 < 0 then (compassref03_Check.j0 k true a0_0 l0_1) else (if a0_0 > 1024 then (compassref03_Check.j0 k true a0_0 l0_1) else (compassref03_Check.j0 k (decide ((l0_1.length : Int) > 4096)) a0_0 l0_1))) = some (r1, r2) := h; clear h; have HC2 := ak H; clear H
 go_enter Try.func44, Try.ntmps44
 go_upto_region 1 with (first | ((with_reducible refine gate_dst (N := 1) rfl ?_); (try (refine gate_guard (by rfl) ?_; dsimp only)); refine bxe 1 #[.int .i64 a0_0, .slice A0_1 l0_1.length c0_1] 24 ?_; intro gb332 hg w3 hbox hb; have n_ := a4 (bl hb) hbox (gw w hg) (gw w hg); clear HB; obtain ⟨HB, BK332, GW332, GE332⟩ := n_; clear hb hbox hg))
 (try simp only [Act.put, sA, sZ, sS])
 go_cut [19] (fun v19 wc => ∃ (kq : Nat) (x19_1 : Bool), v19 = .bool x19_1 ∧ Aside0 (compassref03_Check.j0 kq x19_1 a0_0 l0_1 = some (r1, r2)) ∧ Aside0 (kq ≤ k) ∧ Aside0 (wc.heap[gb332]? = some (.cells #[.int .i64 a0_0, (.slice A0_1 l0_1.length c0_1)] 24 (0, 0))) ∧ Aside0 (Below w.heap.size w wc))
 case first =>
  have H := HC2.out; clear HC2
  by_cases c4 : a0_0 < 0
  ·
   rw [if_pos c4] at H; have c4b0 := decide_eq_true c4; clear c4
   (first | rw [c4b0] | (simp only [i64_w, i32_w]; rw [c4b0]) | skip)
   have H' := ak H; clear H; have ⟨_, _, _, _⟩ := cf2 BK332
   go_wp2
   go_meet
   case rel => exact ⟨_, (true), sr, H', ⟨by first | omega | exact Nat.le_refl _⟩, xb BK332, ⟨lb⟩⟩
  rw [if_neg c4] at H; have c4b0 := decide_eq_false c4; clear c4
  (first | rw [c4b0] | (simp only [i64_w, i32_w]; rw [c4b0]) | skip)
  by_cases c6 : a0_0 > 1024
  rotate_left
  ·
   rw [if_neg c6] at H; have c6b0 := decide_eq_false c6; clear c6; have H' := ak H; clear H; have ⟨_, _, _, _⟩ := cf2 BK332
   go_wp2
   go_meet
   case rel => exact ⟨_, (decide ((l0_1.length : Int) > 4096)), sr, H', ⟨by first | omega | exact Nat.le_refl _⟩, xb BK332, ⟨lb⟩⟩
  rw [if_pos c6] at H; have c6b0 := decide_eq_true c6; clear c6; have H' := ak H; clear H; have ⟨_, _, _, _⟩ := cf2 BK332
  go_wp2
  go_meet
  case rel => exact ⟨_, (true), sr, H', ⟨by first | omega | exact Nat.le_refl _⟩, xb BK332, ⟨lb⟩⟩
 case rest =>
  clear HC2; obtain ⟨kq, x19_1, rfl, HA, HJ1, BK332, HB⟩ := hcut
  cases kq with
  | zero => exact absurd HA.out (by simp [compassref03_Check.j0])
  | succ kj1 =>
   have H := HA.out; clear HA
   simp only [compassref03_Check.j0] at H
   by_cases c9 : x19_1 = true
   ·
    subst c9
    replace H := ip H
    simp only [Option.some.injEq, Prod.mk.injEq] at H
    obtain ⟨rfl, rfl⟩ := H
    go_wp2
    go_ret2
    exact ⟨er, lb⟩
   replace c9 := Bool.eq_false_iff.mpr c9; subst c9
   have H1 : (compassref03_Check.l0 kj1 0 a0_0 l0_1) = some (r1, r2) := by rw [if_neg (show ¬ (false = true) by decide)] at H; exact H
   clear H; have H := H1; clear H1; have H' := ak H; clear H
   go_wp2
   go_loopg [4] kj1 (fun kq v4 w' => ∃ (x4_2 : Int), v4 = .int .i64 x4_2 ∧ Aside0 (compassref03_Check.l0 kq x4_2 a0_0 l0_1 = some (r1, r2)) ∧ Aside0 (kq ≤ kj1) ∧ Aside0 (w'.heap[gb332]? = some (.cells #[.int .i64 a0_0, (.slice A0_1 l0_1.length c0_1)] 24 (0, 0))) ∧ Aside0 (Below w.heap.size w w'))
   case atStart => exact ⟨(0), sr, H', ⟨Nat.le_refl _⟩, xb BK332, ⟨lb⟩⟩
   clear H'; obtain ⟨x4_2, rfl, HA, HK2, BK332, HB⟩ := hrel
   cases gk with
   | zero => exact absurd HA.out (by simp [compassref03_Check.l0])
   | succ k2 => ?_
   have H := HA.out; clear HA
   simp only [compassref03_Check.l0] at H
   by_cases c10 : x4_2 < (l0_1.length : Int)
   rotate_left
   ·
    rw [if_neg c10] at H; have c10b0 := decide_eq_false c10; clear c10
    simp only [Option.some.injEq, Prod.mk.injEq] at H
    obtain ⟨rfl, rfl⟩ := H; have ⟨_, _, _, _⟩ := cf2 BK332
    go_wp2
    go_ret2
    exact ⟨er, lb⟩

   rw [if_pos c10] at H; have c10b0 := decide_eq_true c10; clear c10; replace H := ifd H; obtain ⟨c11b0, H⟩ := H; replace H := Option.bind_eq_some_iff.mp H; obtain ⟨t334, A120, H⟩ := H; have A12 := ak A120; clear A120
   by_cases c13 : t334 = 0
   ·
    rw [if_pos c13] at H; have c13b := be2 c13; clear c13; have H' := ak H; clear H; have ⟨_, _, _, _⟩ := cf2 BK332
    try go_wp2
    have n_ := a2 (blk_drew BK332.out) (below_drew1 HB.out); clear BK332 HB; obtain ⟨BK332, HB⟩ := n_; obtain ⟨p333, q333, ad333, e333, hx333_0, hx333_1, hx333_2, hx333_3⟩ := wq (at_T98 HR0_1.out x4_2); have hw333_3 := hx333_3; have hw333_2 := hx333_2; have hw333_1 := hx333_1; have hw333_0 := hx333_0; cases e333
    (try replace hx333_0 := hbc HB hx333_0)
    (try replace hx333_1 := hbc HB hx333_1)
    (try replace hx333_2 := hbc HB hx333_2)
    (try replace hx333_3 := hbc HB hx333_3)
    refine stC 9 [] (cX (bc0 BK332) (cX (bc1 BK332) (cX (hbc HB hw333_0) (cX (hbc HB hw333_1) (cX (hbc HB hw333_2) (cY (hbc HB hw333_3))))))) compassref03_Check.tab6 compassref03_Check.bits6 fun hHeld HT_ HW_ => ?_
    generalize wr.drew = w15 at BK332 HB hx333_0 hx333_1 hx333_2 hx333_3 hHeld ⊢
    refine pv HT_ 0 27 ?_; refine pv HT_ 2 29 ?_; refine pv HT_ 4 31 ?_; refine tv HT_ HW_ hHeld 1 28 ?_; refine tv HT_ HW_ hHeld 3 30 ?_; refine pv HT_ 5 32 ?_; refine tv HT_ HW_ hHeld 6 33 ?_
    refine one_ (i := 7) (N := some 34) #[T, T, T, T, T, T, T, T, F] rfl rfl (one_of HT_.out (by kernel_rfl)) (by decide) (fun K hK => ?_)
    refine goes_ Try.func83 (by kernel_rfl) rfl #[.int .i64 a0_0, .agg #[.int .i64 ((rd_T98 l0_1 x4_2).f0), .int .i64 ((rd_T98 l0_1 x4_2).f1), .int .i64 ((rd_T98 l0_1 x4_2).f2), .int .i64 ((rd_T98 l0_1 x4_2).f3)]] (by rfl) rfl rfl (by (try simp only [List.map_toArray, List.map_cons, List.map_nil]); first | done | rfl | (simp only [List.length_drop, List.length_take]; rfl)) ?_
    with_reducible refine (compassref03_Bad.calls k2 a0_0 ((rd_T98 l0_1 x4_2).f0) ((rd_T98 l0_1 x4_2).f1) ((rd_T98 l0_1 x4_2).f2) ((rd_T98 l0_1 x4_2).f3) t334 _ A12.out).mono ?_
    rintro e w16 ⟨rfl, hb⟩
    refine ⟨_, rfl, ?_⟩
    have n_ := a2 (bo BK332 hb) (bl hb); clear BK332 HB; obtain ⟨BK332, HB⟩ := n_
    (try clear hb)
    (try clear hb2)
    (try clear hk)
    (try clear hi)
    refine hK.out _ _ ⟨(blk_cell BK332.out 0).trans rfl, (blk_cell BK332.out 1).trans rfl, (hbc HB hw333_0), (hbc HB hw333_1), (hbc HB hw333_2), (hbc HB hw333_3)⟩ (fun hHeld => ?_)
    clear hK K
    refine norm_ (a' := ?_) ?_ ?_
    rotate_left
    ·
     show Act.put _ (some 34) _ = _
     simp only [Act.put, sA, sZ, sS, i64_w, i32_w]
     rfl
    refine pv HT_ 8 5 ?_
    refine done_ (done_of HT_.out (by kernel_rfl)) ?_
    try go_wp2
    go_roundg k2
    case measure => have := HJ1.out; have := HK2.out; omega
    case rel => exact ⟨(wrap64 (x4_2 + 1)), sr, H', ⟨by have := HJ1.out; have := HK2.out; omega⟩, xb BK332, ⟨lb⟩⟩
   rw [if_neg c13] at H; have c13b := bn2 c13
   simp only [Option.some.injEq, Prod.mk.injEq] at H
   obtain ⟨rfl, rfl⟩ := H; have ⟨_, _, _, _⟩ := cf2 BK332
   try go_wp2
   have n_ := a2 (blk_drew BK332.out) (below_drew1 HB.out); clear BK332 HB; obtain ⟨BK332, HB⟩ := n_; obtain ⟨p333, q333, ad333, e333, hx333_0, hx333_1, hx333_2, hx333_3⟩ := wq (at_T98 HR0_1.out x4_2); have hw333_3 := hx333_3; have hw333_2 := hx333_2; have hw333_1 := hx333_1; have hw333_0 := hx333_0; cases e333
   (try replace hx333_0 := hbc HB hx333_0)
   (try replace hx333_1 := hbc HB hx333_1)
   (try replace hx333_2 := hbc HB hx333_2)
   (try replace hx333_3 := hbc HB hx333_3)
   refine stC 9 [] (cX (bc0 BK332) (cX (bc1 BK332) (cX (hbc HB hw333_0) (cX (hbc HB hw333_1) (cX (hbc HB hw333_2) (cY (hbc HB hw333_3))))))) compassref03_Check.tab6 compassref03_Check.bits6 fun hHeld HT_ HW_ => ?_
   generalize wr.drew = w18 at BK332 HB hx333_0 hx333_1 hx333_2 hx333_3 hHeld ⊢
   refine pv HT_ 0 27 ?_; refine pv HT_ 2 29 ?_; refine pv HT_ 4 31 ?_; refine tv HT_ HW_ hHeld 1 28 ?_; refine tv HT_ HW_ hHeld 3 30 ?_; refine pv HT_ 5 32 ?_; refine tv HT_ HW_ hHeld 6 33 ?_
   refine one_ (i := 7) (N := some 34) #[T, T, T, T, T, T, T, T, F] rfl rfl (one_of HT_.out (by kernel_rfl)) (by decide) (fun K hK => ?_)
   refine goes_ Try.func83 (by kernel_rfl) rfl #[.int .i64 a0_0, .agg #[.int .i64 ((rd_T98 l0_1 x4_2).f0), .int .i64 ((rd_T98 l0_1 x4_2).f1), .int .i64 ((rd_T98 l0_1 x4_2).f2), .int .i64 ((rd_T98 l0_1 x4_2).f3)]] (by rfl) rfl rfl (by (try simp only [List.map_toArray, List.map_cons, List.map_nil]); first | done | rfl | (simp only [List.length_drop, List.length_take]; rfl)) ?_
   with_reducible refine (compassref03_Bad.calls k2 a0_0 ((rd_T98 l0_1 x4_2).f0) ((rd_T98 l0_1 x4_2).f1) ((rd_T98 l0_1 x4_2).f2) ((rd_T98 l0_1 x4_2).f3) t334 _ A12.out).mono ?_
   rintro e w19 ⟨rfl, hb⟩
   refine ⟨_, rfl, ?_⟩
   have n_ := a2 (bo BK332 hb) (bl hb); clear BK332 HB; obtain ⟨BK332, HB⟩ := n_
   (try clear hb)
   (try clear hb2)
   (try clear hk)
   (try clear hi)
   refine hK.out _ _ ⟨(blk_cell BK332.out 0).trans rfl, (blk_cell BK332.out 1).trans rfl, (hbc HB hw333_0), (hbc HB hw333_1), (hbc HB hw333_2), (hbc HB hw333_3)⟩ (fun hHeld => ?_)
   clear hK K
   refine norm_ (a' := ?_) ?_ ?_
   rotate_left
   ·
    show Act.put _ (some 34) _ = _
    simp only [Act.put, sA, sZ, sS, i64_w, i32_w]
    rfl
   refine pv HT_ 8 5 ?_
   refine done_ (done_of HT_.out (by kernel_rfl)) ?_
   try go_wp2
   go_ret2
   exact ⟨er, lb⟩
end Go.Proofs.Ytkdoihcjhccliaa.Q
