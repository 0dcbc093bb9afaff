-- PRINTED by print.py (a twelfth state) out of the translation. Not trusted: Lean checks it.
import Derived.Test.YtofcjoccnbegdaaQ0
import Derived.Test.YtofcjoccnbegdaaQ14
namespace Go.Proofs.Ytofcjoccnbegdaa.Q
open Go.RowKit Go.Proofs.YtofcjoccnbegdaaW.PrintWords Go.Proofs.YtofcjoccnbegdaaW.PrintLast Go.Proofs.YtofcjoccnbegdaaW.PrintMore
attribute [local go_sem] max2_int min2_int max_two min_two max_three min_three max_four min_four   -- for this text's walks alone
set_option linter.unusedVariables false
set_option linter.unusedSimpArgs false

/-! ### safeint_Widen: function 27 -/
def safeint_Widen.f (a0 : Int) : Option (Int × Int) := some (a0 / 9223372036854775808, IntKind.u64.wrap (a0))
set_option maxHeartbeats 8000000 in
set_option maxRecDepth 100000 in
theorem safeint_Widen.calls (a0 : Int) (r1 : Int) (r2 : Int) (w : World) (h : safeint_Widen.f a0 = some (r1, r2)) :
    Calls Try.prog 27 #[.int .i64 a0] w fun e w' => e = .returned (.agg #[.int .i64 r1, .int .u64 r2]) ∧ Below w.heap.size w w' := by
  have hu50 := Try.underlying50
  have HB := Aside0.mk (Below.refl w.heap.size w)
  have H : (some (a0 / 9223372036854775808, IntKind.u64.wrap (a0))) = some (r1, r2) := h
  clear h
  simp only [Option.some.injEq, Prod.mk.injEq] at H
  obtain ⟨rfl, rfl⟩ := H
  go_enter Try.func27, Try.ntmps27
  go_wp2_with (first | ((with_reducible refine gate_dst (N := 2) rfl ?_); refine box_event ?hg (N := 2) ?hd (cs := #[.int .i64 0, .int .u64 0]) (t := 50) ?hr ?_; (case hd => rfl); (case hg => rfl); (case hr => first | (go_simp; done) | (go_simp; rfl)); intro gb321 hg w2 hbox hb; have n0_ := Aside0.mk (below_step (by repeat (first | (with_reducible first | exact HB.out | apply below_alloc | apply pw_below_drewN | apply below_drew1) | exact HB.out)) hb); have n1_ := Aside0.mk (hbox); have n2_ := Aside0.mk ((by rw [hg]; exact (below_size (by repeat (first | (with_reducible first | exact HB.out | apply below_alloc | apply pw_below_drewN | apply below_drew1) | exact HB.out))) : w.heap.size ≤ gb321)); have n3_ := Aside0.mk ((by rw [hg]; exact (below_size (by repeat (first | (with_reducible first | exact HB.out | apply below_alloc | apply pw_below_drewN | apply below_drew1) | exact HB.out))) : w.heap.size ≤ gb321)); clear HB; have HB := n0_; have BK321 := n1_; have GW321 := n2_; have GE321 := n3_; clear n0_ n1_ n2_ n3_; clear hb hbox hg; have hcz3_0 : w2.cell? ⟨gb321, 0, none⟩ = some (.int .i64 0) := (blk_cell BK321.out 0).trans rfl; have hcz3_1 : w2.cell? ⟨gb321, 1, none⟩ = some (.int .u64 0) := (blk_cell BK321.out 1).trans rfl; have hfz3_0 := blk_frozen BK321.out 0; have hfz3_1 := blk_frozen BK321.out 1))
  refine bodyPost_ret (results_cell_row rfl _ _ gb321 50 #[.int .i64 (a0 / 9223372036854775808), .int .u64 (IntKind.u64.wrap (a0))] (0, 0) _ rfl (by (with_reducible repeat (first | refine blk_drewN ?_ _ | refine blk_drew ?_ | refine blk_alloc ?_ _)); refine blk_put (cs := #[.int .i64 (a0 / 9223372036854775808), .int .u64 0]) ?_ 1 _ rfl; (with_reducible repeat (first | refine blk_drewN ?_ _ | refine blk_drew ?_ | refine blk_alloc ?_ _)); refine blk_put (cs := #[.int .i64 0, .int .u64 0]) ?_ 0 _ rfl; (with_reducible repeat (first | refine blk_drewN ?_ _ | refine blk_drew ?_ | refine blk_alloc ?_ _)); exact BK321.out) Try.underlying50 rfl (by kernel_rfl)) rfl ?_
  exact ⟨by first | rfl | (simp [errW_none, errW_some] <;> rfl) | (simp [*, errW_none, errW_some] <;> rfl), by repeat (first | (with_reducible first | exact HB.out | apply below_alloc | apply pw_below_drewN | apply below_drew1 | refine below_set ?_ GE321.out) | exact HB.out)⟩

-- NOT PRINTED: function 44 (bits_Add64)

/-! ### GIVEN: safeint_Plus: function 28 -/
theorem add64_law (x y : Int) (hx : 0 ≤ x) (hy : 0 ≤ y) (w : World) :
    (callFunc 44 #[.int .u64 x, .int .u64 y, .int .u64 0]).run Try.prog w = .ok (.value (.tuple #[.int .u64 ((x + y) % 18446744073709551616), .int .u64 ((x + y) / 18446744073709551616)])) w := by
  rw [run_callFunc_extern Try.func44 (by kernel_rfl) (by kernel_rfl) (by kernel_rfl) (e := add64Entry) (by kernel_rfl), run_add64 x y 0 hx hy (by omega) (by omega), Int.add_zero]; rfl

def plusHi (a c x y : Int) : Int := wrap64 (wrap64 (a + c) + wrap64 ((x + y) / 18446744073709551616))
def plusLo (x y : Int) : Int := (x + y) % 18446744073709551616
def safeint_Plus.f (a0_0 a0_1 a1_0 a1_1 : Int) : Option (Int × Int × Int) :=
  if 0 ≤ a0_1 ∧ 0 ≤ a1_1 then
    if (decide (a0_0 < 0) == decide (a1_0 < 0)) = true then
      if (decide (plusHi a0_0 a1_0 a0_1 a1_1 < 0) != decide (a0_0 < 0)) = true then some (0, 0, 10)
      else some (plusHi a0_0 a1_0 a0_1 a1_1, plusLo a0_1 a1_1, 0)
    else some (plusHi a0_0 a1_0 a0_1 a1_1, plusLo a0_1 a1_1, 0)
  else none
set_option maxHeartbeats 1000000 in
set_option maxRecDepth 100000 in
theorem safeint_Plus.calls (a0_0 a0_1 a1_0 a1_1 r1 r2 r3 : Int) (w : World) (h : safeint_Plus.f a0_0 a0_1 a1_0 a1_1 = some (r1, r2, r3)) :
    Calls Try.prog 28 #[.agg #[.int .i64 a0_0, .int .u64 a0_1], .agg #[.int .i64 a1_0, .int .u64 a1_1]] w fun e w' => e = .returned (.tuple #[.agg #[.int .i64 r1, .int .u64 r2], .int .i64 r3]) ∧ Below w.heap.size w w' := by
  unfold safeint_Plus.f at h
  by_cases c0 : 0 ≤ a0_1 ∧ 0 ≤ a1_1
  · rw [if_pos c0] at h
    have hadd := add64_law a0_1 a1_1 c0.1 c0.2
    have HH := Aside0.mk h
    clear h c0
    have fin0 : ∀ {x : Int}, (!decide (x < 0) == decide (a0_0 < 0)) = true → (decide (x < 0) != decide (a0_0 < 0)) = true := fun {x} h => by
      cases h1 : decide (x < 0) <;> cases h2 : decide (a0_0 < 0) <;> simp_all
    have fin1 : ∀ {x : Int}, (!decide (x < 0) == decide (a0_0 < 0)) = false → ¬ (decide (x < 0) != decide (a0_0 < 0)) = true := fun {x} h => by
      cases h1 : decide (x < 0) <;> cases h2 : decide (a0_0 < 0) <;> simp_all
    have F0 := Aside0.mk @fin0
    have F1 := Aside0.mk @fin1
    clear fin0 fin1
    by_cases c1 : (decide (a0_0 < 0) == decide (a1_0 < 0)) = true
    · go_enter Try.func28, Try.ntmps28
      go_wp2
      · have h := HH.out
        rw [if_pos c1, if_pos (F0.out (by assumption))] at h
        injection h with h; injection h with h1 h; injection h with h2 h3
        refine bodyPost_ret (v := .tuple #[.agg #[.int .i64 0, .int .u64 0], .int .i64 10]) (by simp [results, Try.results28, go_sem]) rfl ⟨by rw [← h1, ← h2, ← h3], ?_⟩
        repeat (first | exact Below.refl _ _ | refine Below.setCell ?_ (by simp <;> omega) _ | apply below_alloc | apply pw_below_drewN)
      · have h := HH.out
        rw [if_pos c1, if_neg (F1.out (by assumption))] at h
        injection h with h; injection h with h1 h; injection h with h2 h3
        refine bodyPost_ret (v := .tuple #[.agg #[.int .i64 (plusHi a0_0 a1_0 a0_1 a1_1), .int .u64 (plusLo a0_1 a1_1)], .int .i64 0]) (by simp [results, Try.results28, go_sem, plusHi, plusLo]) rfl ⟨by rw [← h1, ← h2, ← h3], ?_⟩
        repeat (first | exact Below.refl _ _ | refine Below.setCell ?_ (by simp <;> omega) _ | apply below_alloc | apply pw_below_drewN)
    · have c1' : (decide (a0_0 < 0) == decide (a1_0 < 0)) = false := by simpa using c1
      have h := HH.out
      rw [if_neg c1] at h
      have H2 := Aside0.mk h
      clear h c1
      go_enter Try.func28, Try.ntmps28
      go_wp2
      have h := H2.out
      injection h with h; injection h with h1 h; injection h with h2 h3
      refine bodyPost_ret (v := .tuple #[.agg #[.int .i64 (plusHi a0_0 a1_0 a0_1 a1_1), .int .u64 (plusLo a0_1 a1_1)], .int .i64 0]) (by simp [results, Try.results28, go_sem, plusHi, plusLo]) rfl ⟨by rw [← h1, ← h2, ← h3], ?_⟩
      repeat (first | exact Below.refl _ _ | refine Below.setCell ?_ (by simp <;> omega) _ | apply below_alloc | apply pw_below_drewN)
  · rw [if_neg c0] at h
    cases h

-- NOT PRINTED: function 46 (safeint_Wide)

-- NOT PRINTED: function 47 (safeint_must_int64)

/-! ### GIVEN: safeint_Sum: function 33 -/
theorem sumCatch_panicking (p q : Addr) (x y c : Int) (older : List PanicEntry) (w : World) (hc : w.cell? p = some (.int .i64 x)) (hz : w.frozen? p = false)
    (hd : (w.setCell p (.int .i64 0)).cell? q = some (.int .i64 y)) (hy : (w.setCell p (.int .i64 0)).frozen? q = false) :
    CallsD Try.prog 45 #[.pointer (some p), .pointer (some q)] (.panicking ({ v := .iface 26 (.int .i64 c), recovered := false } :: older)) w fun e u' w' =>
      e = .returned (.tuple #[]) ∧ u' = .panicking ({ v := .iface 26 (.int .i64 c), recovered := true } :: older) ∧ w' = (w.setCell p (.int .i64 0)).setCell q (.int .i64 c) := by
  have hta : ∀ (v : Value) (W : World), (Instr.typeAssert (.iface 26 v) 20 26 true).run Try.prog W = .ok (.tuple #[v, .bool true]) W := fun v W => by rfl
  refine callsD_of_wpS Try.func45 rfl fun c₀ cs hu => ?_
  apply wpS_seq
  apply wpS_region
  simp [wpOpsS, go_sem, recoverD, hu, Try.ntmps45, Exit.thenS, hta]
  apply wpS_seq
  apply wpS_region
  simp [wpOpsS, go_sem, Exit.thenS, Array.replicate]
  refine wpS_cond (t := true) (by simp [Act.eval]) ?_
  simp only [if_true]
  apply wpS_region
  simp [wpOpsS, go_sem, hc, hz, hd, hy, bodyPostS, results, Try.results45]

theorem sumCatch_idle (p q : Addr) (w : World) :
    CallsD Try.prog 45 #[.pointer (some p), .pointer (some q)] .returning w fun e u' w' => e = .returned (.tuple #[]) ∧ u' = .returning ∧ w' = w := by
  have hta : ∀ (W : World), (Instr.typeAssert .nilIface 20 26 true).run Try.prog W = .ok (.tuple #[.int .i64 0, .bool false]) W := fun W => by kernel_rfl
  refine callsD_of_wpS Try.func45 rfl fun c₀ cs hu => ?_
  apply wpS_seq
  apply wpS_region
  simp [wpOpsS, go_sem, recoverD, hu, Try.ntmps45, Exit.thenS, hta]
  apply wpS_seq
  apply wpS_region
  simp [wpOpsS, go_sem, Exit.thenS, Array.replicate]
  refine wpS_cond (t := false) (by simp [Act.eval]) ?_
  simp only [Bool.false_eq_true, if_false]
  refine wpS_of_wp (wp_skip ?_)
  cases c₀
  simp_all [bodyPostS, results, Try.results45]

theorem must46_ok (a b : Int) (w : World) :
    Calls Try.prog 46 #[.agg #[.int .i64 a, .int .u64 b], .int .i64 0] w fun e w' => e = .returned (.agg #[.int .i64 a, .int .u64 b]) ∧ Below w.heap.size w w' := by
  go_enter Try.func46, Try.ntmps46
  go_wp2
  refine bodyPost_ret (v := .agg #[.int .i64 a, .int .u64 b]) (by simp [results, Try.results46, go_sem]) rfl ⟨rfl, ?_⟩
  repeat (first | exact Below.refl _ _ | refine Below.setCell ?_ (by simp <;> omega) _ | apply below_alloc | apply pw_below_drewN)
theorem must47_ok (a : Int) (w : World) :
    Calls Try.prog 47 #[.int .i64 a, .int .i64 0] w fun e w' => e = .returned (.int .i64 a) ∧ w' = w := by
  go_enter Try.func47, Try.ntmps47
  go_wp2
  go_ret
  exact ⟨rfl, rfl⟩
theorem must47_panics (a c : Int) (hc : (c != 0) = true) (w : World) :
    Calls Try.prog 47 #[.int .i64 a, .int .i64 c] w fun e w' => e = .panicked [{ v := .iface 26 (.int .i64 c), recovered := false }] ∧ w' = w := by
  go_enter Try.func47, Try.ntmps47
  go_wp2
  exact ⟨rfl, rfl, rfl⟩

structure SumInv (w W : World) (hi lo : Int) : Prop where
  b2 : W.heap[w.heap.size]? = some (.cells #[.int .i64 0] 2 (0, 0))
  b3 : W.heap[w.heap.size + 1]? = some (.cells #[.int .i64 0] 26 (0, 0))
  b4 : W.heap[w.heap.size + 1 + 1]? = some (.cells #[.int .i64 hi, .int .u64 lo] 50 (0, 0))
  hb : Below w.heap.size w W
theorem SumInv.below {w W W1 : World} {hi lo : Int} (h : SumInv w W hi lo) (hb : Below W.heap.size W W1) : SumInv w W1 hi lo :=
  ⟨blk_below h.b2 hb, blk_below h.b3 hb, blk_below h.b4 hb, below_step h.hb hb⟩
theorem SumInv.drew {w W : World} {hi lo : Int} (h : SumInv w W hi lo) : SumInv w W.drew hi lo := ⟨h.b2, h.b3, h.b4, below_drew h.hb⟩
theorem SumInv.drewN {w W : World} {hi lo : Int} (h : SumInv w W hi lo) (n : Nat) : SumInv w (W.drewN n) hi lo := ⟨h.b2, h.b3, h.b4, pw_below_drewN h.hb n⟩
theorem SumInv.put {w W : World} {hi lo hi' lo' : Int} (h : SumInv w W hi lo) :
    SumInv w ((W.setCell ⟨w.heap.size + 1 + 1, 0, none⟩ (.int .i64 hi')).setCell ⟨w.heap.size + 1 + 1, 1, none⟩ (.int .u64 lo')) hi' lo' :=
  ⟨blk_far (blk_far h.b2 (by simp; omega) _) (by simp; omega) _, blk_far (blk_far h.b3 (by simp) _) (by simp) _, blk_put (blk_put h.b4 0 _ rfl) 1 _ rfl,
    below_set (below_set h.hb (by omega)) (by omega)⟩

def sumTo (l : List Int) (k : Nat) : Int := (l.take k).sum
def wHi (s : Int) : Int := s / 18446744073709551616
def wLo (s : Int) : Int := s % 18446744073709551616
set_option maxHeartbeats 2000000 in
set_option maxRecDepth 100000 in
theorem sum_any (A : Option Addr) (c : Nat) (l : List Int) (r1 r2 : Int) (w : World) (hr : Kd.C (Kd.int .i64) w A l.length l) (hc : l.length ≤ c)
    (hplus : ∀ k, k < l.length → safeint_Plus.f (wHi (sumTo l k)) (wLo (sumTo l k)) (rd l k / 9223372036854775808) (IntKind.u64.wrap (rd l k)) = some (wHi (sumTo l (k + 1)), wLo (sumTo l (k + 1)), 0))
    (hwid : ∀ k, k < l.length → safeint_Widen.f (rd l k) = some (rd l k / 9223372036854775808, IntKind.u64.wrap (rd l k)))
    (hnar : safeint_Narrow.f (wHi (sumTo l l.length)) (wLo (sumTo l l.length)) = some (r1, r2)) (hr2 : r2 = 0 ∨ r1 = 0) :
    Calls Try.prog 33 #[.slice A l.length c] w fun e w' => e = .returned (.tuple #[.int .i64 r1, .int .i64 r2]) ∧ Below w.heap.size w w' := by
  have hmf : ∀ (fn : Fn) (first cap : Array Value) (w : World), (Instr.makeFunc fn first cap).run Try.prog w = .ok (.func fn first cap) w := fun _ _ _ _ => rfl
  have HR := Aside0.mk hr
  have HC := Aside0.mk hc
  have HP := Aside0.mk hplus
  have HW := Aside0.mk hwid
  have HN := Aside0.mk hnar
  have H2 := Aside0.mk hr2
  have hl : l.length ≤ 9223372036854775807 := by have := hr.2.1; omega
  clear hr hc hplus hwid hnar hr2
  go_enter_defers Try.func33, Try.ntmps33
  go_wp2
  go_loopg [10] l.length (fun kq v10 w' => ∃ i : Nat, v10 = .int .i64 i ∧ Aside0 (i + kq = l.length) ∧
    SumInv w w' (wHi (sumTo l i)) (wLo (sumTo l i)))
  case atStart =>
    refine ⟨0, by simp, ⟨by omega⟩, ⟨?_, ?_, ?_, ?_⟩⟩
    · exact blk_alloc (blk_alloc (heap_alloc_new w _) _) _
    · exact blk_alloc (by have := heap_alloc_new (w.alloc (.cells #[.int .i64 0] 2)) (.cells #[.int .i64 0] 26); simpa using this) _
    · have := heap_alloc_new ((w.alloc (.cells #[.int .i64 0] 2)).alloc (.cells #[.int .i64 0] 26)) (.cells #[.int .i64 0, .int .u64 0] 50)
      simpa [sumTo, wHi, wLo] using this
    · exact below_alloc (below_alloc (below_alloc (Below.refl _ _) _) _) _
  case round =>
    obtain ⟨i, rfl, HK, I0⟩ := hrel
    by_cases hlt : i < l.length
    · obtain ⟨ad, e, hx⟩ := Kd.at_int (Kd.C_below HR.out I0.hb) (i : Int) (by omega) (by omega)
      cases e
      simp only [Int.toNat_natCast] at hx
      have P1 := Aside0.mk (HP.out i hlt)
      have W1 := Aside0.mk (HW.out i hlt)
      have hz0 := (blk_cell I0.b4 0).trans rfl
      have hz1 := (blk_cell I0.b4 1).trans rfl
      go_wp2
      refine wp_region_noPanic ?_
      go_region_with
        (first
          | (go_at_call 27; refine (safeint_Widen.calls _ _ _ _ W1.out).mono ?_; rintro e w5 ⟨rfl, hb5⟩; have I5 : SumInv w w5 (wHi (sumTo l i)) (wLo (sumTo l i)) := (by first | exact I0.below hb5 | exact I0.drew.below hb5 | exact (I0.drewN _).below hb5); clear hb5; have hy0 := (blk_cell I5.b4 0).trans rfl; have hy1 := (blk_cell I5.b4 1).trans rfl)
          | (go_at_call 28; refine (safeint_Plus.calls _ _ _ _ _ _ _ _ P1.out).mono ?_; rintro e w6 ⟨rfl, hb6⟩; have I6 : SumInv w w6 (wHi (sumTo l i)) (wLo (sumTo l i)) := (by first | exact I5.below hb6 | exact I5.drew.below hb6 | exact (I5.drewN _).below hb6); clear hb6)
          | (go_at_call 46; refine (must46_ok _ _ _).mono ?_; rintro e w7 ⟨rfl, hb7⟩; have I7 : SumInv w w7 (wHi (sumTo l i)) (wLo (sumTo l i)) := (by first | exact I6.below hb7 | exact I6.drew.below hb7 | exact (I6.drewN _).below hb7); clear hb7; have hv0 := (blk_cell I7.b4 0).trans rfl; have hv1 := (blk_cell I7.b4 1).trans rfl; have hg0 := blk_frozen I7.b4 0; have hg1 := blk_frozen I7.b4 1))
      all_goals (refine NoPanic.normal ?_)
      all_goals go_wp2
      all_goals go_roundg (l.length - (i + 1))
      case measure => have := HK.out; omega
      case rel => exact ⟨i + 1, by go_num, ⟨by omega⟩, I7.put⟩
      case measure => have := HK.out; omega
      case rel => exact ⟨i + 1, by go_num, ⟨by omega⟩, I7.put⟩
    · obtain rfl : i = l.length := by have := HK.out; omega
      have hz0 := (blk_cell I0.b4 0).trans rfl
      have hz1 := (blk_cell I0.b4 1).trans rfl
      have N1 := Aside0.mk HN.out
      clear hlt
      by_cases h0 : r2 = 0
      · subst h0
        go_wp2_with (first
          | (go_at_call 25; refine (safeint_Narrow.calls _ _ _ _ _ N1.out).mono ?_; rintro e w5 ⟨rfl, hb5⟩; have I5 := I0.below hb5; clear hb5)
          | (go_at_call 47; refine (must47_ok _ _).mono ?_; rintro e w6 ⟨rfl, rfl⟩; have hv0 := (blk_cell I5.b2 0).trans rfl; have hv1 := (blk_cell I5.b3 0).trans rfl; have hg0 := blk_frozen I5.b2 0; have hg1 := blk_frozen I5.b3 0))
        refine leaves_cons (f := 45) (args := #[.pointer (some ⟨w.heap.size, 0, none⟩), .pointer (some ⟨w.heap.size + 1, 0, none⟩)]) (by simp) (by simp [go_sem]) ?_
        refine (sumCatch_idle _ _ _).mono ?_
        rintro e u' w'' ⟨rfl, rfl, rfl⟩
        have d0 := (blk_cell (blk_put I5.b2 0 (.int .i64 r1) rfl) 0)
        have c1 := (blk_cell (blk_put (blk_far I5.b3 (p := ⟨w.heap.size, 0, none⟩) (by simp) (.int .i64 r1)) 0 (.int .i64 0) rfl) 0)
        have bl := below_set (g := w.heap.size + 1) (j := 0) (v := .int .i64 0) (below_set (g := w.heap.size) (j := 0) (v := .int .i64 r1) I5.hb (by omega)) (by omega)
        simp [Leaves, settle, results, Try.results33, go_sem, d0, c1, bl]
      · have h1 : r1 = 0 := by have := H2.out; omega
        subst h1
        have hne : (r2 != 0) = true := bne_iff_ne.mpr h0
        go_wp2_with (first
          | (go_at_call 25; refine (safeint_Narrow.calls _ _ _ _ _ N1.out).mono ?_; rintro e w5 ⟨rfl, hb5⟩; have I5 := I0.below hb5; clear hb5)
          | (go_at_call 47; refine (must47_panics _ _ hne _).mono ?_; rintro e w6 ⟨rfl, rfl⟩))
        refine leaves_cons (f := 45) (args := #[.pointer (some ⟨w.heap.size, 0, none⟩), .pointer (some ⟨w.heap.size + 1, 0, none⟩)]) (by simp) (by simp [go_sem]) ?_
        refine (sumCatch_panicking _ _ 0 0 r2 [] _ ?_ ?_ ?_ ?_).mono ?_
        · exact (blk_cell I5.b2 0).trans rfl
        · exact blk_frozen I5.b2 0
        · exact (blk_cell (blk_far I5.b3 (by simp) _) 0).trans rfl
        · exact blk_frozen (blk_far I5.b3 (by simp) _) 0
        rintro e u' w'' ⟨rfl, rfl, rfl⟩
        have d0 := (blk_cell (blk_put I5.b2 0 (.int .i64 0) rfl) 0)
        have c1 := (blk_cell (blk_put (blk_far I5.b3 (p := ⟨w.heap.size, 0, none⟩) (by simp) (.int .i64 0)) 0 (.int .i64 r2) rfl) 0)
        have bl := below_set (g := w.heap.size + 1) (j := 0) (v := .int .i64 r2) (below_set (g := w.heap.size) (j := 0) (v := .int .i64 0) I5.hb (by omega)) (by omega)
        simp [Leaves, settle, results, Try.results33, go_sem, d0, c1, bl]

theorem sumTo_succ (l : List Int) (k : Nat) (h : k < l.length) : sumTo l (k + 1) = sumTo l k + rd l k := by
  unfold sumTo
  rw [List.take_succ_eq_append_getElem h, List.sum_append]
  simp [rd, List.getD_eq_getElem?_getD, List.getElem?_eq_getElem h]
theorem rd_mem (l : List Int) (k : Nat) (h : k < l.length) : rd l k ∈ l := by
  have : rd l k = l[k] := by simp [rd, List.getD_eq_getElem?_getD, List.getElem?_eq_getElem h]
  rw [this]; exact List.getElem_mem h
theorem sumTo_bound (l : List Int) (hwf : ∀ x ∈ l, -9223372036854775808 ≤ x ∧ x ≤ 9223372036854775807) : ∀ k, k ≤ l.length → -9223372036854775808 * (k : Int) ≤ sumTo l k ∧ sumTo l k ≤ 9223372036854775808 * (k : Int) := by
  intro k
  induction k with
  | zero => intro _; simp [sumTo]
  | succ k ih =>
    intro h
    have := ih (by omega)
    have := hwf _ (rd_mem l k (by omega))
    rw [sumTo_succ l k (by omega)]
    omega
theorem plus_wide (s x : Int) (h1 : -1329227995784915872903807060280344576 ≤ s) (h2 : s ≤ 1329227995784915872903807060280344576) (h3 : -9223372036854775808 ≤ x) (h4 : x ≤ 9223372036854775807) :
    safeint_Plus.f (wHi s) (wLo s) (x / 9223372036854775808) (IntKind.u64.wrap x) = some (wHi (s + x), wLo (s + x), 0) := by
  have hw : IntKind.u64.wrap x = x % 18446744073709551616 := by simp [IntKind.wrap, IntKind.bits, IntKind.signed]
  have hhi : plusHi (wHi s) (x / 9223372036854775808) (wLo s) (x % 18446744073709551616) = wHi (s + x) := by
    unfold plusHi wHi wLo wrap64; omega
  have hlo : plusLo (wLo s) (x % 18446744073709551616) = wLo (s + x) := by unfold plusLo wLo; omega
  unfold safeint_Plus.f
  rw [hw, hhi, hlo, if_pos (by unfold wLo; omega)]
  split
  · rename_i hc
    rw [if_neg]
    have e1 : decide (wHi s < 0) = decide (x / 9223372036854775808 < 0) := by simpa using hc
    have : (decide (wHi (s + x) < 0)) = decide (wHi s < 0) := by
      by_cases h : wHi s < 0
      · have h5 : x / 9223372036854775808 < 0 := by rw [decide_eq_true h] at e1; exact of_decide_eq_true e1.symm
        rw [decide_eq_true h, decide_eq_true]
        unfold wHi at *; omega
      · have h5 : ¬ x / 9223372036854775808 < 0 := by rw [decide_eq_false h] at e1; exact of_decide_eq_false e1.symm
        rw [decide_eq_false h, decide_eq_false]
        unfold wHi at *; omega
    rw [this]; simp
  · rfl
def safeint_Sum.f (l0 : List Int) : Option (Int × Int) :=
  if (∀ x ∈ l0, -9223372036854775808 ≤ x ∧ x ≤ 9223372036854775807) ∧ l0.length ≤ 140737488351232 then
    if -9223372036854775808 ≤ l0.sum ∧ l0.sum ≤ 9223372036854775807 then some (l0.sum, 0) else some (0, 10)
  else none
theorem safeint_Sum.calls (A0 : Option Addr) (c0 : Nat) (l0 : List Int) (r1 : Int) (r2 : Int) (w : World) (hr0 : Kd.C (Kd.int .i64) w A0 l0.length l0) (hc0 : l0.length ≤ c0) (h : safeint_Sum.f l0 = some (r1, r2)) :
    Calls Try.prog 33 #[.slice A0 l0.length c0] w fun e w' => e = .returned (.tuple #[.int .i64 r1, .int .i64 r2]) ∧ Below w.heap.size w w' := by
  unfold safeint_Sum.f at h
  split at h
  · rename_i hyp
    obtain ⟨hwf, hlen⟩ := hyp
    have hb := sumTo_bound l0 hwf
    refine sum_any A0 c0 l0 r1 r2 w hr0 hc0 ?_ ?_ ?_ ?_
    · intro k hk
      have := hb k (by omega)
      have := hwf _ (rd_mem l0 k hk)
      rw [sumTo_succ l0 k hk]
      exact plus_wide _ _ (by omega) (by omega) (by omega) (by omega)
    · intro k hk; rfl
    · have hs : sumTo l0 l0.length = l0.sum := by unfold sumTo; rw [List.take_length]
      have := hb l0.length (Nat.le_refl _)
      rw [hs] at this ⊢
      unfold safeint_Narrow.f wHi wLo
      by_cases hr : -9223372036854775808 ≤ l0.sum ∧ l0.sum ≤ 9223372036854775807
      · rw [if_pos hr] at h
        rw [if_pos (by unfold wrap64; omega), ← h]
        congr 2; unfold wrap64; omega
      · rw [if_neg hr] at h
        rw [if_neg (by unfold wrap64; omega), ← h]
    · split at h
      · injection h with h; injection h with h1 h2; exact .inl h2.symm
      · injection h with h; injection h with h1 h2; exact .inr h1.symm
  · cases h

/-! ### compasslaw01_awake: function 21 -/
def compasslaw01_awake.f  : Option (Bool) := (safeint_Mul.f 2147483648 2147483648).bind fun bt324 => ((safeint_Sum.f (([4611686018427387904, 4611686018427387904, (-4611686018427387904)] : List Int))).bind fun bt329 => (if bt324.1 = 4611686018427387904 then (if bt324.2 = 0 then (if bt329.1 = 4611686018427387904 then (some (bt329.2 == 0)) else (some false)) else (some false)) else (some false)))
set_option maxHeartbeats 8000000 in
set_option maxRecDepth 100000 in
theorem compasslaw01_awake.calls  (r : Bool) (w : World) (h : compasslaw01_awake.f  = some r) :
    Calls Try.prog 21 #[] w fun e w' => e = .returned (.bool r) ∧ Below w.heap.size w w' := by
  have HB := Aside0.mk (Below.refl w.heap.size w)
  have H : ((safeint_Mul.f 2147483648 2147483648).bind fun bt324 => ((safeint_Sum.f (([4611686018427387904, 4611686018427387904, (-4611686018427387904)] : List Int))).bind fun bt329 => (if bt324.1 = 4611686018427387904 then (if bt324.2 = 0 then (if bt329.1 = 4611686018427387904 then (some (bt329.2 == 0)) else (some false)) else (some false)) else (some false)))) = some r := h
  clear h
  replace H := Option.bind_eq_some_iff.mp H
  obtain ⟨⟨t324, t325⟩, A10, H⟩ := H
  replace H : ((safeint_Sum.f (([4611686018427387904, 4611686018427387904, (-4611686018427387904)] : List Int))).bind fun bt329 => (if t324 = 4611686018427387904 then (if t325 = 0 then (if bt329.1 = 4611686018427387904 then (some (bt329.2 == 0)) else (some false)) else (some false)) else (some false))) = some r := H
  have A1 := Aside0.mk A10
  clear A10
  obtain ⟨y326, hy326⟩ : ∃ y_ : List Int, y_ = (([4611686018427387904, 4611686018427387904, (-4611686018427387904)] : List Int)) := ⟨_, rfl⟩
  replace H : ((safeint_Sum.f y326).bind fun bt329 => (if t324 = 4611686018427387904 then (if t325 = 0 then (if bt329.1 = 4611686018427387904 then (some (bt329.2 == 0)) else (some false)) else (some false)) else (some false))) = some r := by first | (rw [hy326]; with_reducible exact H) | (have H2_ := (Option.bind_some _ _).symm.trans H; rw [hy326]; with_reducible exact H2_) | (have H2_ := (Option.bind_some _ _).symm.trans H; with_reducible exact H2_) | with_reducible exact H | (rw [hy326]; exact H) | exact H
  have Ny326 := Aside0.mk hy326
  clear hy326
  replace H := Option.bind_eq_some_iff.mp H
  obtain ⟨⟨t329, t330⟩, A20, H⟩ := H
  replace H : (if t324 = 4611686018427387904 then (if t325 = 0 then (if t329 = 4611686018427387904 then (some (t330 == 0)) else (some false)) else (some false)) else (some false)) = some r := H
  have A2 := Aside0.mk A20
  clear A20
  by_cases c3 : t324 = 4611686018427387904
  · rw [if_pos c3] at H
    have c3b0 : (t324 == 4611686018427387904) = true := beq_iff_eq.mpr c3
    have c3b1 : (t324 != 4611686018427387904) = false := bne_eq_false_iff_eq.mpr c3
    clear c3
    by_cases c4 : t325 = 0
    · rw [if_pos c4] at H
      have c4b0 : (t325 == 0) = true := beq_iff_eq.mpr c4
      have c4b1 : (t325 != 0) = false := bne_eq_false_iff_eq.mpr c4
      clear c4
      by_cases c5 : t329 = 4611686018427387904
      · rw [if_pos c5] at H
        have c5b0 : (t329 == 4611686018427387904) = true := beq_iff_eq.mpr c5
        have c5b1 : (t329 != 4611686018427387904) = false := bne_eq_false_iff_eq.mpr c5
        clear c5
        obtain rfl := Option.some.inj H
        go_enter Try.func21, Try.ntmps21
        go_wp2_with (first | ((with_reducible refine gate_callee (f := 20) rfl ?_); refine goesL_ (some 6) rfl rfl Try.func20 (by kernel_rfl) rfl #[.int .i64 2147483648, .int .i64 2147483648] rfl (by (try simp only [List.map_toArray, List.map_cons, List.map_nil]); first | done | rfl | (simp only [List.length_drop, List.length_take]; rfl) | (simp only [*]; rfl) | (simp [*]; done) | (simp [*]; (repeat' apply And.intro) <;> rfl)) ?_; (with_reducible refine (safeint_Mul.calls 2147483648 2147483648 t324 t325 _ A1.out).mono ?_); rintro e w6 ⟨rfl, hb⟩; refine ⟨_, rfl, ?_⟩; have n0_ := Aside0.mk (below_step (by repeat (first | (with_reducible first | exact HB.out | apply below_alloc | apply pw_below_drewN | apply below_drew1) | exact HB.out)) hb); clear HB; have HB := n0_; clear n0_; (try clear hb); (try clear hb2); (try clear hk); (try clear hi)) | ((with_reducible refine gate_dst (N := 10) rfl ?_); refine Kd.R_lit (Kd.int .i64) _ 2 ?hg (N := 10) ?hd (xs := ([4611686018427387904, 4611686018427387904, (-4611686018427387904)] : List Int)) (inner := [.int .i64 4611686018427387904, .int .i64 4611686018427387904, .int .i64 (-4611686018427387904)]) (ok := fun _ => True) (okp := fun _ => True) ?hr ?hp (fun _ hk => hk) trivial (Below.refl _ _) (Nat.le_refl _) (by simp) ?_; (case hd => rfl); (case hg => rfl); (case hr => first | (go_simp; done) | (go_simp; rfl)); (case hp => exact (Reps.one (show Kd.M (Kd.int .i64) _ _ _ 4611686018427387904 [.int .i64 4611686018427387904] from rfl) (Reps.one (show Kd.M (Kd.int .i64) _ _ _ 4611686018427387904 [.int .i64 4611686018427387904] from rfl) (Reps.one (show Kd.M (Kd.int .i64) _ _ _ (-4611686018427387904) [.int .i64 (-4611686018427387904)] from rfl) (Reps.none _ _))))); intro v327 w7 ho8 hb hg_ hnew_; clear hg_ hnew_; (first | rw [← Ny326.out] at ho8 | (simp only [Int.reduceToNat] at ho8; rw [← Ny326.out] at ho8)); have n0_ := Aside0.mk (Kd.R_lower ho8 (below_size (by repeat (first | (with_reducible first | exact HB.out | apply below_alloc | apply pw_below_drewN | apply below_drew1) | exact HB.out)))); have n1_ := Aside0.mk (below_step (by repeat (first | (with_reducible first | exact HB.out | apply below_alloc | apply pw_below_drewN | apply below_drew1) | exact HB.out)) hb); clear HB; have HO328 := n0_; have HB := n1_; clear n0_ n1_; clear hb ho8; obtain ⟨Ao9, co9, eo9⟩ := Kd.R_slice HO328.out; subst eo9) | ((with_reducible refine gate_callee (f := 33) rfl ?_); refine goesL_ (some 11) rfl rfl Try.func33 (by kernel_rfl) rfl #[.slice Ao9 y326.length co9] rfl (by (try simp only [List.map_toArray, List.map_cons, List.map_nil]); first | done | rfl | (simp only [List.length_drop, List.length_take]; rfl) | (simp only [*]; rfl) | (simp [*]; done) | (simp [*]; (repeat' apply And.intro) <;> rfl)) ?_; (with_reducible refine (safeint_Sum.calls _ _ y326 t329 t330 _ ?side1 ?side2 A2.out).mono ?_); (case side1 => repeat (first | exact (Kd.R_reads' HO328.out).2.2 | (with_reducible refine Kd.C_alloc ?_ _) | (with_reducible refine Kd.C_drewN ?_ _) | (with_reducible refine Kd.C_drew ?_))); (case side2 => exact (Kd.R_reads' HO328.out).2.1); rintro e w10 ⟨rfl, hb⟩; refine ⟨_, rfl, ?_⟩; have n0_ := Aside0.mk (Kd.R_below (by (with_reducible repeat (first | apply Kd.R_alloc | apply Kd.R_drewN | apply Kd.R_drew)); exact HO328.out) hb); have n1_ := Aside0.mk (below_step (by repeat (first | (with_reducible first | exact HB.out | apply below_alloc | apply pw_below_drewN | apply below_drew1) | exact HB.out)) hb); clear HO328; clear HB; have HO328 := n0_; have HB := n1_; clear n0_ n1_; (try clear hb); (try clear hb2); (try clear hk); (try clear hi)))
        go_ret
        exact ⟨by first | rfl | (simp [errW_none, errW_some] <;> rfl) | (simp [*, errW_none, errW_some] <;> rfl), by repeat (first | (with_reducible first | exact HB.out | apply below_alloc | apply pw_below_drewN | apply below_drew1) | exact HB.out)⟩
      · rw [if_neg c5] at H
        have c5b0 : (t329 == 4611686018427387904) = false := beq_eq_false_iff_ne.mpr c5
        have c5b1 : (t329 != 4611686018427387904) = true := bne_iff_ne.mpr c5
        obtain rfl := Option.some.inj H
        go_enter Try.func21, Try.ntmps21
        go_wp2_with (first | ((with_reducible refine gate_callee (f := 20) rfl ?_); refine goesL_ (some 6) rfl rfl Try.func20 (by kernel_rfl) rfl #[.int .i64 2147483648, .int .i64 2147483648] rfl (by (try simp only [List.map_toArray, List.map_cons, List.map_nil]); first | done | rfl | (simp only [List.length_drop, List.length_take]; rfl) | (simp only [*]; rfl) | (simp [*]; done) | (simp [*]; (repeat' apply And.intro) <;> rfl)) ?_; (with_reducible refine (safeint_Mul.calls 2147483648 2147483648 t324 t325 _ A1.out).mono ?_); rintro e w11 ⟨rfl, hb⟩; refine ⟨_, rfl, ?_⟩; have n0_ := Aside0.mk (below_step (by repeat (first | (with_reducible first | exact HB.out | apply below_alloc | apply pw_below_drewN | apply below_drew1) | exact HB.out)) hb); clear HB; have HB := n0_; clear n0_; (try clear hb); (try clear hb2); (try clear hk); (try clear hi)) | ((with_reducible refine gate_dst (N := 10) rfl ?_); refine Kd.R_lit (Kd.int .i64) _ 2 ?hg (N := 10) ?hd (xs := ([4611686018427387904, 4611686018427387904, (-4611686018427387904)] : List Int)) (inner := [.int .i64 4611686018427387904, .int .i64 4611686018427387904, .int .i64 (-4611686018427387904)]) (ok := fun _ => True) (okp := fun _ => True) ?hr ?hp (fun _ hk => hk) trivial (Below.refl _ _) (Nat.le_refl _) (by simp) ?_; (case hd => rfl); (case hg => rfl); (case hr => first | (go_simp; done) | (go_simp; rfl)); (case hp => exact (Reps.one (show Kd.M (Kd.int .i64) _ _ _ 4611686018427387904 [.int .i64 4611686018427387904] from rfl) (Reps.one (show Kd.M (Kd.int .i64) _ _ _ 4611686018427387904 [.int .i64 4611686018427387904] from rfl) (Reps.one (show Kd.M (Kd.int .i64) _ _ _ (-4611686018427387904) [.int .i64 (-4611686018427387904)] from rfl) (Reps.none _ _))))); intro v327 w12 ho13 hb hg_ hnew_; clear hg_ hnew_; (first | rw [← Ny326.out] at ho13 | (simp only [Int.reduceToNat] at ho13; rw [← Ny326.out] at ho13)); have n0_ := Aside0.mk (Kd.R_lower ho13 (below_size (by repeat (first | (with_reducible first | exact HB.out | apply below_alloc | apply pw_below_drewN | apply below_drew1) | exact HB.out)))); have n1_ := Aside0.mk (below_step (by repeat (first | (with_reducible first | exact HB.out | apply below_alloc | apply pw_below_drewN | apply below_drew1) | exact HB.out)) hb); clear HB; have HO328 := n0_; have HB := n1_; clear n0_ n1_; clear hb ho13; obtain ⟨Ao14, co14, eo14⟩ := Kd.R_slice HO328.out; subst eo14) | ((with_reducible refine gate_callee (f := 33) rfl ?_); refine goesL_ (some 11) rfl rfl Try.func33 (by kernel_rfl) rfl #[.slice Ao14 y326.length co14] rfl (by (try simp only [List.map_toArray, List.map_cons, List.map_nil]); first | done | rfl | (simp only [List.length_drop, List.length_take]; rfl) | (simp only [*]; rfl) | (simp [*]; done) | (simp [*]; (repeat' apply And.intro) <;> rfl)) ?_; (with_reducible refine (safeint_Sum.calls _ _ y326 t329 t330 _ ?side1 ?side2 A2.out).mono ?_); (case side1 => repeat (first | exact (Kd.R_reads' HO328.out).2.2 | (with_reducible refine Kd.C_alloc ?_ _) | (with_reducible refine Kd.C_drewN ?_ _) | (with_reducible refine Kd.C_drew ?_))); (case side2 => exact (Kd.R_reads' HO328.out).2.1); rintro e w15 ⟨rfl, hb⟩; refine ⟨_, rfl, ?_⟩; have n0_ := Aside0.mk (Kd.R_below (by (with_reducible repeat (first | apply Kd.R_alloc | apply Kd.R_drewN | apply Kd.R_drew)); exact HO328.out) hb); have n1_ := Aside0.mk (below_step (by repeat (first | (with_reducible first | exact HB.out | apply below_alloc | apply pw_below_drewN | apply below_drew1) | exact HB.out)) hb); clear HO328; clear HB; have HO328 := n0_; have HB := n1_; clear n0_ n1_; (try clear hb); (try clear hb2); (try clear hk); (try clear hi)))
        go_ret
        exact ⟨by first | rfl | (simp [errW_none, errW_some] <;> rfl) | (simp [*, errW_none, errW_some] <;> rfl), by repeat (first | (with_reducible first | exact HB.out | apply below_alloc | apply pw_below_drewN | apply below_drew1) | exact HB.out)⟩
    · rw [if_neg c4] at H
      have c4b0 : (t325 == 0) = false := beq_eq_false_iff_ne.mpr c4
      have c4b1 : (t325 != 0) = true := bne_iff_ne.mpr c4
      obtain rfl := Option.some.inj H
      go_enter Try.func21, Try.ntmps21
      go_wp2_with (first | ((with_reducible refine gate_callee (f := 20) rfl ?_); refine goesL_ (some 6) rfl rfl Try.func20 (by kernel_rfl) rfl #[.int .i64 2147483648, .int .i64 2147483648] rfl (by (try simp only [List.map_toArray, List.map_cons, List.map_nil]); first | done | rfl | (simp only [List.length_drop, List.length_take]; rfl) | (simp only [*]; rfl) | (simp [*]; done) | (simp [*]; (repeat' apply And.intro) <;> rfl)) ?_; (with_reducible refine (safeint_Mul.calls 2147483648 2147483648 t324 t325 _ A1.out).mono ?_); rintro e w16 ⟨rfl, hb⟩; refine ⟨_, rfl, ?_⟩; have n0_ := Aside0.mk (below_step (by repeat (first | (with_reducible first | exact HB.out | apply below_alloc | apply pw_below_drewN | apply below_drew1) | exact HB.out)) hb); clear HB; have HB := n0_; clear n0_; (try clear hb); (try clear hb2); (try clear hk); (try clear hi)) | ((with_reducible refine gate_dst (N := 10) rfl ?_); refine Kd.R_lit (Kd.int .i64) _ 2 ?hg (N := 10) ?hd (xs := ([4611686018427387904, 4611686018427387904, (-4611686018427387904)] : List Int)) (inner := [.int .i64 4611686018427387904, .int .i64 4611686018427387904, .int .i64 (-4611686018427387904)]) (ok := fun _ => True) (okp := fun _ => True) ?hr ?hp (fun _ hk => hk) trivial (Below.refl _ _) (Nat.le_refl _) (by simp) ?_; (case hd => rfl); (case hg => rfl); (case hr => first | (go_simp; done) | (go_simp; rfl)); (case hp => exact (Reps.one (show Kd.M (Kd.int .i64) _ _ _ 4611686018427387904 [.int .i64 4611686018427387904] from rfl) (Reps.one (show Kd.M (Kd.int .i64) _ _ _ 4611686018427387904 [.int .i64 4611686018427387904] from rfl) (Reps.one (show Kd.M (Kd.int .i64) _ _ _ (-4611686018427387904) [.int .i64 (-4611686018427387904)] from rfl) (Reps.none _ _))))); intro v327 w17 ho18 hb hg_ hnew_; clear hg_ hnew_; (first | rw [← Ny326.out] at ho18 | (simp only [Int.reduceToNat] at ho18; rw [← Ny326.out] at ho18)); have n0_ := Aside0.mk (Kd.R_lower ho18 (below_size (by repeat (first | (with_reducible first | exact HB.out | apply below_alloc | apply pw_below_drewN | apply below_drew1) | exact HB.out)))); have n1_ := Aside0.mk (below_step (by repeat (first | (with_reducible first | exact HB.out | apply below_alloc | apply pw_below_drewN | apply below_drew1) | exact HB.out)) hb); clear HB; have HO328 := n0_; have HB := n1_; clear n0_ n1_; clear hb ho18; obtain ⟨Ao19, co19, eo19⟩ := Kd.R_slice HO328.out; subst eo19) | ((with_reducible refine gate_callee (f := 33) rfl ?_); refine goesL_ (some 11) rfl rfl Try.func33 (by kernel_rfl) rfl #[.slice Ao19 y326.length co19] rfl (by (try simp only [List.map_toArray, List.map_cons, List.map_nil]); first | done | rfl | (simp only [List.length_drop, List.length_take]; rfl) | (simp only [*]; rfl) | (simp [*]; done) | (simp [*]; (repeat' apply And.intro) <;> rfl)) ?_; (with_reducible refine (safeint_Sum.calls _ _ y326 t329 t330 _ ?side1 ?side2 A2.out).mono ?_); (case side1 => repeat (first | exact (Kd.R_reads' HO328.out).2.2 | (with_reducible refine Kd.C_alloc ?_ _) | (with_reducible refine Kd.C_drewN ?_ _) | (with_reducible refine Kd.C_drew ?_))); (case side2 => exact (Kd.R_reads' HO328.out).2.1); rintro e w20 ⟨rfl, hb⟩; refine ⟨_, rfl, ?_⟩; have n0_ := Aside0.mk (Kd.R_below (by (with_reducible repeat (first | apply Kd.R_alloc | apply Kd.R_drewN | apply Kd.R_drew)); exact HO328.out) hb); have n1_ := Aside0.mk (below_step (by repeat (first | (with_reducible first | exact HB.out | apply below_alloc | apply pw_below_drewN | apply below_drew1) | exact HB.out)) hb); clear HO328; clear HB; have HO328 := n0_; have HB := n1_; clear n0_ n1_; (try clear hb); (try clear hb2); (try clear hk); (try clear hi)))
      go_ret
      exact ⟨by first | rfl | (simp [errW_none, errW_some] <;> rfl) | (simp [*, errW_none, errW_some] <;> rfl), by repeat (first | (with_reducible first | exact HB.out | apply below_alloc | apply pw_below_drewN | apply below_drew1) | exact HB.out)⟩
  · rw [if_neg c3] at H
    have c3b0 : (t324 == 4611686018427387904) = false := beq_eq_false_iff_ne.mpr c3
    have c3b1 : (t324 != 4611686018427387904) = true := bne_iff_ne.mpr c3
    obtain rfl := Option.some.inj H
    go_enter Try.func21, Try.ntmps21
    go_wp2_with (first | ((with_reducible refine gate_callee (f := 20) rfl ?_); refine goesL_ (some 6) rfl rfl Try.func20 (by kernel_rfl) rfl #[.int .i64 2147483648, .int .i64 2147483648] rfl (by (try simp only [List.map_toArray, List.map_cons, List.map_nil]); first | done | rfl | (simp only [List.length_drop, List.length_take]; rfl) | (simp only [*]; rfl) | (simp [*]; done) | (simp [*]; (repeat' apply And.intro) <;> rfl)) ?_; (with_reducible refine (safeint_Mul.calls 2147483648 2147483648 t324 t325 _ A1.out).mono ?_); rintro e w21 ⟨rfl, hb⟩; refine ⟨_, rfl, ?_⟩; have n0_ := Aside0.mk (below_step (by repeat (first | (with_reducible first | exact HB.out | apply below_alloc | apply pw_below_drewN | apply below_drew1) | exact HB.out)) hb); clear HB; have HB := n0_; clear n0_; (try clear hb); (try clear hb2); (try clear hk); (try clear hi)) | ((with_reducible refine gate_dst (N := 10) rfl ?_); refine Kd.R_lit (Kd.int .i64) _ 2 ?hg (N := 10) ?hd (xs := ([4611686018427387904, 4611686018427387904, (-4611686018427387904)] : List Int)) (inner := [.int .i64 4611686018427387904, .int .i64 4611686018427387904, .int .i64 (-4611686018427387904)]) (ok := fun _ => True) (okp := fun _ => True) ?hr ?hp (fun _ hk => hk) trivial (Below.refl _ _) (Nat.le_refl _) (by simp) ?_; (case hd => rfl); (case hg => rfl); (case hr => first | (go_simp; done) | (go_simp; rfl)); (case hp => exact (Reps.one (show Kd.M (Kd.int .i64) _ _ _ 4611686018427387904 [.int .i64 4611686018427387904] from rfl) (Reps.one (show Kd.M (Kd.int .i64) _ _ _ 4611686018427387904 [.int .i64 4611686018427387904] from rfl) (Reps.one (show Kd.M (Kd.int .i64) _ _ _ (-4611686018427387904) [.int .i64 (-4611686018427387904)] from rfl) (Reps.none _ _))))); intro v327 w22 ho23 hb hg_ hnew_; clear hg_ hnew_; (first | rw [← Ny326.out] at ho23 | (simp only [Int.reduceToNat] at ho23; rw [← Ny326.out] at ho23)); have n0_ := Aside0.mk (Kd.R_lower ho23 (below_size (by repeat (first | (with_reducible first | exact HB.out | apply below_alloc | apply pw_below_drewN | apply below_drew1) | exact HB.out)))); have n1_ := Aside0.mk (below_step (by repeat (first | (with_reducible first | exact HB.out | apply below_alloc | apply pw_below_drewN | apply below_drew1) | exact HB.out)) hb); clear HB; have HO328 := n0_; have HB := n1_; clear n0_ n1_; clear hb ho23; obtain ⟨Ao24, co24, eo24⟩ := Kd.R_slice HO328.out; subst eo24) | ((with_reducible refine gate_callee (f := 33) rfl ?_); refine goesL_ (some 11) rfl rfl Try.func33 (by kernel_rfl) rfl #[.slice Ao24 y326.length co24] rfl (by (try simp only [List.map_toArray, List.map_cons, List.map_nil]); first | done | rfl | (simp only [List.length_drop, List.length_take]; rfl) | (simp only [*]; rfl) | (simp [*]; done) | (simp [*]; (repeat' apply And.intro) <;> rfl)) ?_; (with_reducible refine (safeint_Sum.calls _ _ y326 t329 t330 _ ?side1 ?side2 A2.out).mono ?_); (case side1 => repeat (first | exact (Kd.R_reads' HO328.out).2.2 | (with_reducible refine Kd.C_alloc ?_ _) | (with_reducible refine Kd.C_drewN ?_ _) | (with_reducible refine Kd.C_drew ?_))); (case side2 => exact (Kd.R_reads' HO328.out).2.1); rintro e w25 ⟨rfl, hb⟩; refine ⟨_, rfl, ?_⟩; have n0_ := Aside0.mk (Kd.R_below (by (with_reducible repeat (first | apply Kd.R_alloc | apply Kd.R_drewN | apply Kd.R_drew)); exact HO328.out) hb); have n1_ := Aside0.mk (below_step (by repeat (first | (with_reducible first | exact HB.out | apply below_alloc | apply pw_below_drewN | apply below_drew1) | exact HB.out)) hb); clear HO328; clear HB; have HO328 := n0_; have HB := n1_; clear n0_ n1_; (try clear hb); (try clear hb2); (try clear hk); (try clear hi)))
    go_ret
    exact ⟨by first | rfl | (simp [errW_none, errW_some] <;> rfl) | (simp [*, errW_none, errW_some] <;> rfl), by repeat (first | (with_reducible first | exact HB.out | apply below_alloc | apply pw_below_drewN | apply below_drew1) | exact HB.out)⟩

end Go.Proofs.Ytofcjoccnbegdaa.Q
