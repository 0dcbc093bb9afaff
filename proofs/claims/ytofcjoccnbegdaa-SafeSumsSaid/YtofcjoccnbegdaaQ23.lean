-- PRINTED by print.py (a twelfth state) out of the translation. Not trusted: Lean checks it.
import Derived.Test.YtofcjoccnbegdaaQ0
import Derived.Test.YtofcjoccnbegdaaQ14
import Derived.Test.YtofcjoccnbegdaaQ16
import Derived.Test.YtofcjoccnbegdaaQ20
namespace Go.Proofs.Ytofcjoccnbegdaa.Q
open Go.RowKit Go.Proofs.YtofcjoccnbegdaaW.PrintWords Go.Proofs.YtofcjoccnbegdaaW.PrintLast Go.Proofs.YtofcjoccnbegdaaW.PrintMore
attribute [local go_sem] max2_int min2_int max_two min_two max_three min_three max_four min_four   -- for this text's walks alone
set_option linter.unusedVariables false
set_option linter.unusedSimpArgs false

/-! ### GIVEN: safeint_Poly: function 35 -/
theorem polyCatch_panicking (p q : Addr) (x y c : Int) (older : List PanicEntry) (w : World) (hc : w.cell? p = some (.int .i64 x)) (hz : w.frozen? p = false)
    (hd : (w.setCell p (.int .i64 0)).cell? q = some (.int .i64 y)) (hy : (w.setCell p (.int .i64 0)).frozen? q = false) :
    CallsD Try.prog 48 #[.pointer (some p), .pointer (some q)] (.panicking ({ v := .iface 26 (.int .i64 c), recovered := false } :: older)) w fun e u' w' =>
      e = .returned (.tuple #[]) ∧ u' = .panicking ({ v := .iface 26 (.int .i64 c), recovered := true } :: older) ∧ w' = (w.setCell p (.int .i64 0)).setCell q (.int .i64 c) := by
  have hta : ∀ (v : Value) (W : World), (Instr.typeAssert (.iface 26 v) 20 26 true).run Try.prog W = .ok (.tuple #[v, .bool true]) W := fun v W => by rfl
  refine callsD_of_wpS Try.func48 rfl fun c₀ cs hu => ?_
  apply wpS_seq
  apply wpS_region
  simp [wpOpsS, go_sem, recoverD, hu, Try.ntmps48, Exit.thenS, hta]
  apply wpS_seq
  apply wpS_region
  simp [wpOpsS, go_sem, Exit.thenS, Array.replicate]
  refine wpS_cond (t := true) (by simp [Act.eval]) ?_
  simp only [if_true]
  apply wpS_region
  simp [wpOpsS, go_sem, hc, hz, hd, hy, bodyPostS, results, Try.results48]

theorem polyCatch_idle (p q : Addr) (w : World) :
    CallsD Try.prog 48 #[.pointer (some p), .pointer (some q)] .returning w fun e u' w' => e = .returned (.tuple #[]) ∧ u' = .returning ∧ w' = w := by
  have hta : ∀ (W : World), (Instr.typeAssert .nilIface 20 26 true).run Try.prog W = .ok (.tuple #[.int .i64 0, .bool false]) W := fun W => by kernel_rfl
  refine callsD_of_wpS Try.func48 rfl fun c₀ cs hu => ?_
  apply wpS_seq
  apply wpS_region
  simp [wpOpsS, go_sem, recoverD, hu, Try.ntmps48, Exit.thenS, hta]
  apply wpS_seq
  apply wpS_region
  simp [wpOpsS, go_sem, Exit.thenS, Array.replicate]
  refine wpS_cond (t := false) (by simp [Act.eval]) ?_
  simp only [Bool.false_eq_true, if_false]
  refine wpS_of_wp (wp_skip ?_)
  cases c₀
  simp_all [bodyPostS, results, Try.results48]

def polyFrom (x : Int) : Int → List Int → Option (Int × Int)
  | n, [] => some (n, 0)
  | n, c :: r => (safeint_Mul.f n x).bind fun b => if b.2 = 0 then (safeint_Add.f b.1 c).bind fun d => if d.2 = 0 then polyFrom x d.1 r else some (0, d.2) else some (0, b.2)
def safeint_Poly.f (l0 : List Int) (a1 : Int) : Option (Int × Int) := if l0.length ≤ 140737488351232 then polyFrom a1 0 l0 else none
structure PolyInv (w W : World) (n : Int) : Prop where
  b2 : W.heap[w.heap.size]? = some (.cells #[.int .i64 n] 2 (0, 0))
  b3 : W.heap[w.heap.size + 1]? = some (.cells #[.int .i64 0] 26 (0, 0))
  hb : Below w.heap.size w W
theorem PolyInv.below {w W W1 : World} {n : Int} (h : PolyInv w W n) (hb : Below W.heap.size W W1) : PolyInv w W1 n := ⟨blk_below h.b2 hb, blk_below h.b3 hb, below_step h.hb hb⟩
theorem PolyInv.drewN {w W : World} {n : Int} (h : PolyInv w W n) (m : Nat) : PolyInv w (W.drewN m) n := ⟨h.b2, h.b3, pw_below_drewN h.hb m⟩
theorem PolyInv.put {w W : World} {n m : Int} (h : PolyInv w W n) : PolyInv w (W.setCell ⟨w.heap.size, 0, none⟩ (.int .i64 m)) m :=
  ⟨blk_put h.b2 0 _ rfl, blk_far h.b3 (by simp) _, below_set h.hb (by omega)⟩

set_option maxHeartbeats 2000000 in
set_option maxRecDepth 100000 in
theorem safeint_Poly.calls (A0 : Option Addr) (c0 : Nat) (l0 : List Int) (a1 : Int) (r1 : Int) (r2 : Int) (w : World) (hr0 : Kd.C (Kd.int .i64) w A0 l0.length l0) (hc0 : l0.length ≤ c0) (h : safeint_Poly.f l0 a1 = some (r1, r2)) :
    Calls Try.prog 35 #[.slice A0 l0.length c0, .int .i64 a1] w fun e w' => e = .returned (.tuple #[.int .i64 r1, .int .i64 r2]) ∧ Below w.heap.size w w' := by
  have hmf : ∀ (fn : Fn) (first cap : Array Value) (w : World), (Instr.makeFunc fn first cap).run Try.prog w = .ok (.func fn first cap) w := fun _ _ _ _ => rfl
  have hl : l0.length ≤ 9223372036854775807 := by have := hr0.2.1; omega
  have H : Aside0 (polyFrom a1 0 (l0.drop 0) = some (r1, r2)) := ⟨by
    unfold safeint_Poly.f at h
    split at h
    · simpa using h
    · cases h⟩
  have HR := Aside0.mk hr0
  have HC := Aside0.mk hc0
  clear hr0 hc0 h
  go_enter_defers Try.func35, Try.ntmps35
  go_wp2
  go_loopg [11] l0.length (fun kq v11 w' => ∃ (i : Nat) (n : Int), v11 = .int .i64 i ∧ Aside0 (i + kq = l0.length) ∧ Aside0 (polyFrom a1 n (l0.drop i) = some (r1, r2)) ∧ PolyInv w w' n)
  case atStart =>
    refine ⟨0, 0, by simp, ⟨by omega⟩, H, ⟨?_, ?_, ?_⟩⟩
    · exact blk_alloc (heap_alloc_new w _) _
    · have := heap_alloc_new (w.alloc (.cells #[.int .i64 0] 2)) (.cells #[.int .i64 0] 26)
      simpa using this
    · exact below_alloc (below_alloc (Below.refl _ _) _) _
  case round =>
    clear H
    obtain ⟨i, n, rfl, HK, H, I0⟩ := hrel
    by_cases hlt : i < l0.length
    · obtain ⟨ad, e, hx⟩ := Kd.at_int (Kd.C_below HR.out I0.hb) (i : Int) (by omega) (by omega)
      cases e
      simp only [Int.toNat_natCast] at hx
      have h := H.out
      rw [List.drop_eq_getElem_cons hlt] at h
      have hg : l0[i] = rd l0 i := by simp [rd, List.getD_eq_getElem?_getD, List.getElem?_eq_getElem hlt]
      rw [hg] at h
      simp only [polyFrom] at h
      obtain ⟨⟨m, e1⟩, hm, h⟩ := Option.bind_eq_some_iff.mp h
      have M1 := Aside0.mk hm
      clear hm H hg
      simp only at h
      have hz0 := (blk_cell I0.b2 0).trans rfl
      by_cases h1 : e1 = 0
      · subst h1
        rw [if_pos rfl] at h
        obtain ⟨⟨s, e2⟩, hs, h⟩ := Option.bind_eq_some_iff.mp h
        have S1 := Aside0.mk hs
        clear hs
        simp only at h
        by_cases h2 : e2 = 0
        · subst h2
          rw [if_pos rfl] at h
          have H := Aside0.mk h
          clear h
          go_wp2_with (first
            | (go_at_call 20; refine (safeint_Mul.calls _ _ _ _ _ M1.out).mono ?_; rintro e w5 ⟨rfl, hb5⟩; have I5 := I0.below hb5; clear hb5; have hv0 := (blk_cell I5.b2 0).trans rfl; have hg0 := blk_frozen I5.b2 0)
            | (go_at_call 30; refine (safeint_Add.calls _ _ _ _ _ S1.out).mono ?_; rintro e w6 ⟨rfl, ⟨nd, rfl⟩⟩)
            | (go_at_call 47; refine (must47_ok _ _).mono ?_; rintro e w7 ⟨rfl, rfl⟩))
          go_roundg (l0.length - (i + 1))
          case measure => have := HK.out; omega
          case rel => exact ⟨i + 1, s, by go_num, ⟨by omega⟩, H, (I5.drewN _).put⟩
        · rw [if_neg h2] at h
          injection h with h; injection h with h3 h4
          subst h3; subst h4
          have hne : (e2 != 0) = true := bne_iff_ne.mpr h2
          have M2 := Aside0.mk (must47_panics s e2 hne)
          clear h2 hne
          go_wp2_with (first
            | (go_at_call 20; refine (safeint_Mul.calls _ _ _ _ _ M1.out).mono ?_; rintro e w5 ⟨rfl, hb5⟩; have I5 := I0.below hb5; clear hb5)
            | (go_at_call 30; refine (safeint_Add.calls _ _ _ _ _ S1.out).mono ?_; rintro e w6 ⟨rfl, ⟨nd, rfl⟩⟩; have I6 := I5.drewN nd)
            | (go_at_call_of 47 (Value.int IntKind.i64 s); refine (M2.out _).mono ?_; rintro e w7 ⟨rfl, rfl⟩)
            | (go_at_call_of 47 (Value.int IntKind.i64 m); refine (must47_ok _ _).mono ?_; rintro e w7 ⟨rfl, rfl⟩))
          refine leaves_cons (f := 48) (args := #[.pointer (some ⟨w.heap.size, 0, none⟩), .pointer (some ⟨w.heap.size + 1, 0, none⟩)]) (by simp) (by simp [go_sem]) ?_
          refine (polyCatch_panicking _ _ n 0 e2 [] _ ?_ ?_ ?_ ?_).mono ?_
          · exact (blk_cell I6.b2 0).trans rfl
          · exact blk_frozen I6.b2 0
          · exact (blk_cell (blk_far I6.b3 (by simp) _) 0).trans rfl
          · exact blk_frozen (blk_far I6.b3 (by simp) _) 0
          rintro e u' w'' ⟨rfl, rfl, rfl⟩
          have d0 := (blk_cell (blk_put I6.b2 0 (.int .i64 0) rfl) 0)
          have c1 := (blk_cell (blk_put (blk_far I6.b3 (p := ⟨w.heap.size, 0, none⟩) (by simp) (.int .i64 0)) 0 (.int .i64 e2) rfl) 0)
          have bl := below_set (g := w.heap.size + 1) (j := 0) (v := .int .i64 e2) (below_set (g := w.heap.size) (j := 0) (v := .int .i64 0) I6.hb (by omega)) (by omega)
          simp [Leaves, settle, results, Try.results35, go_sem, d0, c1, bl]
      · rw [if_neg h1] at h
        injection h with h; injection h with h3 h4
        subst h3; subst h4
        have hne : (e1 != 0) = true := bne_iff_ne.mpr h1
        have M2 := Aside0.mk (must47_panics m e1 hne)
        clear h1 hne
        go_wp2_with (first
            | (go_at_call 20; refine (safeint_Mul.calls _ _ _ _ _ M1.out).mono ?_; rintro e w5 ⟨rfl, hb5⟩; have I5 := I0.below hb5; clear hb5)
            | (go_at_call 47; refine (M2.out _).mono ?_; rintro e w7 ⟨rfl, rfl⟩))
        refine leaves_cons (f := 48) (args := #[.pointer (some ⟨w.heap.size, 0, none⟩), .pointer (some ⟨w.heap.size + 1, 0, none⟩)]) (by simp) (by simp [go_sem]) ?_
        refine (polyCatch_panicking _ _ n 0 e1 [] _ ?_ ?_ ?_ ?_).mono ?_
        · exact (blk_cell I5.b2 0).trans rfl
        · exact blk_frozen I5.b2 0
        · exact (blk_cell (blk_far I5.b3 (by simp) _) 0).trans rfl
        · exact blk_frozen (blk_far I5.b3 (by simp) _) 0
        rintro e u' w'' ⟨rfl, rfl, rfl⟩
        have d0 := (blk_cell (blk_put I5.b2 0 (.int .i64 0) rfl) 0)
        have c1 := (blk_cell (blk_put (blk_far I5.b3 (p := ⟨w.heap.size, 0, none⟩) (by simp) (.int .i64 0)) 0 (.int .i64 e1) rfl) 0)
        have bl := below_set (g := w.heap.size + 1) (j := 0) (v := .int .i64 e1) (below_set (g := w.heap.size) (j := 0) (v := .int .i64 0) I5.hb (by omega)) (by omega)
        simp [Leaves, settle, results, Try.results35, go_sem, d0, c1, bl]
    · obtain rfl : i = l0.length := by have := HK.out; omega
      have h := H.out
      rw [List.drop_length] at h
      simp only [polyFrom] at h
      injection h with h; injection h with h3 h4
      subst h3; subst h4
      have hv0 := (blk_cell I0.b2 0).trans rfl
      have hg0 := blk_frozen I0.b2 0
      have hv1 := (blk_cell I0.b3 0).trans rfl
      have hg1 := blk_frozen I0.b3 0
      clear hlt
      go_wp2
      refine leaves_cons (f := 48) (args := #[.pointer (some ⟨w.heap.size, 0, none⟩), .pointer (some ⟨w.heap.size + 1, 0, none⟩)]) (by simp) (by simp [go_sem]) ?_
      refine (polyCatch_idle _ _ _).mono ?_
      rintro e u' w'' ⟨rfl, rfl, rfl⟩
      have d0 := (blk_cell (blk_put I0.b2 0 (.int .i64 n) rfl) 0)
      have c1 := (blk_cell (blk_put (blk_far I0.b3 (p := ⟨w.heap.size, 0, none⟩) (by simp) (.int .i64 n)) 0 (.int .i64 0) rfl) 0)
      have bl := below_set (g := w.heap.size + 1) (j := 0) (v := .int .i64 0) (below_set (g := w.heap.size) (j := 0) (v := .int .i64 n) I0.hb (by omega)) (by omega)
      simp [Leaves, settle, results, Try.results35, go_sem, d0, c1, bl]

end Go.Proofs.Ytofcjoccnbegdaa.Q
