-- The row of the law compasslaw03_GraphRight, typed by a program of mine (wip/tools/grow.py) after a printed one.
import Derived.Test.YtpmclhkednehhaaRows
import Derived.Test.YtpmclhkednehhaaQ45
import Derived.Test.YtpmclhkednehhaaPureGraphRight
import Derived.Test.YtpmclhkednehhaaO
import Derived.Test.YtpmclhkednehhaaOps
import Derived.Test.YtpmclhkednehhaaSz
import Derived.WalkKit
import Derived.ProofKit
import Derived.OpenShut
import Derived.ShutString
import Derived.ChangeOld
import Derived.Below
import Derived.SizedLaws
import Derived.Lib.SmallJoins
namespace Go.Proofs.Ytpmclhkednehhaa.graphRight
open Go.ChangeShapes Go.WideShapes Go.ChangeAt Go.RowKit Go.Proofs.YtpmclhkednehhaaW.PrintWords
open Go.ChangeMaps (open_string shut_string)
set_option linter.unusedVariables false
theorem laidOut : laidOutB Try.prog = true := by kernel_rfl
theorem own : ownKnob Try.prog.godebug = none := by kernel_rfl
set_option maxHeartbeats 4000000 in
set_option maxRecDepth 100000 in
theorem lifted (os : Os) (started : os.Started) (H : Type) (enc : TypeId × Value → H) :
    ReturnsInHanded {} Try.checked os 6 .any (Rows.graphRightSpec.pre6 enc Try.prog Try.f6 Rows.graphRightRow.domain false) (Rows.graphRightSpec.post enc Try.prog Try.f6 false true false false) := by
  refine returnsInHanded_of_change_sized (C := Try.checked) own started (by kernel_rfl) Try.func6
    (ChangeSpec.witness6 (enc := enc) (C := Try.checked) false ⟨#[], #[.agg #[.int .i64 0, .slice none 0 0], .slice none 0 0, .agg #[.int .i64 0, .int .i64 0, .int .i64 0, .int .i64 0]], []⟩ 8 (by kernel_rfl) (by kernel_rfl) (by kernel_rfl) (by kernel_rfl)) ?_
  intro W base args ds gs before hval0 hW hcnd hsz0 _
  have hsz : (DataW.weightsEach Try.prog (Try.f6.params.toList ++ Rows.graphRightSpec.plain.varTypes Try.prog) (ds ++ gs)).all (· ≤ reachBytes) = true := hsz0
  have hval : ∀ (j : Nat) t v, Try.f6.params[j]? = some t → args[j]? = some v → Value.okWide Try.prog W .any base t v := hval0
  have hW' := hW
  obtain ⟨p, q, hA0, hV, rfl, hfz, hnd⟩ := hW
  have hA : DataW.TrodAll enc Try.prog W 0 (fun _ => true) true Try.f6.params.toList args.toList ds p := hA0
  rw [Try.params6] at hA hval hsz
  obtain ⟨v0, vs0, d0, ds0, p0, q0, hargs, rfl, rfl, h0, r0⟩ := trodAll_cons hA
  obtain ⟨v1, vs1, d1, ds1, p1, q1, rfl, rfl, rfl, h1, r1⟩ := trodAll_cons r0
  obtain ⟨v2, vs2, d2, ds2, p2, q2, rfl, rfl, rfl, h2, r2⟩ := trodAll_cons r1
  obtain ⟨rfl, rfl, rfl⟩ := trodAll_nil r2
  obtain rfl : args = #[v0, v1, v2] := by cases args; simp_all
  obtain ⟨rfl, rfl⟩ := trodVars_none hV
  have k0 := h0
  have lt0 : ∀ x ∈ p0, x.block < W.heap.size := by obtain ⟨m, hm⟩ := k0; exact DataW.trod_lt m _ _ _ hm
  obtain ⟨c0_0, c0_1, y0_0, y0_1, m0, rfl, hd0, -, hy0_0, hy0_1⟩ := Joins.open_agg2 Try.underlying24 (by kernel_rfl) (by kernel_rfl) (hval 0 24 v0 rfl rfl) h0
  obtain ⟨x0, e0, -, -⟩ := DataW.trod_int Try.underlying3 hy0_0
  simp only [List.cons.injEq, and_true] at e0
  subst e0
  obtain ⟨A0, l0, n0, rfl, hn0, C0, sz0⟩ := G.open_edges_sz Try.underlying22 Try.underlying39 (by kernel_rfl) ⟨rfl, rfl, rfl, rfl⟩ ⟨by kernel_rfl, by kernel_rfl, by kernel_rfl, by kernel_rfl⟩ Try.underlying3 Try.underlying3 Try.underlying2 Try.underlying2 hy0_1
  have k1 := h1
  have lt1 : ∀ x ∈ p1, x.block < W.heap.size := by obtain ⟨m, hm⟩ := k1; exact DataW.trod_lt m _ _ _ hm
  obtain ⟨aa1, len1, cap1, rfl⟩ := okWide_slice Try.underlying51 (hval 1 51 v1 rfl rfl)
  obtain ⟨fu1, hf1⟩ := h1
  obtain ⟨A1, l1, n1, ev1, hn1, C1⟩ := G.open_ops Try.underlying51 Try.underlying53 (by kernel_rfl) ⟨rfl, rfl, rfl⟩ ⟨by kernel_rfl, by kernel_rfl, by kernel_rfl⟩ Try.underlying3 Try.underlying3 Try.underlying39 ⟨rfl, rfl, rfl, rfl⟩ ⟨by kernel_rfl, by kernel_rfl, by kernel_rfl, by kernel_rfl⟩ Try.underlying3 Try.underlying3 Try.underlying2 Try.underlying2 (by simpa [Value.cells] using hf1)
  cases ev1
  have k2 := h2
  have lt2 : ∀ x ∈ p2, x.block < W.heap.size := by obtain ⟨m, hm⟩ := k2; exact DataW.trod_lt m _ _ _ hm
  obtain ⟨c2_0, c2_1, c2_2, c2_3, y2_0, y2_1, y2_2, y2_3, m2, rfl, -, -, hy2_0, hy2_1, hy2_2, hy2_3⟩ := Joins.open_agg4 Try.underlying39 (by kernel_rfl) (by kernel_rfl) (hval 2 39 v2 rfl rfl) h2
  obtain ⟨x2_0, e2_0, -, -⟩ := DataW.trod_int Try.underlying3 hy2_0
  simp only [List.cons.injEq, and_true] at e2_0
  subst e2_0
  obtain ⟨x2_1, e2_1, -, -⟩ := DataW.trod_int Try.underlying3 hy2_1
  simp only [List.cons.injEq, and_true] at e2_1
  subst e2_1
  obtain ⟨x2_2, e2_2, -, -⟩ := DataW.trod_int Try.underlying2 hy2_2
  simp only [List.cons.injEq, and_true] at e2_2
  subst e2_2
  obtain ⟨x2_3, e2_3, -, -⟩ := DataW.trod_int Try.underlying2 hy2_3
  simp only [List.cons.injEq, and_true] at e2_3
  subst e2_3
  have B0 : (l0.length : Int) ≤ 4398046510976 := by
    rcases sz0 with rfl | ⟨el, sp, ex, hel⟩
    · simp
    · have z := G.sized_field (j := 0) (i := 1) (t := 24) (ft := 22) hsz rfl (by rw [hd0]; rfl) Try.underlying24 rfl (by rw [ex]; rfl) Try.underlying22
      rw [show Try.prog.bytesOf 39 = 32 by kernel_rfl] at z
      unfold reachBytes at z
      omega
  clear hA0 hval0 hsz0
  obtain ⟨K, hK⟩ := Pure.GraphRight x0 l0 l1 ⟨x2_0, x2_1, x2_2, x2_3⟩ B0 (Kd.C_max C1)
  refine (Q.compasslaw03_GraphRight.calls K x0 A0 n0 l0 aa1 cap1 l1 ⟨x2_0, x2_1, x2_2, x2_3⟩ true W C0 hn0 C1 rfl hK).mono fun e W' ⟨he, bel⟩ => ?_
  subst he
  exact ⟨_, rfl, _, _, _, [], _, [], hW', trodAll_mk1 (shut_bool Try.underlying4 _), (trodAll_cons_mk (Below.trod laidOut (by kernel_rfl) (of_decide_eq_true (by kernel_rfl)) k0 bel lt0) (trodAll_cons_mk (Below.trod laidOut (by kernel_rfl) (of_decide_eq_true (by kernel_rfl)) k1 bel lt1) (trodAll_cons_mk (Below.trod laidOut (by kernel_rfl) (of_decide_eq_true (by kernel_rfl)) k2 bel lt2) trodAll_mk0))), rfl, bel.frame _, fun h => by cases h⟩
theorem over : Rows.graphRightRow.holds Try.pinned (OpenSpec.ofChange Rows.graphRightSpec) :=
  OpenClaim.holds_of_wide 6 Try.f6 rfl rfl rfl rfl rfl rfl rfl ⟨rfl, rfl, rfl, rfl, rfl⟩ rfl rfl rfl rfl rfl (by kernel_rfl) Try.func6 (by kernel_rfl)
    (of_decide_eq_true (by kernel_rfl)) (by unfold Func.isWrapper; first | (rw [if_pos (by decide +kernel)]; kernel_rfl) | (rw [if_neg (by decide +kernel)]; exact ⟨rfl, rfl⟩))
    (fun os started H enc _ => lifted os started H enc)
theorem proved : Rows.GraphRightSaid := over
#print axioms proved
end Go.Proofs.Ytpmclhkednehhaa.graphRight
namespace Go.Proofs.Ytpmclhkednehhaa
/-- The row, under a short name, for the claim. -/
theorem graphRight_holds : Rows.GraphRightSaid := graphRight.proved
end Go.Proofs.Ytpmclhkednehhaa
