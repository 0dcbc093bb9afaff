-- The row of the law compasslaw03_GraphPlays, typed by a program of mine (wip/tools/grow.py) after a printed one.
import Derived.Test.YtpmclhkednehhaaRows
import Derived.Test.YtpmclhkednehhaaQ46
import Derived.Test.YtpmclhkednehhaaPureGraphPlays
import Derived.Test.YtpmclhkednehhaaPurU
import Derived.Test.YtpmclhkednehhaaOps
import Derived.WalkKit
import Derived.ProofKit
import Derived.OpenShut
import Derived.ShutString
import Derived.ChangeOld
import Derived.Below
import Derived.SizedLaws
import Derived.Lib.SmallJoins
namespace Go.Proofs.Ytpmclhkednehhaa.graphPlays
open Go.ChangeShapes Go.WideShapes Go.ChangeAt Go.RowKit Go.Proofs.YtpmclhkednehhaaW.PrintWords
open Go.ChangeMaps (open_string shut_string)
set_option linter.unusedVariables false
theorem laidOut : laidOutB Try.prog = true := by kernel_rfl
theorem own : ownKnob Try.prog.godebug = none := by kernel_rfl
set_option maxHeartbeats 4000000 in
set_option maxRecDepth 100000 in
theorem lifted (os : Os) (started : os.Started) (H : Type) (enc : TypeId × Value → H) :
    ReturnsInHanded {} Try.checked os 7 .any (Rows.graphPlaysSpec.pre6 enc Try.prog Try.f7 Rows.graphPlaysRow.domain false) (Rows.graphPlaysSpec.post enc Try.prog Try.f7 false true false false) := by
  refine returnsInHanded_of_change_sized (C := Try.checked) own started (by kernel_rfl) Try.func7
    (ChangeSpec.witness6 (enc := enc) (C := Try.checked) false ⟨#[], #[.agg #[.int .i64 0, .slice none 0 0], .slice none 0 0], []⟩ 8 (by kernel_rfl) (by kernel_rfl) (by kernel_rfl) (by kernel_rfl)) ?_
  intro W base args ds gs before hval0 hW hcnd hsz0 _
  have hsz : (DataW.weightsEach Try.prog (Try.f7.params.toList ++ Rows.graphPlaysSpec.plain.varTypes Try.prog) (ds ++ gs)).all (· ≤ reachBytes) = true := hsz0
  have hval : ∀ (j : Nat) t v, Try.f7.params[j]? = some t → args[j]? = some v → Value.okWide Try.prog W .any base t v := hval0
  have hW' := hW
  obtain ⟨p, q, hA0, hV, rfl, hfz, hnd⟩ := hW
  have hA : DataW.TrodAll enc Try.prog W 0 (fun _ => true) true Try.f7.params.toList args.toList ds p := hA0
  rw [Try.params7] at hA hval hsz
  obtain ⟨v0, vs0, d0, ds0, p0, q0, hargs, rfl, rfl, h0, r0⟩ := trodAll_cons hA
  obtain ⟨v1, vs1, d1, ds1, p1, q1, rfl, rfl, rfl, h1, r1⟩ := trodAll_cons r0
  obtain ⟨rfl, rfl, rfl⟩ := trodAll_nil r1
  obtain rfl : args = #[v0, v1] := by cases args; simp_all
  obtain ⟨rfl, rfl⟩ := trodVars_none hV
  have k0 := h0
  have lt0 : ∀ x ∈ p0, x.block < W.heap.size := by obtain ⟨m, hm⟩ := k0; exact DataW.trod_lt m _ _ _ hm
  obtain ⟨c0_0, c0_1, y0_0, y0_1, m0, rfl, hd0, -, hy0_0, hy0_1⟩ := Joins.open_agg2 Try.underlying24 (by kernel_rfl) (by kernel_rfl) (hval 0 24 v0 rfl rfl) h0
  obtain ⟨x0, e0, -, -⟩ := DataW.trod_int Try.underlying3 hy0_0
  simp only [List.cons.injEq, and_true] at e0
  subst e0
  obtain ⟨A0, l0, n0, rfl, hn0, C0, sz0⟩ := G.open_edges_sz Try.underlying22 Try.underlying39 (by kernel_rfl) ⟨rfl, rfl, rfl, rfl⟩ ⟨by kernel_rfl, by kernel_rfl, by kernel_rfl, by kernel_rfl⟩ Try.underlying3 Try.underlying3 Try.underlying2 Try.underlying2 hy0_1
  have k1 := h1
  have lt1 : ∀ x ∈ p1, x.block < W.heap.size := by obtain ⟨m, hm⟩ := k1; exact DataW.trod_lt m _ _ _ hm
  obtain ⟨aa1, len1, cap1, rfl⟩ := okWide_slice Try.underlying51 (hval 1 51 v1 rfl rfl)
  obtain ⟨fu1, hf1⟩ := h1
  obtain ⟨A1, l1, n1, ev1, hn1, C1⟩ := G.open_ops Try.underlying51 Try.underlying53 (by kernel_rfl) ⟨rfl, rfl, rfl⟩ ⟨by kernel_rfl, by kernel_rfl, by kernel_rfl⟩ Try.underlying3 Try.underlying3 Try.underlying39 ⟨rfl, rfl, rfl, rfl⟩ ⟨by kernel_rfl, by kernel_rfl, by kernel_rfl, by kernel_rfl⟩ Try.underlying3 Try.underlying3 Try.underlying2 Try.underlying2 (by simpa [Value.cells] using hf1)
  cases ev1
  have B0 : (l0.length : Int) ≤ 4398046510976 := by
    rcases sz0 with rfl | ⟨el, sp, ex, hel⟩
    · simp
    · have z := G.sized_field (j := 0) (i := 1) (t := 24) (ft := 22) hsz rfl (by rw [hd0]; rfl) Try.underlying24 rfl (by rw [ex]; rfl) Try.underlying22
      rw [show Try.prog.bytesOf 39 = 32 by kernel_rfl] at z
      unfold reachBytes at z
      omega
  clear hA0 hval0 hsz0
  obtain ⟨K, hK⟩ := Pure.GraphPlays x0 l0 l1 B0 (Kd.C_max C1)
  refine (Q.compasslaw03_GraphPlays.calls K x0 A0 n0 l0 aa1 cap1 l1 true W C0 hn0 C1 rfl hK).mono fun e W' ⟨he, bel⟩ => ?_
  subst he
  exact ⟨_, rfl, _, _, _, [], _, [], hW', trodAll_mk1 (shut_bool Try.underlying4 _), (trodAll_cons_mk (Below.trod laidOut (by kernel_rfl) (of_decide_eq_true (by kernel_rfl)) k0 bel lt0) (trodAll_cons_mk (Below.trod laidOut (by kernel_rfl) (of_decide_eq_true (by kernel_rfl)) k1 bel lt1) trodAll_mk0)), rfl, bel.frame _, fun h => by cases h⟩
theorem over : Rows.graphPlaysRow.holds Try.pinned (OpenSpec.ofChange Rows.graphPlaysSpec) :=
  OpenClaim.holds_of_wide 7 Try.f7 rfl rfl rfl rfl rfl rfl rfl ⟨rfl, rfl, rfl, rfl, rfl⟩ rfl rfl rfl rfl rfl (by kernel_rfl) Try.func7 (by kernel_rfl)
    (of_decide_eq_true (by kernel_rfl)) (by unfold Func.isWrapper; first | (rw [if_pos (by decide +kernel)]; kernel_rfl) | (rw [if_neg (by decide +kernel)]; exact ⟨rfl, rfl⟩))
    (fun os started H enc _ => lifted os started H enc)
theorem proved : Rows.GraphPlaysSaid := over
#print axioms proved
end Go.Proofs.Ytpmclhkednehhaa.graphPlays
namespace Go.Proofs.Ytpmclhkednehhaa
/-- The row, under a short name, for the claim. -/
theorem graphPlays_holds : Rows.GraphPlaysSaid := graphPlays.proved
end Go.Proofs.Ytpmclhkednehhaa
