/- A net told plainly: a graph in new memory; typed by hand. -/
import Derived.Test.YtpmclhkednehhaaNetD
set_option linter.unusedVariables false
set_option linter.unusedSimpArgs false
namespace Go.Proofs.Ytpmclhkednehhaa.Q
open Go.RowKit Go.Proofs.YtpmclhkednehhaaW.PrintWords Go.Proofs.YtpmclhkednehhaaW.PrintLast Go.Proofs.YtpmclhkednehhaaW.PrintMore
set_option maxHeartbeats 8000000 in
set_option maxRecDepth 100000 in
theorem shape_Plain.calls (k p : Nat) (n : Int) (A : Option Addr) (cap : Nat) (E : List S39) (W : World) (hp : W.heap[p]? = some (.cells #[.int .i64 n, .slice A E.length cap] 44 (0, 0))) (hr : Kd.C k39 W A E.length E) (hc : E.length ≤ cap) (hl : E.length < 4398046511104) :
    Calls Try.prog 16 #[.pointer (some ⟨p, 0, none⟩)] W fun e w' => ∃ v : Value, e = .returned (.agg #[.int .i64 n, v]) ∧ Kd.R k39 39 w' W.heap.size (fun _ => True) v E ∧ Below W.heap.size W w' := by
  have hu24 := Try.underlying24
  have hu42 := Try.underlying42
  have CL := ak (show slices_Clone.f k E = some E by unfold slices_Clone.f; rw [if_pos hl])
  have HP := ak hp
  have HR := ak hr
  have HC := ak hc
  clear hp hr hc hl
  have HB := ak (Below.refl W.heap.size W)
  go_enter Try.func16, Try.ntmps16
  go_wp2_with (first
    | ((with_reducible refine gate_dst (N := 2) rfl ?_); refine box_event ?hg (N := 2) ?hd (cs := #[.int .i64 0, .slice none 0 0]) (t := 24) ?hr ?_; (case hd => rfl); (case hg => rfl); (case hr => first | (go_simp; done) | (go_simp; rfl)); intro gr hg w1 br hb; have HB1 := ak (below_step HB.out hb); have BR := ak br; have GR := ak (show W.heap.size ≤ gr by rw [hg]; exact Nat.le_refl _); have BP := ak (blk_below HP.out hb); have NP := ak (show p ≠ gr by rw [hg]; exact Nat.ne_of_lt (blk_lt HP.out)); clear hb br hg))
  go_region_held3 (fun w' => w'.cell? ⟨p, 0, none⟩ = some (.int .i64 n) ∧ w'.cell? ⟨p, 1, none⟩ = some (.slice A E.length cap)) (first | exact ⟨bc0 (ak (bx BP.out)), bc1 (ak (bx BP.out))⟩ | exact ⟨bc0 (ak (blk_far (blk_far (bx BP.out) NP.out _) NP.out _)), bc1 (ak (blk_far (blk_far (bx BP.out) NP.out _) NP.out _))⟩)
    (first | (go_at_call 32; (with_reducible refine (slices_Clone.calls k _ _ E E _ (by first | exact Kd.C_below HR.out HB1.out | exact Kd.C_below HR.out (below_drew HB1.out)) HC.out CL.out).mono ?_); rintro e w2 ⟨v, rfl, hv, hb⟩; obtain ⟨Av, cv, ev⟩ := Kd.R_slice hv; subst ev; replace BP := ak (blk_below (bx BP.out) hb); replace BR := ak (blk_below (bx BR.out) hb); have HB2 := ak (below_step (below_drew HB1.out) hb); have q0 := bc0 BR; have q1 := bc1 BR; have f0 := bf BR 0; have f1 := bf BR 1))
  have b1 := blk_put (blk_put BR.out 0 (.int .i64 n) rfl) 1 (.slice Av E.length cv) rfl
  have k20 := (blk_cell b1 0).trans rfl
  have k21 := (blk_cell b1 1).trans rfl
  have RV := ak (Kd.R_set (Kd.R_set (Kd.R_lower hv (below_size (below_drew HB1.out))) BR.out (by decide) 0 (.int .i64 n)) (blk_put BR.out 0 _ rfl) (by decide) 1 (.slice Av E.length cv))
  go_wp2
  exact bodyPost_ret (v := .agg #[.int .i64 n, .slice Av E.length cv]) (by simp [results, Try.results16, go_sem, k20, k21]) rfl ⟨_, rfl, RV.out, below_set (below_set HB2.out GR.out) GR.out⟩
end Go.Proofs.Ytpmclhkednehhaa.Q
