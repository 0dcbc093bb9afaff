/- A net out of a graph: typed by hand. -/
import Derived.Test.YtpmclhkednehhaaQ3
import Derived.Test.YtpmclhkednehhaaNetA
import Derived.Test.YtpmclhkednehhaaRev
set_option linter.unusedVariables false
set_option linter.unusedSimpArgs false
namespace Go.Proofs.Ytpmclhkednehhaa.Q
open Go.RowKit Go.Proofs.YtpmclhkednehhaaW.PrintWords Go.Proofs.YtpmclhkednehhaaW.PrintLast Go.Proofs.YtpmclhkednehhaaW.PrintMore
set_option maxHeartbeats 8000000 in
set_option maxRecDepth 100000 in
theorem graph_From.bad (k : Nat) (n : Int) (A : Option Addr) (cE : Nat) (E : List S39) (w : World) (hr : Kd.C k39 w A E.length E) (hc : E.length ≤ cE) (c a : Int) (A20 : graph_Check.f k n E = some (c, a)) (c3 : ¬ c = 0) :
    Calls Try.prog 11 #[.agg #[.int .i64 n, .slice A E.length cE]] w fun e w' => e = .returned (.tuple #[.pointer none, .agg #[.int .i64 c, .int .i64 a]]) ∧ Below w.heap.size w w' := by
  have hu24 := Try.underlying24
  have hu28 := Try.underlying28
  have HR := ak hr
  have HC := ak hc
  clear hr hc
  have HB := ak (Below.refl w.heap.size w)
  have A2 := ak A20
  clear A20
  have c3b0 : (c == 0) = false := beq_eq_false_iff_ne.mpr c3
  have c3b1 : (c != 0) = true := bne_iff_ne.mpr c3
  clear c3
  go_enter Try.func11, Try.ntmps11
  go_wp2_with (first
    | ((with_reducible refine gate_dst (N := 1) rfl ?_); refine box_event ?hg (N := 1) ?hd (cs := #[.int .i64 n, .slice A E.length cE]) (t := 24) ?hr ?_; (case hd => rfl); (case hg => rfl); (case hr => first | (go_simp; done) | (go_simp; rfl)); intro gg hg w1 bg hb; have HB1 := ak (below_step HB.out hb); have BG := ak bg; clear hb bg hg)
    | ((with_reducible refine gate_dst (N := 3) rfl ?_); refine box_event ?hg (N := 3) ?hd (cs := #[.int .i64 0, .int .i64 0]) (t := 28) ?hr ?_; (case hd => rfl); (case hg => rfl); (case hr => first | (go_simp; done) | (go_simp; rfl)); intro gr hg w2 br hb; have HB2 := ak (below_step HB1.out hb); have BR := ak br; have GR := ak (show w.heap.size ≤ gr by rw [hg]; exact below_size HB1.out); replace BG := ak (blk_below BG.out hb); clear hb br hg; have k0 := bc0 BG; have k1 := bc1 BG)
    | (go_at_call 9; (with_reducible refine (graph_Check.calls k n _ _ E c a _ (Kd.C_below HR.out HB2.out) HC.out A2.out).mono ?_); rintro e w3 ⟨rfl, hb⟩; have HB3 := ak (below_step HB2.out hb); replace BG := ak (blk_below BG.out hb); replace BR := ak (blk_below BR.out hb); clear hb)
    | ((with_reducible refine gate_dst (N := 4) rfl ?_); refine box_event ?hg (N := 4) ?hd (cs := #[.int .i64 0, .int .i64 0]) (t := 28) ?hr ?_; (case hd => rfl); (case hg => rfl); (case hr => first | (go_simp; done) | (go_simp; rfl)); intro gf hg w4 bf_ hb; have HB4 := ak (below_step HB3.out hb); have BF := ak bf_; have GF := ak (show w.heap.size ≤ gf by rw [hg]; exact below_size HB3.out); have NF := ak (show gr ≠ gf by rw [hg]; exact Nat.ne_of_lt (blk_lt BR.out)); replace BG := ak (blk_below BG.out hb); replace BR := ak (blk_below BR.out hb); clear hb bf_ hg; have k2 := bf BF 0; have k3 := bf BF 1; have k4 := bc0 BF; have k5 := bc1 BF)
    | ((with_reducible refine gate_store (t := 28) (p := 4) rfl ?_); refine store_event (t := 28) (p := 4) (v := ?vo5b) (w1 := (w4.setCell ⟨gf, 0, none⟩ (.int .i64 c)).setCell ⟨gf, 1, none⟩ (.int .i64 a)) ?hg ?ho ?hn ?hr ?_; (case ho => rfl); (case hg => rfl); (case hn => rfl); (case hr => first | (go_simp; done) | (go_simp; rfl)); intro w5 hw; have HB5 := ak (show Below w.heap.size w w5 by rw [hw]; exact below_set (below_set HB4.out GF.out) GF.out); replace BF := ak (show w5.heap[gf]? = some (.cells #[.int .i64 c, .int .i64 a] 28 (0, 0)) by rw [hw]; exact blk_put (blk_put BF.out 0 _ rfl) 1 _ rfl); have k6 := bc0 BF; have k7 := bc1 BF; replace BR := ak (show w5.heap[gr]? = some (.cells #[.int .i64 0, .int .i64 0] 28 (0, 0)) by rw [hw]; exact blk_far (blk_far BR.out NF.out _) NF.out _); have k8 := bc0 BR; have k9 := bc1 BR; have k10 := bf BR 0; have k11 := bf BR 1; clear hw))
  have nb1 : gf ≠ gr := fun h => NF.out h.symm
  have nb2 : gr ≠ gf := NF.out
  go_region
  go_wp2
  have b1 := blk_drew (blk_put (blk_put BR.out 0 (.int .i64 c) rfl) 1 (.int .i64 a) rfl)
  have k12 := (blk_cell b1 0).trans rfl
  have k13 := (blk_cell b1 1).trans rfl
  exact bodyPost_ret (v := .tuple #[.pointer none, .agg #[.int .i64 c, .int .i64 a]]) (by simp [results, Try.results11, go_sem, k12, k13]) rfl ⟨rfl, below_drew (below_set (below_set HB5.out GR.out) GR.out)⟩
set_option maxHeartbeats 8000000 in
set_option maxRecDepth 100000 in
theorem graph_From.good (k : Nat) (n : Int) (A : Option Addr) (cE : Nat) (E : List S39) (w : World) (hr : Kd.C k39 w A E.length E) (hc : E.length ≤ cE) (a : Int) (A20 : graph_Check.f k n E = some (0, a)) (hl : E.length < 4398046511104) :
    Calls Try.prog 11 #[.agg #[.int .i64 n, .slice A E.length cE]] w fun e w' => ∃ (p : Nat) (v : Value), e = .returned (.tuple #[.pointer (some ⟨p, 0, none⟩), .agg #[.int .i64 0, .int .i64 0]]) ∧ NS w p n v E w' := by
  have hu24 := Try.underlying24
  have hu28 := Try.underlying28
  have HR := ak hr
  have HC := ak hc
  clear hr hc
  have HB := ak (Below.refl w.heap.size w)
  have A2 := ak A20
  clear A20
  have hcl : slices_Clone.f k E = some E := by unfold slices_Clone.f; rw [if_pos hl]
  have CL := ak hcl
  clear hcl hl
  go_enter Try.func11, Try.ntmps11
  go_wp2_with (first
    | ((with_reducible refine gate_dst (N := 1) rfl ?_); refine box_event ?hg (N := 1) ?hd (cs := #[.int .i64 n, .slice A E.length cE]) (t := 24) ?hr ?_; (case hd => rfl); (case hg => rfl); (case hr => first | (go_simp; done) | (go_simp; rfl)); intro gg hg w1 bg hb; have HB1 := ak (below_step HB.out hb); have BG := ak bg; clear hb bg hg)
    | ((with_reducible refine gate_dst (N := 3) rfl ?_); refine box_event ?hg (N := 3) ?hd (cs := #[.int .i64 0, .int .i64 0]) (t := 28) ?hr ?_; (case hd => rfl); (case hg => rfl); (case hr => first | (go_simp; done) | (go_simp; rfl)); intro gr hg w2 br hb; have HB2 := ak (below_step HB1.out hb); have BR := ak br; have GR := ak (show w.heap.size ≤ gr by rw [hg]; exact below_size HB1.out); have NR := ak (show gg ≠ gr by rw [hg]; exact Nat.ne_of_lt (blk_lt BG.out)); replace BG := ak (blk_below BG.out hb); clear hb br hg; have k0 := bc0 BG; have k1 := bc1 BG)
    | (go_at_call 9; (with_reducible refine (graph_Check.calls k n _ _ E 0 a _ (Kd.C_below HR.out HB2.out) HC.out A2.out).mono ?_); rintro e w3 ⟨rfl, hb⟩; have HB3 := ak (below_step HB2.out hb); replace BG := ak (blk_below BG.out hb); replace BR := ak (blk_below BR.out hb); clear hb)
    | ((with_reducible refine gate_dst (N := 4) rfl ?_); refine box_event ?hg (N := 4) ?hd (cs := #[.int .i64 0, .int .i64 0]) (t := 28) ?hr ?_; (case hd => rfl); (case hg => rfl); (case hr => first | (go_simp; done) | (go_simp; rfl)); intro gf hg w4 bf_ hb; have HB4 := ak (below_step HB3.out hb); have BF := ak bf_; have GF := ak (show w.heap.size ≤ gf by rw [hg]; exact below_size HB3.out); have NF := ak (show gr ≠ gf by rw [hg]; exact Nat.ne_of_lt (blk_lt BR.out)); have NG := ak (show gg ≠ gf by rw [hg]; exact Nat.ne_of_lt (blk_lt BG.out)); replace BG := ak (blk_below BG.out hb); replace BR := ak (blk_below BR.out hb); clear hb bf_ hg; have k2 := bf BF 0; have k3 := bf BF 1; have k4 := bc0 BF; have k5 := bc1 BF)
    | ((with_reducible refine gate_store (t := 28) (p := 4) rfl ?_); refine store_event (t := 28) (p := 4) (v := ?vo5b) (w1 := (w4.setCell ⟨gf, 0, none⟩ (.int .i64 0)).setCell ⟨gf, 1, none⟩ (.int .i64 a)) ?hg ?ho ?hn ?hr ?_; (case ho => rfl); (case hg => rfl); (case hn => rfl); (case hr => first | (go_simp; done) | (go_simp; rfl)); intro w5 hw; have HB5 := ak (show Below w.heap.size w w5 by rw [hw]; exact below_set (below_set HB4.out GF.out) GF.out); replace BF := ak (show w5.heap[gf]? = some (.cells #[.int .i64 0, .int .i64 a] 28 (0, 0)) by rw [hw]; exact blk_put (blk_put BF.out 0 _ rfl) 1 _ rfl); have k6 := bc0 BF; have k7 := bc1 BF; replace BR := ak (show w5.heap[gr]? = some (.cells #[.int .i64 0, .int .i64 0] 28 (0, 0)) by rw [hw]; exact blk_far (blk_far BR.out NF.out _) NF.out _); have k8 := bc0 BR; have k9 := bc1 BR; have k10 := bf BR 0; have k11 := bf BR 1; have BG5 := ak (show w5.heap[gg]? = some (.cells #[.int .i64 n, .slice A E.length cE] 24 (0, 0)) by rw [hw]; exact blk_far (blk_far BG.out NG.out _) NG.out _); have k12 := bc0 BG5; have k13 := bc1 BG5; clear hw))
  have nb1 : gf ≠ gr := fun h => NF.out h.symm
  have nb2 : gr ≠ gf := NF.out
  have k14 := bf BR 0
  go_wp2
  go_region_held3 (fun w' => w'.cell? ⟨gg, 0, none⟩ = some (.int .i64 n) ∧ w'.cell? ⟨gg, 1, none⟩ = some (.slice A E.length cE) ∧ w'.cell? ⟨gr, 0, none⟩ = some (.int .i64 0) ∧ w'.cell? ⟨gr, 1, none⟩ = some (.int .i64 0) ∧ w'.frozen? ⟨gr, 0, none⟩ = false ∧ w'.frozen? ⟨gr, 1, none⟩ = false) (first | exact ⟨bc0 (ak (bx BG5.out)), bc1 (ak (bx BG5.out)), bc0 (ak (bx BR.out)), bc1 (ak (bx BR.out)), bf (ak (bx BR.out)) 0, bf (ak (bx BR.out)) 1⟩ | exact ⟨bc0 (ak (blk_far (blk_far (bx BG5.out) NR.out _) NR.out _)), bc1 (ak (blk_far (blk_far (bx BG5.out) NR.out _) NR.out _)), bc0 (ak (blk_put (blk_put (bx BR.out) 0 _ rfl) 1 _ rfl)), bc1 (ak (blk_put (blk_put (bx BR.out) 0 _ rfl) 1 _ rfl)), bf (ak (blk_put (blk_put (bx BR.out) 0 _ rfl) 1 _ rfl)) 0, bf (ak (blk_put (blk_put (bx BR.out) 0 _ rfl) 1 _ rfl)) 1⟩ | go_keep)
    (first | (go_at_call 32; (with_reducible refine (slices_Clone.calls k _ _ E E _ (by first | exact Kd.C_below HR.out HB5.out | exact Kd.C_below HR.out lb) HC.out CL.out).mono ?_); rintro e w6 ⟨v, rfl, hv, hb⟩; obtain ⟨Av, cv, ev⟩ := Kd.R_slice hv; subst ev; replace BG5 := ak (blk_below (bx BG5.out) hb); replace BR := ak (blk_below (bx BR.out) hb); have HB6 := ak (below_step lb hb); obtain ⟨hc_, hf_⟩ := bcell hb))
  have ne : w6.heap.size ≠ gr := Nat.ne_of_gt (blk_lt BR.out)
  have br1 := blk_put (blk_put (blk_alloc BR.out (.cells #[.int .i64 n, .slice Av E.length cv] 44)) 0 (.int .i64 0) rfl) 1 (.int .i64 0) rfl
  have NV := ak (show NS w w6.heap.size n (.slice Av E.length cv) E (((w6.alloc (.cells #[.int .i64 n, .slice Av E.length cv] 44)).setCell ⟨gr, 0, none⟩ (.int .i64 0)).setCell ⟨gr, 1, none⟩ (.int .i64 0)) from ⟨below_set (below_set (below_alloc HB6.out _) GR.out) GR.out, blk_far (blk_far (blk_new w6 _) ne _) ne _, below_size HB6.out, Kd.R_set (Kd.R_set (Kd.R_alloc (Kd.R_lower hv (below_size lb)) _) (blk_alloc BR.out _) (by decide) 0 _) (blk_put (blk_alloc BR.out _) 0 _ rfl) (by decide) 1 _⟩)
  have k20 := (blk_cell br1 0).trans rfl
  have k21 := (blk_cell br1 1).trans rfl
  go_wp2
  exact bodyPost_ret (v := .tuple #[.pointer (some ⟨w6.heap.size, 0, none⟩), .agg #[.int .i64 0, .int .i64 0]]) (by simp [results, Try.results11, go_sem, k20, k21]) rfl ⟨_, _, rfl, NV.out⟩
end Go.Proofs.Ytpmclhkednehhaa.Q
