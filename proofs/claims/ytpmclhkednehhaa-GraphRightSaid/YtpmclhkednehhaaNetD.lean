/- An edge that is there is told; and the law's waking: typed by hand. -/
import Derived.Test.YtpmclhkednehhaaNetC
set_option linter.unusedVariables false
set_option linter.unusedSimpArgs false
namespace Go.Proofs.Ytpmclhkednehhaa.Q
open Go.RowKit Go.Proofs.YtpmclhkednehhaaW.PrintWords Go.Proofs.YtpmclhkednehhaaW.PrintLast Go.Proofs.YtpmclhkednehhaaW.PrintMore
theorem NS.edge {w0 : World} {p : Nat} {n : Int} {b m cap : Nat} {E : List S39} {W : World} (h : NS w0 p n (.slice (some ⟨b, 0, none⟩) m cap) E W) (i : Nat) (hi : i < m) :
    W.cell? ⟨b, i * 4, none⟩ = some (.int .i64 (rd_T39 E (i : Int)).f0) ∧ W.cell? ⟨b, i * 4 + 1, none⟩ = some (.int .i64 (rd_T39 E (i : Int)).f1) ∧ W.cell? ⟨b, i * 4 + 2, none⟩ = some (.int .i64 (rd_T39 E (i : Int)).f2) ∧ W.cell? ⟨b, i * 4 + 3, none⟩ = some (.int .i64 (rd_T39 E (i : Int)).f3) := by
  obtain ⟨c, hl, hM, hc, hf⟩ := Kd.R_elem h.row z39 (i : Int) (by omega) (by omega)
  obtain rfl := k39_openM hM
  rw [Int.toNat_natCast] at hc
  exact ⟨hc 0 _ rfl, hc 1 _ rfl, hc 2 _ rfl, hc 3 _ rfl⟩
set_option maxHeartbeats 8000000 in
set_option maxRecDepth 100000 in
theorem Net_Edge.yes (w0 : World) (p : Nat) (n : Int) (A : Option Addr) (cap : Nat) (E : List S39) (W : World) (h : NS w0 p n (.slice A E.length cap) E W) (i : Nat) (hi : i < E.length) :
    Calls Try.prog 29 #[.pointer (some ⟨p, 0, none⟩), .int .i64 (i : Int)] W fun e w' => e = .returned (.tuple #[.agg #[.int .i64 (rd_T39 E (i : Int)).f0, .int .i64 (rd_T39 E (i : Int)).f1, .int .i64 (rd_T39 E (i : Int)).f2, .int .i64 (rd_T39 E (i : Int)).f3], .int .i64 0]) ∧ Below W.heap.size W w' := by
  have hu44 := Try.underlying44
  have hu42 := Try.underlying42
  have hu39 := Try.underlying39
  have hu22 := Try.underlying22
  obtain ⟨b, cp, ea, -⟩ := Kd.R_form h.row (by omega)
  injection ea with e1 e2 e3
  subst e1
  clear e2 e3
  have N0 := ak h
  clear h
  have HB := ak (Below.refl W.heap.size W)
  have c1 : (0 : Int) ≤ (i : Int) := Int.natCast_nonneg _
  have c2 : (i : Int) < (E.length : Int) := by omega
  have c3 : decide ((0 : Int) ≤ (i : Int)) = true := decide_eq_true c1
  have c4 : decide ((i : Int) < (E.length : Int)) = true := decide_eq_true c2
  go_enter Try.func29, Try.ntmps29
  go_wp2_with (first
    | ((with_reducible refine gate_dst (N := 4) rfl ?_); refine box_event ?hg (N := 4) ?hd (cs := #[.int .i64 0, .int .i64 0, .int .i64 0, .int .i64 0]) (t := 39) ?hr ?_; (case hd => rfl); (case hg => rfl); (case hr => first | (go_simp; done) | (go_simp; rfl)); intro ge hg w1 be hb; have HB1 := ak (below_step HB.out hb); have GE := ak (show W.heap.size ≤ ge by rw [hg]; exact Nat.le_refl _); have NE := ak (show b ≠ ge from fun he => by have := Kd.R_lt N0.out.row b rfl; omega); have N1 := ak (N0.out.later hb); have BE := ak be; clear hb be hg)
    | (go_at_call 38; (with_reducible refine (shape_edge.calls p _ _ _ _ _ N1.out.c1).mono ?_); rintro e w2 ⟨rfl, rfl⟩; rw [c3, c4]; have k0 := N1.out.c1; obtain ⟨k1, k2, k3, k4⟩ := N1.out.edge i hi; have k5 := bc0 BE; have k6 := bc1 BE; have k7 := bc2 BE; have k8 := bc3 BE; have l0 := bf BE 0; have l1 := bf BE 1; have l2 := bf BE 2; have l3 := bf BE 3; have nb1 := NE.out; have nb2 : ge ≠ b := fun h => NE.out h.symm))
  have b1 := blk_put (blk_put (blk_put (blk_put BE.out 0 (.int .i64 (rd_T39 E (i : Int)).f0) rfl) 1 (.int .i64 (rd_T39 E (i : Int)).f1) rfl) 2 (.int .i64 (rd_T39 E (i : Int)).f2) rfl) 3 (.int .i64 (rd_T39 E (i : Int)).f3) rfl
  have k12 := (blk_cell b1 0).trans rfl
  have k13 := (blk_cell b1 1).trans rfl
  have k14 := (blk_cell b1 2).trans rfl
  have k15 := (blk_cell b1 3).trans rfl
  exact bodyPost_ret (v := .tuple #[.agg #[.int .i64 (rd_T39 E (i : Int)).f0, .int .i64 (rd_T39 E (i : Int)).f1, .int .i64 (rd_T39 E (i : Int)).f2, .int .i64 (rd_T39 E (i : Int)).f3], .int .i64 0]) (by simp [results, Try.results29, go_sem, k12, k13, k14, k15]) rfl ⟨rfl, below_set (below_set (below_set (below_set HB1.out GE.out) GE.out) GE.out) GE.out⟩
set_option maxHeartbeats 8000000 in
set_option maxRecDepth 100000 in
theorem compasslaw03_awake.calls (k : Nat) (a : Int) (h : graph_Check.f k 2 [] = some (0, a)) (hl : graph_label.f 0 1 3 0 = some true) (w : World) : Calls Try.prog 8 #[] w fun e w' => e = .returned (.bool true) ∧ Below w.heap.size w w' := by
  have hu24 := Try.underlying24
  have hu28 := Try.underlying28
  have hu39 := Try.underlying39
  have hu42 := Try.underlying42
  have hu44 := Try.underlying44
  have HB := ak (Below.refl w.heap.size w)
  have HK := ak h
  have HL := ak hl
  clear h hl
  go_enter Try.func8, Try.ntmps8
  go_wp2_with (first
    | (go_at_call 11; (refine (graph_From.good k 2 none 0 [] _ (Kd.C_nil _ _) (Nat.le_refl _) a HK.out (by decide)).mono ?_); rintro e w1 ⟨p, v, rfl, ns⟩; obtain ⟨A1, c1, e1⟩ := Kd.R_slice ns.row; subst e1; have N1 := ak ns; clear ns)
    | ((with_reducible refine gate_dst (N := 2) rfl ?_); refine box_event ?hg (N := 2) ?hd (cs := #[.int .i64 0, .int .i64 0]) (t := 28) ?hr ?_; (case hd => rfl); (case hg => rfl); (case hr => first | (go_simp; done) | (go_simp; rfl)); intro gf hg w2 bf_ hb; have N2 := ak (N1.out.later hb); have BF := ak bf_; have GF := ak (show w.heap.size ≤ gf by rw [hg]; exact below_size N1.out.below); have NF := ak (show p ≠ gf by rw [hg]; exact Nat.ne_of_lt (blk_lt N1.out.bp)); have k2 := bf BF 0; have k3 := bf BF 1; have k4 := bc0 BF; have k5 := bc1 BF; clear hb bf_ hg)
    | ((with_reducible refine gate_store (t := 28) (p := 2) rfl ?_); refine store_event (t := 28) (p := 2) (v := ?vo5b) (w1 := (w2.setCell ⟨gf, 0, none⟩ (.int .i64 0)).setCell ⟨gf, 1, none⟩ (.int .i64 0)) ?hg ?ho ?hn ?hr ?_; (case ho => rfl); (case hg => rfl); (case hn => rfl); (case hr => first | (go_simp; done) | (go_simp; rfl)); intro w3 hw; have N3 := ak (show NS w p 2 (.slice A1 ([] : List S39).length c1) [] w3 by rw [hw]; exact ⟨below_set (below_set N2.out.below GF.out) GF.out, blk_far (blk_far N2.out.bp NF.out _) NF.out _, N2.out.p0, Kd.R_set (Kd.R_set N2.out.row BF.out (by decide) 0 _) (blk_put BF.out 0 _ rfl) (by decide) 1 _⟩); have BF3 := ak (show w3.heap[gf]? = some (.cells #[.int .i64 0, .int .i64 0] 28 (0, 0)) by rw [hw]; exact blk_put (blk_put BF.out 0 _ rfl) 1 _ rfl); have k6 := bc0 BF3; clear hw)
    | (go_at_call 23; (refine (Net_AddEdge.yes w p 2 A1 c1 [] ⟨0, 1, 3, 0⟩ _ N3.out (by decide) (by decide) (by decide) (by decide) (by decide) HL.out).mono ?_); rintro e w4 ⟨rfl, A4, c4, ns⟩; have N4 := ak ns; clear ns)
    | (go_at_call 29; (refine (Net_Edge.yes w p 2 A4 c4 [⟨0, 1, 3, 0⟩] _ N4.out 0 (by decide)).mono ?_); rintro e w5 ⟨rfl, hb⟩; have N5 := ak (N4.out.later hb); clear hb)
    | (go_at_call 21; (refine (shape_Edges.calls p A4 1 c4 _ (N5.out.later (below_alloc (Below.refl _ _) _)).c1).mono ?_); rintro e w6 ⟨rfl, rfl⟩)
    | (go_at_call 20; (refine (shape_Nodes.calls p 2 _ (N5.out.later (below_alloc (Below.refl _ _) _)).c0).mono ?_); rintro e w7 ⟨rfl, rfl⟩))
  go_ret
  exact ⟨rfl, below_alloc N5.out.below _⟩
end Go.Proofs.Ytpmclhkednehhaa.Q
