/- The document's edits: typed by hand. -/
import Derived.Test.YtpmclhkednehhaaQ10
import Derived.Test.YtpmclhkednehhaaQ26
import Derived.Test.YtpmclhkednehhaaNetS
set_option linter.unusedVariables false
set_option linter.unusedSimpArgs false
namespace Go.Proofs.Ytpmclhkednehhaa.Q
open Go.RowKit Go.Proofs.YtpmclhkednehhaaW.PrintWords Go.Proofs.YtpmclhkednehhaaW.PrintLast Go.Proofs.YtpmclhkednehhaaW.PrintMore
/-- The graph that is answered: the one that came in, or a row of its own. -/
def Res (W w' : World) (A : Option Addr) (c : Nat) (E : List S39) (A' : Option Addr) (c' : Nat) (E' : List S39) : Prop :=
  (A' = A ∧ c' = c ∧ E' = E) ∨ Kd.R k39 39 w' W.heap.size (fun _ => True) (.slice A' E'.length c') E'
set_option maxHeartbeats 4000000 in
set_option maxRecDepth 100000 in
theorem refAddNode.full (A : Option Addr) (c : Nat) (m : Nat) (W : World) :
    Calls Try.prog 42 #[.agg #[.int .i64 1024, .slice A m c]] W fun e w' => e = .returned (.tuple #[.agg #[.int .i64 1024, .slice A m c], .int .i64 0, .int .i64 3]) ∧ Below W.heap.size W w' := by
  have hu24 := Try.underlying24
  have HB := ak (Below.refl W.heap.size W)
  go_enter Try.func42, Try.ntmps42
  go_wp2_with (first
    | ((with_reducible refine gate_dst (N := 1) rfl ?_); refine box_event ?hg (N := 1) ?hd (cs := #[.int .i64 1024, .slice A m c]) (t := 24) ?hr ?_; (case hd => rfl); (case hg => rfl); (case hr => first | (go_simp; done) | (go_simp; rfl)); intro gg hg w1 bg hb; have HB1 := ak (below_step HB.out hb); have BG := ak bg; clear hb bg hg)
    | ((with_reducible refine gate_dst (N := 2) rfl ?_); refine box_event ?hg (N := 2) ?hd (cs := #[.int .i64 0, .slice none 0 0]) (t := 24) ?hr ?_; (case hd => rfl); (case hg => rfl); (case hr => first | (go_simp; done) | (go_simp; rfl)); intro gr hg w2 br hb; have HB2 := ak (below_step HB1.out hb); have BR := ak br; have GR := ak (show W.heap.size ≤ gr by rw [hg]; exact below_size HB1.out); have BG2 := ak (blk_below BG.out hb); clear hb br hg; have k0 := bc0 BG2; have k1 := bc1 BG2; have k2 := bc0 BR; have k3 := bc1 BR; have k4 := bf BR 0; have k5 := bf BR 1)
    | ((with_reducible refine gate_store (t := 24) (p := 2) rfl ?_); refine store_event (t := 24) (p := 2) (v := ?vo) (w1 := (w2.setCell ⟨gr, 0, none⟩ (.int .i64 1024)).setCell ⟨gr, 1, none⟩ (.slice A m c)) ?hg ?ho ?hn ?hr ?_; (case ho => rfl); (case hg => rfl); (case hn => rfl); (case hr => first | (go_simp; done) | (go_simp; rfl)); intro w3 hw; have HB3 := ak (show Below W.heap.size W w3 by rw [hw]; exact below_set (below_set HB2.out GR.out) GR.out); have BR3 := ak (show w3.heap[gr]? = some (.cells #[.int .i64 1024, .slice A m c] 24 (0, 0)) by rw [hw]; exact blk_put (blk_put BR.out 0 _ rfl) 1 _ rfl); have k6 := bc0 BR3; have k7 := bc1 BR3; clear hw))
  exact bodyPost_ret (v := .tuple #[.agg #[.int .i64 1024, .slice A m c], .int .i64 0, .int .i64 3]) (by simp [results, Try.results42, go_sem, k6, k7]) rfl ⟨rfl, HB3.out⟩
set_option maxHeartbeats 4000000 in
set_option maxRecDepth 100000 in
theorem refAddNode.more (k : Nat) (n : Int) (A : Option Addr) (c : Nat) (E : List S39) (W : World) (hr : Kd.C k39 W A E.length E) (hc : E.length ≤ c) (cp : compassref03_Copy.f k n E = some (n, E)) (n0 : 0 ≤ n) (n1 : n < 1024) :
    Calls Try.prog 42 #[.agg #[.int .i64 n, .slice A E.length c]] W fun e w' => ∃ (A' : Option Addr) (c' : Nat), e = .returned (.tuple #[.agg #[.int .i64 (n + 1), .slice A' E.length c'], .int .i64 n, .int .i64 0]) ∧ Below W.heap.size W w' ∧ Kd.R k39 39 w' W.heap.size (fun _ => True) (.slice A' E.length c') E := by
  have hu24 := Try.underlying24
  have HR := ak hr
  have HC := ak hc
  have CP := ak cp
  clear hr hc cp
  have HB := ak (Below.refl W.heap.size W)
  have d1 : decide (n ≥ 1024) = false := decide_eq_false (by omega)
  have d2 : decide (1024 ≤ n) = false := decide_eq_false (by omega)
  have s1 : Go.RowKit.wrap64 (n + 1) = n + 1 := by unfold Go.RowKit.wrap64; omega
  have s3 : IntKind.i64.wrap (n + 1) = n + 1 := by rw [i64_w]; exact s1
  clear n0 n1
  go_enter Try.func42, Try.ntmps42
  go_wp2_with (first
    | ((with_reducible refine gate_dst (N := 1) rfl ?_); refine box_event ?hg (N := 1) ?hd (cs := #[.int .i64 n, .slice A E.length c]) (t := 24) ?hr ?_; (case hd => rfl); (case hg => rfl); (case hr => first | (go_simp; done) | (go_simp; rfl)); intro gg hg w1 bg hb; have HB1 := ak (below_step HB.out hb); have BG := ak bg; clear hb bg hg)
    | ((with_reducible refine gate_dst (N := 2) rfl ?_); refine box_event ?hg (N := 2) ?hd (cs := #[.int .i64 0, .slice none 0 0]) (t := 24) ?hr ?_; (case hd => rfl); (case hg => rfl); (case hr => first | (go_simp; done) | (go_simp; rfl)); intro gr hg w2 br hb; have HB2 := ak (below_step HB1.out hb); have BR := ak br; have GR := ak (show W.heap.size ≤ gr by rw [hg]; exact below_size HB1.out); have NR := ak (show gg ≠ gr by rw [hg]; exact Nat.ne_of_lt (blk_lt BG.out)); have BG2 := ak (blk_below BG.out hb); clear hb br hg; have k0 := bc0 BG2; have k1 := bc1 BG2)
    | (go_at_call 15; (with_reducible refine (compassref03_Copy.calls k n _ _ E n E _ (Kd.C_below HR.out HB2.out) HC.out CP.out).mono ?_); rintro e w3 ⟨v1, rfl, r1, hb⟩; obtain ⟨A1, c1, e1⟩ := Kd.R_slice r1; subst e1; have R1 := ak (Kd.R_lower r1 (below_size HB2.out)); have HB3 := ak (below_step HB2.out hb); have BR3 := ak (blk_below BR.out hb); have BG3 := ak (blk_below BG2.out hb); clear hb r1)
    | ((with_reducible refine gate_dst (N := 5) rfl ?_); refine box_event ?hg (N := 5) ?hd (cs := #[.int .i64 0, .slice none 0 0]) (t := 24) ?hr ?_; (case hd => rfl); (case hg => rfl); (case hr => first | (go_simp; done) | (go_simp; rfl)); intro go hg w4 bo hb; have HB4 := ak (below_step HB3.out hb); have BO := ak bo; have GO := ak (show W.heap.size ≤ go by rw [hg]; exact below_size HB3.out); have NO1 := ak (show gr ≠ go by rw [hg]; exact Nat.ne_of_lt (blk_lt BR3.out)); have NO2 := ak (show gg ≠ go by rw [hg]; exact Nat.ne_of_lt (blk_lt BG3.out)); have BR4 := ak (blk_below BR3.out hb); have BG4 := ak (blk_below BG3.out hb); have R4 := ak (Kd.R_below R1.out hb); clear hb bo hg; have k2 := bc0 BO; have k3 := bc1 BO; have k4 := bf BO 0; have k5 := bf BO 1)
    | ((with_reducible refine gate_store (t := 24) (p := 5) rfl ?_); refine store_event (t := 24) (p := 5) (v := ?vo1) (w1 := (w4.setCell ⟨go, 0, none⟩ (.int .i64 n)).setCell ⟨go, 1, none⟩ (.slice A1 E.length c1)) ?hg ?ho ?hn ?hr ?_; (case ho => rfl); (case hg => rfl); (case hn => rfl); (case hr => first | (go_simp; done) | (go_simp; rfl)); intro w5 hw; have HB5 := ak (show Below W.heap.size W w5 by rw [hw]; exact below_set (below_set HB4.out GO.out) GO.out); have BO5 := ak (show w5.heap[go]? = some (.cells #[.int .i64 n, .slice A1 E.length c1] 24 (0, 0)) by rw [hw]; exact blk_put (blk_put BO.out 0 _ rfl) 1 _ rfl); have BR5 := ak (show w5.heap[gr]? = some (.cells #[.int .i64 0, .slice none 0 0] 24 (0, 0)) by rw [hw]; exact blk_far (blk_far BR4.out NO1.out _) NO1.out _); have BG5 := ak (show w5.heap[gg]? = some (.cells #[.int .i64 n, .slice A E.length c] 24 (0, 0)) by rw [hw]; exact blk_far (blk_far BG4.out NO2.out _) NO2.out _); have R5 := ak (show Kd.R k39 39 w5 W.heap.size (fun _ => True) (.slice A1 E.length c1) E by rw [hw]; exact Kd.R_set (Kd.R_set R4.out BO.out (by decide) 0 _) (blk_put BO.out 0 _ rfl) (by decide) 1 _); clear hw; have k6 := bc0 BO5; have k7 := bc1 BO5; have k8 := bf BO5 0)
    | ((with_reducible refine gate_store (t := 3) (p := 15) rfl ?_); refine store_event (t := 3) (p := 15) (v := ?vo2) (w1 := w5.setCell ⟨go, 0, none⟩ (.int .i64 (n + 1))) ?hg ?ho ?hn ?hr ?_; (case ho => rfl); (case hg => rfl); (case hn => rfl); (case hr => first | (go_simp; done) | (go_simp; rfl)); intro w6 hw; have HB6 := ak (show Below W.heap.size W w6 by rw [hw]; exact below_set HB5.out GO.out); have BO6 := ak (show w6.heap[go]? = some (.cells #[.int .i64 (n + 1), .slice A1 E.length c1] 24 (0, 0)) by rw [hw]; exact blk_put BO5.out 0 _ rfl); have BR6 := ak (show w6.heap[gr]? = some (.cells #[.int .i64 0, .slice none 0 0] 24 (0, 0)) by rw [hw]; exact blk_far BR5.out NO1.out _); have BG6 := ak (show w6.heap[gg]? = some (.cells #[.int .i64 n, .slice A E.length c] 24 (0, 0)) by rw [hw]; exact blk_far BG5.out NO2.out _); have R6 := ak (show Kd.R k39 39 w6 W.heap.size (fun _ => True) (.slice A1 E.length c1) E by rw [hw]; exact Kd.R_set R5.out BO5.out (by decide) 0 _); clear hw))
  clear k0 k1 k2 k3 k4 k5 k6 k7 k8
  have u0 := bc0 BR6
  have u1 := bc1 BR6
  have u2 := bf BR6 0
  have u3 := bf BR6 1
  have n1 := NO1.out
  have n2 : go ≠ gr := fun h => NO1.out h.symm
  have n3 := NR.out
  have n4 : gr ≠ gg := fun h => NR.out h.symm
  go_region_held3 (fun w' => w'.cell? ⟨go, 0, none⟩ = some (.int .i64 (n + 1)) ∧ w'.cell? ⟨go, 1, none⟩ = some (.slice A1 E.length c1) ∧ w'.cell? ⟨gg, 0, none⟩ = some (.int .i64 n)) (first | exact ⟨bc0 (ak (bx BO6.out)), bc1 (ak (bx BO6.out)), bc0 (ak (bx BG6.out))⟩ | exact ⟨bc0 (ak (blk_far (blk_far (bx BO6.out) n2 _) n2 _)), bc1 (ak (blk_far (blk_far (bx BO6.out) n2 _) n2 _)), bc0 (ak (blk_far (blk_far (bx BG6.out) n3 _) n3 _))⟩) (fail)
  have b1 := blk_put (blk_put BR6.out 0 (.int .i64 (n + 1)) rfl) 1 (.slice A1 E.length c1) rfl
  have k20 := (blk_cell b1 0).trans rfl
  have k21 := (blk_cell b1 1).trans rfl
  go_wp2
  exact bodyPost_ret (v := .tuple #[.agg #[.int .i64 (n + 1), .slice A1 E.length c1], .int .i64 n, .int .i64 0]) (by simp [results, Try.results42, go_sem, k20, k21]) rfl ⟨_, _, rfl, by first | exact below_drew (below_set (below_set HB6.out GR.out) GR.out) | exact below_set (below_set (below_drew HB6.out) GR.out) GR.out, by first | exact Kd.R_drew (Kd.R_set (Kd.R_set R6.out BR6.out (by decide) 0 _) (blk_put BR6.out 0 _ rfl) (by decide) 1 _) | exact Kd.R_set (Kd.R_set (Kd.R_drew R6.out) (blk_drew BR6.out) (by decide) 0 _) (blk_put (blk_drew BR6.out) 0 _ rfl) (by decide) 1 _⟩
theorem refAddNode.calls (k : Nat) (n : Int) (A : Option Addr) (c : Nat) (E : List S39) (W : World) (hr : Kd.C k39 W A E.length E) (hc : E.length ≤ c) (cp : compassref03_Copy.f k n E = some (n, E)) (n0 : 0 ≤ n) (n1 : n ≤ 1024) :
    Calls Try.prog 42 #[.agg #[.int .i64 n, .slice A E.length c]] W fun e w' => ∃ (A' : Option Addr) (c' : Nat), e = .returned (.tuple #[.agg #[.int .i64 (nodeI n).2.2, .slice A' E.length c'], .int .i64 (nodeI n).1, .int .i64 (nodeI n).2.1]) ∧ Below W.heap.size W w' ∧ Res W w' A c E A' c' E := by
  unfold nodeI
  by_cases a : n = 1024
  · rw [if_pos a]
    subst a
    refine (refAddNode.full A c E.length W).mono ?_
    rintro e w' ⟨rfl, hb⟩
    exact ⟨A, c, rfl, hb, .inl ⟨rfl, rfl, rfl⟩⟩
  · rw [if_neg a]
    refine (refAddNode.more k n A c E W hr hc cp n0 (by omega)).mono ?_
    rintro e w' ⟨A', c', rfl, hb, r⟩
    exact ⟨A', c', rfl, hb, .inr r⟩
end Go.Proofs.Ytpmclhkednehhaa.Q
