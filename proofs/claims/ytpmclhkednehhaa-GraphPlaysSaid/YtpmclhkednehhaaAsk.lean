/- A net is asked as its document is: written by genA.py. -/
import Derived.Test.YtpmclhkednehhaaQ1
import Derived.Test.YtpmclhkednehhaaQ10
import Derived.Test.YtpmclhkednehhaaQ24
import Derived.Test.YtpmclhkednehhaaQ26
import Derived.Test.YtpmclhkednehhaaRefO
import Derived.Test.YtpmclhkednehhaaNetU
set_option linter.unusedVariables false
set_option linter.unusedSimpArgs false
namespace Go.Proofs.Ytpmclhkednehhaa.Q
open Go.RowKit Go.Proofs.YtpmclhkednehhaaW.PrintWords Go.Proofs.YtpmclhkednehhaaW.PrintLast Go.Proofs.YtpmclhkednehhaaW.PrintMore
attribute [local go_sem high] eqA39
set_option maxHeartbeats 4000000 in
set_option maxRecDepth 100000 in
theorem askNone (kd : Int) (u : World) (p : Nat) (n : Int) (A : Option Addr) (cap : Nat) (E : List S39) (Ad : Option Addr) (cd : Nat) (ps : Int) (e0 : S39) (W : World) (h : NS u p n (.slice A E.length cap) E W) (hr : Kd.C k39 W Ad E.length E) (hc : E.length ≤ cd) (h5 : kd ≠ 5) (h6 : kd ≠ 6) :
    Calls Try.prog 47 #[.pointer (some ⟨p, 0, none⟩), .agg #[.int .i64 n, .slice Ad E.length cd], .agg #[.int .i64 kd, .int .i64 ps, .int .i64 e0.f0, .int .i64 e0.f1, .int .i64 e0.f2, .int .i64 e0.f3]] W fun e w' => e = .returned (.bool true) ∧ Below W.heap.size W w' := by
  have hu24 := Try.underlying24
  have hu39 := Try.underlying39
  have hu22 := Try.underlying22
  have HB := ak (Below.refl W.heap.size W)
  have hu53 := Try.underlying53
  have hu44 := Try.underlying44
  have N0 := ak h
  have HR := ak hr
  have HC := ak hc
  clear h hr hc
  have d0 : (kd == 5) = false := beq_eq_false_iff_ne.mpr h5
  have d1 : (kd == 6) = false := beq_eq_false_iff_ne.mpr h6
  have d2 : (kd != 6) = true := bne_iff_ne.mpr h6
  clear h5 h6
  go_enter Try.func47, Try.ntmps47
  go_wp2_with (first
    | ((with_reducible refine gate_dst (N := 4) rfl ?_); refine box_event ?hg (N := 4) ?hd (cs := #[.int .i64 n, .slice Ad E.length cd]) (t := 24) ?hr ?_; (case hd => rfl); (case hg => rfl); (case hr => first | (go_simp; done) | (go_simp; rfl)); intro gg hg w1 bg hb; have HB1 := ak (below_step HB.out hb); have BG := ak bg; clear hb bg hg)
    | ((with_reducible refine gate_dst (N := 5) rfl ?_); refine box_event ?hg (N := 5) ?hd (cs := #[.int .i64 kd, .int .i64 ps, .int .i64 e0.f0, .int .i64 e0.f1, .int .i64 e0.f2, .int .i64 e0.f3]) (t := 53) ?hr ?_; (case hd => rfl); (case hg => rfl); (case hr => first | (go_simp; done) | (go_simp; rfl)); intro g5 hg w2 b5 hb; have HB2 := ak (below_step HB1.out hb); have B5 := ak b5; have BG2 := ak (blk_below BG.out hb); clear hb b5 hg; have k0 := bc0 B5; have k1 := bc1 B5; have k2 := bc0 BG2; have k3 := bc1 BG2))
  go_ret
  exact ⟨rfl, HB2.out⟩
set_option maxHeartbeats 4000000 in
set_option maxRecDepth 100000 in
theorem askYes (u : World) (p : Nat) (n : Int) (A : Option Addr) (cap : Nat) (E : List S39) (Ad : Option Addr) (cd : Nat) (e0 : S39) (W : World) (h : NS u p n (.slice A E.length cap) E W) (hr : Kd.C k39 W Ad E.length E) (hc : E.length ≤ cd) (j : Nat) (hj : j < E.length) :
    Calls Try.prog 47 #[.pointer (some ⟨p, 0, none⟩), .agg #[.int .i64 n, .slice Ad E.length cd], .agg #[.int .i64 5, .int .i64 (j : Int), .int .i64 e0.f0, .int .i64 e0.f1, .int .i64 e0.f2, .int .i64 e0.f3]] W fun e w' => e = .returned (.bool true) ∧ Below W.heap.size W w' := by
  have hu24 := Try.underlying24
  have hu39 := Try.underlying39
  have hu22 := Try.underlying22
  have HB := ak (Below.refl W.heap.size W)
  have hu53 := Try.underlying53
  have hu44 := Try.underlying44
  have N0 := ak h
  have HR := ak hr
  have HC := ak hc
  clear h hr hc
  have J := ak hj
  have i1 : decide ((j : Int) < 0) = false := decide_eq_false (by omega)
  have i2 : decide ((j : Int) ≥ (E.length : Int)) = false := decide_eq_false (by omega)
  have i3 : decide ((E.length : Int) ≤ (j : Int)) = false := decide_eq_false (by omega)
  have i4 : decide (E.length ≤ j) = false := decide_eq_false (by omega)
  have p0 : (0 : Int) ≤ (j : Int) := by omega
  have p1 : (j : Int) < (E.length : Int) := by omega
  obtain ⟨ad, ea, e1, e2, e3, e4⟩ := at_T39 HR.out (j : Int) p0 p1
  cases ea
  rw [Int.toNat_natCast] at e1 e2 e3 e4
  clear hj
  go_enter Try.func47, Try.ntmps47
  go_wp2_with (first
    | ((with_reducible refine gate_dst (N := 4) rfl ?_); refine box_event ?hg (N := 4) ?hd (cs := #[.int .i64 n, .slice (some ad) E.length cd]) (t := 24) ?hr ?_; (case hd => rfl); (case hg => rfl); (case hr => first | (go_simp; done) | (go_simp; rfl)); intro gg hg w1 bg hb; have HB1 := ak (below_step HB.out hb); have BG := ak bg; clear hb bg hg)
    | ((with_reducible refine gate_dst (N := 5) rfl ?_); refine box_event ?hg (N := 5) ?hd (cs := #[.int .i64 5, .int .i64 (j : Int), .int .i64 e0.f0, .int .i64 e0.f1, .int .i64 e0.f2, .int .i64 e0.f3]) (t := 53) ?hr ?_; (case hd => rfl); (case hg => rfl); (case hr => first | (go_simp; done) | (go_simp; rfl)); intro g5 hg w2 b5 hb; have HB2 := ak (below_step HB1.out hb); have B5 := ak b5; have BG2 := ak (blk_below BG.out hb); clear hb b5 hg; have k0 := bc0 B5; have k1 := bc1 B5; have k2 := bc0 BG2; have k3 := bc1 BG2)
    | (go_at_call 29; (with_reducible refine (Net_Edge.yes u p n A cap E _ (N0.out.later HB2.out) j J.out).mono ?_); rintro e w3 ⟨rfl, hb⟩; have B52 := B5; have HB3 := ak (below_step HB2.out hb); have BG3 := ak (blk_below BG2.out hb); have B53 := ak (blk_below B52.out hb); clear hb)
    | ((with_reducible refine gate_dst (N := 7) rfl ?_); refine box_event ?hg (N := 7) ?hd (cs := #[.int .i64 0, .int .i64 0, .int .i64 0, .int .i64 0]) (t := 39) ?hr ?_; (case hd => rfl); (case hg => rfl); (case hr => first | (go_simp; done) | (go_simp; rfl)); intro ge hg w4 be hb; have HB4 := ak (below_step HB3.out hb); have BG4 := ak (blk_below BG3.out hb); have B54 := ak (blk_below B53.out hb); have BE := ak be; have GE := ak (show W.heap.size ≤ ge by rw [hg]; exact below_size HB3.out); have NE1 := ak (show gg ≠ ge by rw [hg]; exact Nat.ne_of_lt (blk_lt BG3.out)); have NE2 := ak (show g5 ≠ ge by rw [hg]; exact Nat.ne_of_lt (blk_lt B53.out)); clear hb be hg; have l0 := bc0 BE; have l1 := bc1 BE; have l2 := bc2 BE; have l3 := bc3 BE; have l4 := bf BE 0; have l5 := bf BE 1; have l6 := bf BE 2; have l7 := bf BE 3)
    | ((with_reducible refine gate_store (t := 39) (p := 7) rfl ?_); refine store_event (t := 39) (p := 7) (v := ?vs) (w1 := (((w4.setCell ⟨ge, 0, none⟩ (.int .i64 (rd_T39 E (j : Int)).f0)).setCell ⟨ge, 1, none⟩ (.int .i64 (rd_T39 E (j : Int)).f1)).setCell ⟨ge, 2, none⟩ (.int .i64 (rd_T39 E (j : Int)).f2)).setCell ⟨ge, 3, none⟩ (.int .i64 (rd_T39 E (j : Int)).f3)) ?hg ?ho ?hn ?hr ?_; (case ho => rfl); (case hg => rfl); (case hn => rfl); (case hr => first | (go_simp; done) | (go_simp; rfl)); intro w5 hw; have HB5 := ak (show Below W.heap.size W w5 by rw [hw]; exact below_set (below_set (below_set (below_set HB4.out GE.out) GE.out) GE.out) GE.out); have BG5 := ak (show w5.heap[gg]? = some (.cells #[.int .i64 n, .slice (some ad) E.length cd] 24 (0, 0)) by rw [hw]; exact blk_far (blk_far (blk_far (blk_far BG4.out NE1.out _) NE1.out _) NE1.out _) NE1.out _); have B55 := ak (show w5.heap[g5]? = some (.cells #[.int .i64 5, .int .i64 (j : Int), .int .i64 e0.f0, .int .i64 e0.f1, .int .i64 e0.f2, .int .i64 e0.f3] 53 (0, 0)) by rw [hw]; exact blk_far (blk_far (blk_far (blk_far B54.out NE2.out _) NE2.out _) NE2.out _) NE2.out _); have BE5 := ak (show w5.heap[ge]? = some (.cells #[.int .i64 (rd_T39 E (j : Int)).f0, .int .i64 (rd_T39 E (j : Int)).f1, .int .i64 (rd_T39 E (j : Int)).f2, .int .i64 (rd_T39 E (j : Int)).f3] 39 (0, 0)) by rw [hw]; exact blk_put (blk_put (blk_put (blk_put BE.out 0 (.int .i64 (rd_T39 E (j : Int)).f0) rfl) 1 (.int .i64 (rd_T39 E (j : Int)).f1) rfl) 2 (.int .i64 (rd_T39 E (j : Int)).f2) rfl) 3 (.int .i64 (rd_T39 E (j : Int)).f3) rfl); clear hw; have m0 := bc0 BE5; have m1 := bc1 BE5; have m2 := bc2 BE5; have m3 := bc3 BE5; have m4 := bc1 BG5; have m5 := bc1 B55))
  have f1 := (HB5.out.cell (World.block_lt_of_cell? W _ e1)).trans e1
  have f2 := (HB5.out.cell (World.block_lt_of_cell? W _ e2)).trans e2
  have f3 := (HB5.out.cell (World.block_lt_of_cell? W _ e3)).trans e3
  have f4 := (HB5.out.cell (World.block_lt_of_cell? W _ e4)).trans e4
  go_region_held3 (fun w' => w'.cell? ⟨ge, 0, none⟩ = some (.int .i64 (rd_T39 E (j : Int)).f0) ∧ w'.cell? ⟨ge, 1, none⟩ = some (.int .i64 (rd_T39 E (j : Int)).f1) ∧ w'.cell? ⟨ge, 2, none⟩ = some (.int .i64 (rd_T39 E (j : Int)).f2) ∧ w'.cell? ⟨ge, 3, none⟩ = some (.int .i64 (rd_T39 E (j : Int)).f3) ∧ w'.cell? ⟨gg, 1, none⟩ = some (.slice (some ad) E.length cd) ∧ w'.cell? ⟨g5, 1, none⟩ = some (.int .i64 (j : Int)) ∧ w'.cell? (ad.add (j * 4)) = some (.int .i64 (rd_T39 E (j : Int)).f0) ∧ w'.cell? ⟨(ad.add (j * 4)).block, (ad.add (j * 4)).off + 1, none⟩ = some (.int .i64 (rd_T39 E (j : Int)).f1) ∧ w'.cell? ⟨(ad.add (j * 4)).block, (ad.add (j * 4)).off + 2, none⟩ = some (.int .i64 (rd_T39 E (j : Int)).f2) ∧ w'.cell? ⟨(ad.add (j * 4)).block, (ad.add (j * 4)).off + 3, none⟩ = some (.int .i64 (rd_T39 E (j : Int)).f3)) (exact ⟨m0, m1, m2, m3, m4, m5, f1, f2, f3, f4⟩) (fail)
  go_wp2
  go_ret
  exact ⟨by simp, by first | exact below_drew HB5.out | exact HB5.out⟩
set_option maxHeartbeats 4000000 in
set_option maxRecDepth 100000 in
theorem askNo (u : World) (p : Nat) (n : Int) (A : Option Addr) (cap : Nat) (E : List S39) (Ad : Option Addr) (cd : Nat) (ps : Int) (e0 : S39) (W : World) (h : NS u p n (.slice A E.length cap) E W) (hr : Kd.C k39 W Ad E.length E) (hc : E.length ≤ cd) (hj : ¬ (0 ≤ ps ∧ ps < (E.length : Int))) :
    Calls Try.prog 47 #[.pointer (some ⟨p, 0, none⟩), .agg #[.int .i64 n, .slice Ad E.length cd], .agg #[.int .i64 5, .int .i64 ps, .int .i64 e0.f0, .int .i64 e0.f1, .int .i64 e0.f2, .int .i64 e0.f3]] W fun e w' => e = .returned (.bool true) ∧ Below W.heap.size W w' := by
  have hu24 := Try.underlying24
  have hu39 := Try.underlying39
  have hu22 := Try.underlying22
  have HB := ak (Below.refl W.heap.size W)
  have hu53 := Try.underlying53
  have hu44 := Try.underlying44
  have N0 := ak h
  have HR := ak hr
  have HC := ak hc
  clear h hr hc
  have HI := ak (show (decide (0 ≤ ps) && decide (ps < (E.length : Int))) = false by rw [Bool.and_eq_false_iff, decide_eq_false_iff_not, decide_eq_false_iff_not]; omega)
  rcases (by omega : ps < 0 ∨ (0 ≤ ps ∧ (E.length : Int) ≤ ps)) with h1 | ⟨h1, h2⟩
  · have i1 : decide (ps < 0) = true := decide_eq_true h1
    clear hj h1
    go_enter Try.func47, Try.ntmps47
    go_wp2_with (first
      | ((with_reducible refine gate_dst (N := 4) rfl ?_); refine box_event ?hg (N := 4) ?hd (cs := #[.int .i64 n, .slice Ad E.length cd]) (t := 24) ?hr ?_; (case hd => rfl); (case hg => rfl); (case hr => first | (go_simp; done) | (go_simp; rfl)); intro gg hg w1 bg hb; have HB1 := ak (below_step HB.out hb); have BG := ak bg; clear hb bg hg)
      | ((with_reducible refine gate_dst (N := 5) rfl ?_); refine box_event ?hg (N := 5) ?hd (cs := #[.int .i64 5, .int .i64 ps, .int .i64 e0.f0, .int .i64 e0.f1, .int .i64 e0.f2, .int .i64 e0.f3]) (t := 53) ?hr ?_; (case hd => rfl); (case hg => rfl); (case hr => first | (go_simp; done) | (go_simp; rfl)); intro g5 hg w2 b5 hb; have HB2 := ak (below_step HB1.out hb); have B5 := ak b5; have BG2 := ak (blk_below BG.out hb); clear hb b5 hg; have k0 := bc0 B5; have k1 := bc1 B5; have k2 := bc0 BG2; have k3 := bc1 BG2)
      | (go_at_call 29; (with_reducible refine (Net_Edge.no p n A cap E ps _ (N0.out.later HB2.out).bp HI.out).mono ?_); rintro e w3 ⟨rfl, hb⟩; have B52 := B5; have HB3 := ak (below_step HB2.out hb); have BG3 := ak (blk_below BG2.out hb); have B53 := ak (blk_below B52.out hb); clear hb)
      | ((with_reducible refine gate_dst (N := 7) rfl ?_); refine box_event ?hg (N := 7) ?hd (cs := #[.int .i64 0, .int .i64 0, .int .i64 0, .int .i64 0]) (t := 39) ?hr ?_; (case hd => rfl); (case hg => rfl); (case hr => first | (go_simp; done) | (go_simp; rfl)); intro ge hg w4 be hb; have HB4 := ak (below_step HB3.out hb); have BG4 := ak (blk_below BG3.out hb); have B54 := ak (blk_below B53.out hb); have BE := ak be; have GE := ak (show W.heap.size ≤ ge by rw [hg]; exact below_size HB3.out); have NE1 := ak (show gg ≠ ge by rw [hg]; exact Nat.ne_of_lt (blk_lt BG3.out)); have NE2 := ak (show g5 ≠ ge by rw [hg]; exact Nat.ne_of_lt (blk_lt B53.out)); clear hb be hg; have l0 := bc0 BE; have l1 := bc1 BE; have l2 := bc2 BE; have l3 := bc3 BE; have l4 := bf BE 0; have l5 := bf BE 1; have l6 := bf BE 2; have l7 := bf BE 3)
      | ((with_reducible refine gate_store (t := 39) (p := 7) rfl ?_); refine store_event (t := 39) (p := 7) (v := ?vs1) (w1 := (((w4.setCell ⟨ge, 0, none⟩ (.int .i64 0)).setCell ⟨ge, 1, none⟩ (.int .i64 0)).setCell ⟨ge, 2, none⟩ (.int .i64 0)).setCell ⟨ge, 3, none⟩ (.int .i64 0)) ?hg ?ho ?hn ?hr ?_; (case ho => rfl); (case hg => rfl); (case hn => rfl); (case hr => first | (go_simp; done) | (go_simp; rfl)); intro w5 hw; have HB5 := ak (show Below W.heap.size W w5 by rw [hw]; exact below_set (below_set (below_set (below_set HB4.out GE.out) GE.out) GE.out) GE.out); have BG5 := ak (show w5.heap[gg]? = some (.cells #[.int .i64 n, .slice Ad E.length cd] 24 (0, 0)) by rw [hw]; exact blk_far (blk_far (blk_far (blk_far BG4.out NE1.out _) NE1.out _) NE1.out _) NE1.out _); have B55 := ak (show w5.heap[g5]? = some (.cells #[.int .i64 5, .int .i64 ps, .int .i64 e0.f0, .int .i64 e0.f1, .int .i64 e0.f2, .int .i64 e0.f3] 53 (0, 0)) by rw [hw]; exact blk_far (blk_far (blk_far (blk_far B54.out NE2.out _) NE2.out _) NE2.out _) NE2.out _); have BE5 := ak (show w5.heap[ge]? = some (.cells #[.int .i64 0, .int .i64 0, .int .i64 0, .int .i64 0] 39 (0, 0)) by rw [hw]; exact blk_put (blk_put (blk_put (blk_put BE.out 0 (.int .i64 0) rfl) 1 (.int .i64 0) rfl) 2 (.int .i64 0) rfl) 3 (.int .i64 0) rfl); clear hw; have m0 := bc0 BE5; have m1 := bc1 BE5; have m2 := bc2 BE5; have m3 := bc3 BE5; have m4 := bc1 BG5; have m5 := bc1 B55))
    go_ret
    exact ⟨rfl, HB5.out⟩
  · have i1 : decide (ps < 0) = false := decide_eq_false (by omega)
    have i2 : decide (ps ≥ (E.length : Int)) = true := decide_eq_true h2
    have i3 : decide ((E.length : Int) ≤ ps) = true := decide_eq_true h2
    clear hj h1 h2
    go_enter Try.func47, Try.ntmps47
    go_wp2_with (first
      | ((with_reducible refine gate_dst (N := 4) rfl ?_); refine box_event ?hg (N := 4) ?hd (cs := #[.int .i64 n, .slice Ad E.length cd]) (t := 24) ?hr ?_; (case hd => rfl); (case hg => rfl); (case hr => first | (go_simp; done) | (go_simp; rfl)); intro gg hg w1 bg hb; have HB1 := ak (below_step HB.out hb); have BG := ak bg; clear hb bg hg)
      | ((with_reducible refine gate_dst (N := 5) rfl ?_); refine box_event ?hg (N := 5) ?hd (cs := #[.int .i64 5, .int .i64 ps, .int .i64 e0.f0, .int .i64 e0.f1, .int .i64 e0.f2, .int .i64 e0.f3]) (t := 53) ?hr ?_; (case hd => rfl); (case hg => rfl); (case hr => first | (go_simp; done) | (go_simp; rfl)); intro g5 hg w2 b5 hb; have HB2 := ak (below_step HB1.out hb); have B5 := ak b5; have BG2 := ak (blk_below BG.out hb); clear hb b5 hg; have k0 := bc0 B5; have k1 := bc1 B5; have k2 := bc0 BG2; have k3 := bc1 BG2)
      | (go_at_call 29; (with_reducible refine (Net_Edge.no p n A cap E ps _ (N0.out.later HB2.out).bp HI.out).mono ?_); rintro e w3 ⟨rfl, hb⟩; have B52 := B5; have HB3 := ak (below_step HB2.out hb); have BG3 := ak (blk_below BG2.out hb); have B53 := ak (blk_below B52.out hb); clear hb)
      | ((with_reducible refine gate_dst (N := 7) rfl ?_); refine box_event ?hg (N := 7) ?hd (cs := #[.int .i64 0, .int .i64 0, .int .i64 0, .int .i64 0]) (t := 39) ?hr ?_; (case hd => rfl); (case hg => rfl); (case hr => first | (go_simp; done) | (go_simp; rfl)); intro ge hg w4 be hb; have HB4 := ak (below_step HB3.out hb); have BG4 := ak (blk_below BG3.out hb); have B54 := ak (blk_below B53.out hb); have BE := ak be; have GE := ak (show W.heap.size ≤ ge by rw [hg]; exact below_size HB3.out); have NE1 := ak (show gg ≠ ge by rw [hg]; exact Nat.ne_of_lt (blk_lt BG3.out)); have NE2 := ak (show g5 ≠ ge by rw [hg]; exact Nat.ne_of_lt (blk_lt B53.out)); clear hb be hg; have l0 := bc0 BE; have l1 := bc1 BE; have l2 := bc2 BE; have l3 := bc3 BE; have l4 := bf BE 0; have l5 := bf BE 1; have l6 := bf BE 2; have l7 := bf BE 3)
      | ((with_reducible refine gate_store (t := 39) (p := 7) rfl ?_); refine store_event (t := 39) (p := 7) (v := ?vs2) (w1 := (((w4.setCell ⟨ge, 0, none⟩ (.int .i64 0)).setCell ⟨ge, 1, none⟩ (.int .i64 0)).setCell ⟨ge, 2, none⟩ (.int .i64 0)).setCell ⟨ge, 3, none⟩ (.int .i64 0)) ?hg ?ho ?hn ?hr ?_; (case ho => rfl); (case hg => rfl); (case hn => rfl); (case hr => first | (go_simp; done) | (go_simp; rfl)); intro w5 hw; have HB5 := ak (show Below W.heap.size W w5 by rw [hw]; exact below_set (below_set (below_set (below_set HB4.out GE.out) GE.out) GE.out) GE.out); have BG5 := ak (show w5.heap[gg]? = some (.cells #[.int .i64 n, .slice Ad E.length cd] 24 (0, 0)) by rw [hw]; exact blk_far (blk_far (blk_far (blk_far BG4.out NE1.out _) NE1.out _) NE1.out _) NE1.out _); have B55 := ak (show w5.heap[g5]? = some (.cells #[.int .i64 5, .int .i64 ps, .int .i64 e0.f0, .int .i64 e0.f1, .int .i64 e0.f2, .int .i64 e0.f3] 53 (0, 0)) by rw [hw]; exact blk_far (blk_far (blk_far (blk_far B54.out NE2.out _) NE2.out _) NE2.out _) NE2.out _); have BE5 := ak (show w5.heap[ge]? = some (.cells #[.int .i64 0, .int .i64 0, .int .i64 0, .int .i64 0] 39 (0, 0)) by rw [hw]; exact blk_put (blk_put (blk_put (blk_put BE.out 0 (.int .i64 0) rfl) 1 (.int .i64 0) rfl) 2 (.int .i64 0) rfl) 3 (.int .i64 0) rfl); clear hw; have m0 := bc0 BE5; have m1 := bc1 BE5; have m2 := bc2 BE5; have m3 := bc3 BE5; have m4 := bc1 BG5; have m5 := bc1 B55))
    go_ret
    exact ⟨rfl, HB5.out⟩
set_option maxHeartbeats 4000000 in
set_option maxRecDepth 100000 in
theorem askOff (u : World) (p : Nat) (n : Int) (A : Option Addr) (cap : Nat) (E : List S39) (Ad : Option Addr) (cd : Nat) (ps : Int) (e0 : S39) (W : World) (h : NS u p n (.slice A E.length cap) E W) (hr : Kd.C k39 W Ad E.length E) (hc : E.length ≤ cd) (hj : ¬ (0 ≤ ps ∧ ps < n)) :
    Calls Try.prog 47 #[.pointer (some ⟨p, 0, none⟩), .agg #[.int .i64 n, .slice Ad E.length cd], .agg #[.int .i64 6, .int .i64 ps, .int .i64 e0.f0, .int .i64 e0.f1, .int .i64 e0.f2, .int .i64 e0.f3]] W fun e w' => e = .returned (.bool true) ∧ Below W.heap.size W w' := by
  have hu24 := Try.underlying24
  have hu39 := Try.underlying39
  have hu22 := Try.underlying22
  have HB := ak (Below.refl W.heap.size W)
  have hu53 := Try.underlying53
  have hu44 := Try.underlying44
  have N0 := ak h
  have HR := ak hr
  have HC := ak hc
  clear h hr hc
  have NI := ak hj
  rcases (by omega : ps < 0 ∨ (0 ≤ ps ∧ n ≤ ps)) with h1 | ⟨h1, h2⟩
  · have i1 : decide (ps < 0) = true := decide_eq_true h1
    clear hj h1
    go_enter Try.func47, Try.ntmps47
    go_wp2_with (first
      | ((with_reducible refine gate_dst (N := 4) rfl ?_); refine box_event ?hg (N := 4) ?hd (cs := #[.int .i64 n, .slice Ad E.length cd]) (t := 24) ?hr ?_; (case hd => rfl); (case hg => rfl); (case hr => first | (go_simp; done) | (go_simp; rfl)); intro gg hg w1 bg hb; have HB1 := ak (below_step HB.out hb); have BG := ak bg; clear hb bg hg)
      | ((with_reducible refine gate_dst (N := 5) rfl ?_); refine box_event ?hg (N := 5) ?hd (cs := #[.int .i64 6, .int .i64 ps, .int .i64 e0.f0, .int .i64 e0.f1, .int .i64 e0.f2, .int .i64 e0.f3]) (t := 53) ?hr ?_; (case hd => rfl); (case hg => rfl); (case hr => first | (go_simp; done) | (go_simp; rfl)); intro g5 hg w2 b5 hb; have HB2 := ak (below_step HB1.out hb); have B5 := ak b5; have BG2 := ak (blk_below BG.out hb); clear hb b5 hg; have k0 := bc0 B5; have k1 := bc1 B5; have k2 := bc0 BG2; have k3 := bc1 BG2)
      | (go_at_call 17; (with_reducible refine (Net_Out.bad p n ps A cap E _ (N0.out.later HB2.out).bp NI.out).mono ?_); rintro e w3 ⟨rfl, hb⟩; have B52 := B5; have HB3 := ak (below_step HB2.out hb); have BG3 := ak (blk_below BG2.out hb); have B53 := ak (blk_below B52.out hb); clear hb; have l0 := bc1 B53; have l1 := bc0 BG3)
      | (go_at_call 18; (with_reducible refine (Net_In.bad p n ps A cap E _ (N0.out.later HB3.out).bp NI.out).mono ?_); rintro e w4 ⟨rfl, hb⟩; have HB4 := ak (below_step HB3.out hb); have BG4 := ak (blk_below BG3.out hb); have B54 := ak (blk_below B53.out hb); clear hb; have m0 := bc1 B54; have m1 := bc0 BG4))
    go_ret
    exact ⟨rfl, HB4.out⟩
  · have i1 : decide (ps < 0) = false := decide_eq_false (by omega)
    have i2 : decide (ps ≥ n) = true := decide_eq_true h2
    have i3 : decide (n ≤ ps) = true := decide_eq_true h2
    clear hj h1 h2
    go_enter Try.func47, Try.ntmps47
    go_wp2_with (first
      | ((with_reducible refine gate_dst (N := 4) rfl ?_); refine box_event ?hg (N := 4) ?hd (cs := #[.int .i64 n, .slice Ad E.length cd]) (t := 24) ?hr ?_; (case hd => rfl); (case hg => rfl); (case hr => first | (go_simp; done) | (go_simp; rfl)); intro gg hg w1 bg hb; have HB1 := ak (below_step HB.out hb); have BG := ak bg; clear hb bg hg)
      | ((with_reducible refine gate_dst (N := 5) rfl ?_); refine box_event ?hg (N := 5) ?hd (cs := #[.int .i64 6, .int .i64 ps, .int .i64 e0.f0, .int .i64 e0.f1, .int .i64 e0.f2, .int .i64 e0.f3]) (t := 53) ?hr ?_; (case hd => rfl); (case hg => rfl); (case hr => first | (go_simp; done) | (go_simp; rfl)); intro g5 hg w2 b5 hb; have HB2 := ak (below_step HB1.out hb); have B5 := ak b5; have BG2 := ak (blk_below BG.out hb); clear hb b5 hg; have k0 := bc0 B5; have k1 := bc1 B5; have k2 := bc0 BG2; have k3 := bc1 BG2)
      | (go_at_call 17; (with_reducible refine (Net_Out.bad p n ps A cap E _ (N0.out.later HB2.out).bp NI.out).mono ?_); rintro e w3 ⟨rfl, hb⟩; have B52 := B5; have HB3 := ak (below_step HB2.out hb); have BG3 := ak (blk_below BG2.out hb); have B53 := ak (blk_below B52.out hb); clear hb; have l0 := bc1 B53; have l1 := bc0 BG3)
      | (go_at_call 18; (with_reducible refine (Net_In.bad p n ps A cap E _ (N0.out.later HB3.out).bp NI.out).mono ?_); rintro e w4 ⟨rfl, hb⟩; have HB4 := ak (below_step HB3.out hb); have BG4 := ak (blk_below BG3.out hb); have B54 := ak (blk_below B53.out hb); clear hb; have m0 := bc1 B54; have m1 := bc0 BG4))
    go_ret
    exact ⟨rfl, HB4.out⟩
set_option maxHeartbeats 4000000 in
set_option maxRecDepth 100000 in
theorem askOn (k : Nat) (X : List S39) (u : World) (p : Nat) (n : Int) (A : Option Addr) (cap : Nat) (E : List S39) (Ad : Option Addr) (cd : Nat) (ps : Int) (e0 : S39) (W : World) (h : NS u p n (.slice A E.length cap) E W) (hr : Kd.C k39 W Ad E.length E) (hc : E.length ≤ cd) (h0 : 0 ≤ ps) (h1 : ps < n) (hl : E.length ≤ 4096) (rv : compassref03_Reverse.f k n E = some (n, X)) (hX : X.length ≤ 4096) (io : outs ps X = ins ps E) :
    Calls Try.prog 47 #[.pointer (some ⟨p, 0, none⟩), .agg #[.int .i64 n, .slice Ad E.length cd], .agg #[.int .i64 6, .int .i64 ps, .int .i64 e0.f0, .int .i64 e0.f1, .int .i64 e0.f2, .int .i64 e0.f3]] W fun e w' => e = .returned (.bool true) ∧ Below W.heap.size W w' := by
  have hu24 := Try.underlying24
  have hu39 := Try.underlying39
  have hu22 := Try.underlying22
  have HB := ak (Below.refl W.heap.size W)
  have hu53 := Try.underlying53
  have hu44 := Try.underlying44
  have N0 := ak h
  have HR := ak hr
  have HC := ak hc
  clear h hr hc
  have i1 : decide (ps < 0) = false := decide_eq_false (by omega)
  have i2 : decide (ps ≥ n) = false := decide_eq_false (by omega)
  have i3 : decide (n ≤ ps) = false := decide_eq_false (by omega)
  have H0 := ak h0
  have H1 := ak h1
  have HL := ak (show E.length < 4398046511104 by omega)
  have HL2 := ak hl
  have HX := ak hX
  have RV := ak rv
  have IO := ak io
  have LO := ak (show (outs ps E).length < 4398046511104 by have := pick_len (fun e => e.f0 == ps) E E.length; unfold outs; omega)
  have LI := ak (show (ins ps E).length < 4398046511104 by have := pick_len (fun e => e.f1 == ps) E E.length; unfold ins; omega)
  clear h0 h1 hl rv hX io
  go_enter Try.func47, Try.ntmps47
  go_wp2_with (first
    | ((with_reducible refine gate_dst (N := 4) rfl ?_); refine box_event ?hg (N := 4) ?hd (cs := #[.int .i64 n, .slice Ad E.length cd]) (t := 24) ?hr ?_; (case hd => rfl); (case hg => rfl); (case hr => first | (go_simp; done) | (go_simp; rfl)); intro gg hg w1 bg hb; have HB1 := ak (below_step HB.out hb); have BG := ak bg; clear hb bg hg)
    | ((with_reducible refine gate_dst (N := 5) rfl ?_); refine box_event ?hg (N := 5) ?hd (cs := #[.int .i64 6, .int .i64 ps, .int .i64 e0.f0, .int .i64 e0.f1, .int .i64 e0.f2, .int .i64 e0.f3]) (t := 53) ?hr ?_; (case hd => rfl); (case hg => rfl); (case hr => first | (go_simp; done) | (go_simp; rfl)); intro g5 hg w2 b5 hb; have HB2 := ak (below_step HB1.out hb); have B5 := ak b5; have BG2 := ak (blk_below BG.out hb); clear hb b5 hg; have k0 := bc0 B5; have k1 := bc1 B5; have k2 := bc0 BG2; have k3 := bc1 BG2)
    | (go_at_call 17; (with_reducible refine (Net_Out.good p n ps A cap E _ (N0.out.later HB2.out).bp (Kd.R_reads' (N0.out.later HB2.out).row).2.2 (Kd.R_reads' N0.out.row).2.1 HL.out H0.out H1.out).mono ?_); rintro e w3 ⟨u1, rfl, r1, hb⟩; obtain ⟨A1, c1, ev1⟩ := Kd.R_slice r1; subst ev1; have R1 := ak r1; have B52 := B5; have HB3 := ak (below_step HB2.out hb); have BG3 := ak (blk_below BG2.out hb); have B53 := ak (blk_below B52.out hb); clear hb r1; have l0 := bc1 B53; have l1 := bc0 BG3)
    | (go_at_call 18; (with_reducible refine (Net_In.good p n ps A cap E _ (N0.out.later HB3.out).bp (Kd.R_reads' (N0.out.later HB3.out).row).2.2 (Kd.R_reads' N0.out.row).2.1 HL.out H0.out H1.out).mono ?_); rintro e w4 ⟨u2, rfl, r2, hb⟩; obtain ⟨A2, c2, ev2⟩ := Kd.R_slice r2; subst ev2; have R2 := ak r2; have R1b := ak (Kd.R_below R1.out hb); have HB4 := ak (below_step HB3.out hb); have BG4 := ak (blk_below BG3.out hb); have B54 := ak (blk_below B53.out hb); clear hb r2; have m0 := bc1 B54; have m1 := bc0 BG4; have m2 := bc1 BG4)
    | (go_at_call 50; (with_reducible refine (refOut.calls n ps _ _ E _ (Kd.C_below HR.out HB4.out) HC.out HL2.out).mono ?_); rintro e w5 ⟨u3, rfl, r3, hb⟩; obtain ⟨A3, c3, ev3⟩ := Kd.R_slice r3; subst ev3; have R3 := ak r3; have R1c := ak (Kd.R_below R1b.out hb); have R2c := ak (Kd.R_below R2.out hb); have HB5 := ak (below_step HB4.out hb); have BG5 := ak (blk_below BG4.out hb); have B55 := ak (blk_below B54.out hb); clear hb r3)
    | (go_at_call 19; have NX := R3; (with_reducible refine (compasslaw03_ints.same _ _ _ _ (outs ps E) _ (Kd.R_reads' R1c.out).2.2 (Kd.R_reads' R3.out).2.2 LO.out).mono ?_); rintro e w6 ⟨rfl, hb⟩; have R2d := ak (Kd.R_below R2c.out hb); have HB6 := ak (below_step HB5.out hb); have BG6 := ak (blk_below BG5.out hb); have B56 := ak (blk_below B55.out hb); clear hb R3; have o0 := bc1 B56; have o1 := bc0 BG6; have o2 := bc1 BG6)
    | (go_at_call 51; (with_reducible refine (refIn.calls k n ps _ _ E X _ (Kd.C_below HR.out HB6.out) HC.out RV.out HX.out).mono ?_); rintro e w7 ⟨u4, rfl, r4, hb⟩; rw [IO.out] at r4; obtain ⟨A4, c4, ev4⟩ := Kd.R_slice r4; subst ev4; have R4 := ak r4; have R2e := ak (Kd.R_below R2d.out hb); have HB7 := ak (below_step HB6.out hb); have BG7 := ak (blk_below BG6.out hb); have B57 := ak (blk_below B56.out hb); clear hb r4)
    | (go_at_call 19; (with_reducible refine (compasslaw03_ints.same _ _ _ _ (ins ps E) _ (Kd.R_reads' R2e.out).2.2 (Kd.R_reads' R4.out).2.2 LI.out).mono ?_); rintro e w8 ⟨rfl, hb⟩; have HB8 := ak (below_step HB7.out hb); have BG8 := ak (blk_below BG7.out hb); have B58 := ak (blk_below B57.out hb); clear hb))
  go_ret
  exact ⟨rfl, HB8.out⟩
end Go.Proofs.Ytpmclhkednehhaa.Q
