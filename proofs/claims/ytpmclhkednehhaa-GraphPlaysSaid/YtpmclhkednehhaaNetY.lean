/- The document's AddEdge and SetEdge: typed by hand (by wip/tools/genX.py). -/
import Derived.Test.YtpmclhkednehhaaQ10
import Derived.Test.YtpmclhkednehhaaQ26
import Derived.Test.YtpmclhkednehhaaNetX
set_option linter.unusedVariables false
set_option linter.unusedSimpArgs false
namespace Go.Proofs.Ytpmclhkednehhaa.Q
open Go.RowKit Go.Proofs.YtpmclhkednehhaaW.PrintWords Go.Proofs.YtpmclhkednehhaaW.PrintLast Go.Proofs.YtpmclhkednehhaaW.PrintMore
set_option maxHeartbeats 4000000 in
set_option maxRecDepth 100000 in
theorem refAddEdge.full (k : Nat) (n : Int) (A : Option Addr) (c : Nat) (E : List S39) (e0 : S39) (W : World) (a : E.length = 4096) :
    Calls Try.prog 43 #[.agg #[.int .i64 n, .slice A E.length c], .agg #[.int .i64 e0.f0, .int .i64 e0.f1, .int .i64 e0.f2, .int .i64 e0.f3]] W fun e w' => e = .returned (.tuple #[.agg #[.int .i64 n, .slice A E.length c], .int .i64 0, .int .i64 3]) ∧ Below W.heap.size W w' := by
  have hu24 := Try.underlying24
  have hu39 := Try.underlying39
  have hu22 := Try.underlying22
  have HB := ak (Below.refl W.heap.size W)
  have d1 : decide ((E.length : Int) ≥ 4096) = true := decide_eq_true (by omega)
  have d2 : decide ((4096 : Int) ≤ (E.length : Int)) = true := decide_eq_true (by omega)
  have d3 : decide (4096 ≤ E.length) = true := decide_eq_true (by omega)
  go_enter Try.func43, Try.ntmps43
  go_wp2_with (first
    | ((with_reducible refine gate_dst (N := 2) rfl ?_); refine box_event ?hg (N := 2) ?hd (cs := #[.int .i64 n, .slice A E.length c]) (t := 24) ?hr ?_; (case hd => rfl); (case hg => rfl); (case hr => first | (go_simp; done) | (go_simp; rfl)); intro gg hg w1 bg hb; have HB1 := ak (below_step HB.out hb); have BG := ak bg; clear hb bg hg)
    | ((with_reducible refine gate_dst (N := 3) rfl ?_); refine box_event ?hg (N := 3) ?hd (cs := #[.int .i64 e0.f0, .int .i64 e0.f1, .int .i64 e0.f2, .int .i64 e0.f3]) (t := 39) ?hr ?_; (case hd => rfl); (case hg => rfl); (case hr => first | (go_simp; done) | (go_simp; rfl)); intro ge hg w2 be hb; have HB2 := ak (below_step HB1.out hb); have BE := ak be; have BG2 := ak (blk_below BG.out hb); clear hb be hg)
    | ((with_reducible refine gate_dst (N := 4) rfl ?_); refine box_event ?hg (N := 4) ?hd (cs := #[.int .i64 0, .slice none 0 0]) (t := 24) ?hr ?_; (case hd => rfl); (case hg => rfl); (case hr => first | (go_simp; done) | (go_simp; rfl)); intro gr hg w3 br hb; have HB3 := ak (below_step HB2.out hb); have BR := ak br; have GR := ak (show W.heap.size ≤ gr by rw [hg]; exact below_size HB2.out); have NR := ak (show gg ≠ gr by rw [hg]; exact Nat.ne_of_lt (blk_lt BG2.out)); have NE := ak (show ge ≠ gr by rw [hg]; exact Nat.ne_of_lt (blk_lt BE.out)); have BG3 := ak (blk_below BG2.out hb); have BE3 := ak (blk_below BE.out hb); clear hb br hg; have k0 := bc0 BG3; have k1 := bc1 BG3; have k2 := bc0 BR; have k3 := bc1 BR; have k4 := bf BR 0; have k5 := bf BR 1; have j0 := bc0 BE3; have j1 := bc1 BE3; have j2 := bc2 BE3; have j3 := bc3 BE3)
    | ((with_reducible refine gate_store (t := 24) (p := 4) rfl ?_); refine store_event (t := 24) (p := 4) (v := ?vb) (w1 := (w3.setCell ⟨gr, 0, none⟩ (.int .i64 n)).setCell ⟨gr, 1, none⟩ (.slice A E.length c)) ?hg ?ho ?hn ?hr ?_; (case ho => rfl); (case hg => rfl); (case hn => rfl); (case hr => first | (go_simp; done) | (go_simp; rfl)); intro w4 hw; have HBz := ak (show Below W.heap.size W w4 by rw [hw]; exact below_set (below_set HB3.out GR.out) GR.out); have BRz := ak (show w4.heap[gr]? = some (.cells #[.int .i64 n, .slice A E.length c] 24 (0, 0)) by rw [hw]; exact blk_put (blk_put BR.out 0 _ rfl) 1 _ rfl); have y0 := bc0 BRz; have y1 := bc1 BRz; clear hw))
  exact bodyPost_ret (v := .tuple #[.agg #[.int .i64 n, .slice A E.length c], .int .i64 0, .int .i64 3]) (by simp [results, Try.results43, go_sem, y0, y1]) rfl ⟨rfl, HBz.out⟩
set_option maxHeartbeats 4000000 in
set_option maxRecDepth 100000 in
theorem refAddEdge.bad (k : Nat) (n : Int) (A : Option Addr) (c : Nat) (E : List S39) (e0 : S39) (W : World) (cd : Int) (bd : compassref03_Bad.f k n e0.f0 e0.f1 e0.f2 e0.f3 = some cd) (hcd : cd ≠ 0) (a : E.length < 4096) :
    Calls Try.prog 43 #[.agg #[.int .i64 n, .slice A E.length c], .agg #[.int .i64 e0.f0, .int .i64 e0.f1, .int .i64 e0.f2, .int .i64 e0.f3]] W fun e w' => e = .returned (.tuple #[.agg #[.int .i64 n, .slice A E.length c], .int .i64 0, .int .i64 cd]) ∧ Below W.heap.size W w' := by
  have hu24 := Try.underlying24
  have hu39 := Try.underlying39
  have hu22 := Try.underlying22
  have HB := ak (Below.refl W.heap.size W)
  have BD := ak bd
  clear bd
  have e1 : (cd != 0) = true := bne_iff_ne.mpr hcd
  have e2 : (cd == 0) = false := beq_eq_false_iff_ne.mpr hcd
  clear hcd
  have d1 : decide ((E.length : Int) ≥ 4096) = false := decide_eq_false (by omega)
  have d2 : decide ((4096 : Int) ≤ (E.length : Int)) = false := decide_eq_false (by omega)
  have d3 : decide (4096 ≤ E.length) = false := decide_eq_false (by omega)
  go_enter Try.func43, Try.ntmps43
  go_wp2_with (first
    | ((with_reducible refine gate_dst (N := 2) rfl ?_); refine box_event ?hg (N := 2) ?hd (cs := #[.int .i64 n, .slice A E.length c]) (t := 24) ?hr ?_; (case hd => rfl); (case hg => rfl); (case hr => first | (go_simp; done) | (go_simp; rfl)); intro gg hg w1 bg hb; have HB1 := ak (below_step HB.out hb); have BG := ak bg; clear hb bg hg)
    | ((with_reducible refine gate_dst (N := 3) rfl ?_); refine box_event ?hg (N := 3) ?hd (cs := #[.int .i64 e0.f0, .int .i64 e0.f1, .int .i64 e0.f2, .int .i64 e0.f3]) (t := 39) ?hr ?_; (case hd => rfl); (case hg => rfl); (case hr => first | (go_simp; done) | (go_simp; rfl)); intro ge hg w2 be hb; have HB2 := ak (below_step HB1.out hb); have BE := ak be; have BG2 := ak (blk_below BG.out hb); clear hb be hg)
    | ((with_reducible refine gate_dst (N := 4) rfl ?_); refine box_event ?hg (N := 4) ?hd (cs := #[.int .i64 0, .slice none 0 0]) (t := 24) ?hr ?_; (case hd => rfl); (case hg => rfl); (case hr => first | (go_simp; done) | (go_simp; rfl)); intro gr hg w3 br hb; have HB3 := ak (below_step HB2.out hb); have BR := ak br; have GR := ak (show W.heap.size ≤ gr by rw [hg]; exact below_size HB2.out); have NR := ak (show gg ≠ gr by rw [hg]; exact Nat.ne_of_lt (blk_lt BG2.out)); have NE := ak (show ge ≠ gr by rw [hg]; exact Nat.ne_of_lt (blk_lt BE.out)); have BG3 := ak (blk_below BG2.out hb); have BE3 := ak (blk_below BE.out hb); clear hb br hg; have k0 := bc0 BG3; have k1 := bc1 BG3; have k2 := bc0 BR; have k3 := bc1 BR; have k4 := bf BR 0; have k5 := bf BR 1; have j0 := bc0 BE3; have j1 := bc1 BE3; have j2 := bc2 BE3; have j3 := bc3 BE3)
    | (go_at_call 31; (with_reducible refine (compassref03_Bad.calls k n e0.f0 e0.f1 e0.f2 e0.f3 cd _ BD.out).mono ?_); rintro e w4 ⟨rfl, hb⟩; have HB4 := ak (below_step HB3.out hb); have BR4 := ak (blk_below BR.out hb); have BG4 := ak (blk_below BG3.out hb); have BE4 := ak (blk_below BE3.out hb); clear hb; have m0 := bc0 BG4; have m1 := bc1 BG4; have m2 := bc0 BR4; have m3 := bc1 BR4; have m4 := bf BR4 0; have m5 := bf BR4 1; have m6 := bc0 BE4; have m7 := bc1 BE4; have m8 := bc2 BE4; have m9 := bc3 BE4)
    | ((with_reducible refine gate_store (t := 24) (p := 4) rfl ?_); refine store_event (t := 24) (p := 4) (v := ?vb) (w1 := (w4.setCell ⟨gr, 0, none⟩ (.int .i64 n)).setCell ⟨gr, 1, none⟩ (.slice A E.length c)) ?hg ?ho ?hn ?hr ?_; (case ho => rfl); (case hg => rfl); (case hn => rfl); (case hr => first | (go_simp; done) | (go_simp; rfl)); intro w5 hw; have HBz := ak (show Below W.heap.size W w5 by rw [hw]; exact below_set (below_set HB4.out GR.out) GR.out); have BRz := ak (show w5.heap[gr]? = some (.cells #[.int .i64 n, .slice A E.length c] 24 (0, 0)) by rw [hw]; exact blk_put (blk_put BR4.out 0 _ rfl) 1 _ rfl); have y0 := bc0 BRz; have y1 := bc1 BRz; clear hw))
  exact bodyPost_ret (v := .tuple #[.agg #[.int .i64 n, .slice A E.length c], .int .i64 0, .int .i64 cd]) (by simp [results, Try.results43, go_sem, y0, y1]) rfl ⟨rfl, HBz.out⟩
set_option maxHeartbeats 4000000 in
set_option maxRecDepth 100000 in
theorem refAddEdge.more (k : Nat) (n : Int) (A : Option Addr) (c : Nat) (E : List S39) (e0 : S39) (W : World) (hr : Kd.C k39 W A E.length E) (hc : E.length ≤ c) (cp : compassref03_Copy.f k n E = some (n, E)) (bd : compassref03_Bad.f k n e0.f0 e0.f1 e0.f2 e0.f3 = some 0) (a : E.length < 4096) :
    Calls Try.prog 43 #[.agg #[.int .i64 n, .slice A E.length c], .agg #[.int .i64 e0.f0, .int .i64 e0.f1, .int .i64 e0.f2, .int .i64 e0.f3]] W fun e w' => ∃ (A' : Option Addr) (c' : Nat), e = .returned (.tuple #[.agg #[.int .i64 n, .slice A' (E.length + 1) c'], .int .i64 (E.length : Int), .int .i64 0]) ∧ Below W.heap.size W w' ∧ Kd.R k39 39 w' W.heap.size (fun _ => True) (.slice A' (E.length + 1) c') (E ++ [e0]) := by
  have hu24 := Try.underlying24
  have hu39 := Try.underlying39
  have hu22 := Try.underlying22
  have HB := ak (Below.refl W.heap.size W)
  have BD := ak bd
  have HR := ak hr
  have HC := ak hc
  have CP := ak cp
  clear bd hr hc cp
  have d1 : decide ((E.length : Int) ≥ 4096) = false := decide_eq_false (by omega)
  have d2 : decide ((4096 : Int) ≤ (E.length : Int)) = false := decide_eq_false (by omega)
  have d3 : decide (4096 ≤ E.length) = false := decide_eq_false (by omega)
  go_enter Try.func43, Try.ntmps43
  go_wp2_with (first
    | ((with_reducible refine gate_dst (N := 2) rfl ?_); refine box_event ?hg (N := 2) ?hd (cs := #[.int .i64 n, .slice A E.length c]) (t := 24) ?hr ?_; (case hd => rfl); (case hg => rfl); (case hr => first | (go_simp; done) | (go_simp; rfl)); intro gg hg w1 bg hb; have HB1 := ak (below_step HB.out hb); have BG := ak bg; clear hb bg hg)
    | ((with_reducible refine gate_dst (N := 3) rfl ?_); refine box_event ?hg (N := 3) ?hd (cs := #[.int .i64 e0.f0, .int .i64 e0.f1, .int .i64 e0.f2, .int .i64 e0.f3]) (t := 39) ?hr ?_; (case hd => rfl); (case hg => rfl); (case hr => first | (go_simp; done) | (go_simp; rfl)); intro ge hg w2 be hb; have HB2 := ak (below_step HB1.out hb); have BE := ak be; have BG2 := ak (blk_below BG.out hb); clear hb be hg)
    | ((with_reducible refine gate_dst (N := 4) rfl ?_); refine box_event ?hg (N := 4) ?hd (cs := #[.int .i64 0, .slice none 0 0]) (t := 24) ?hr ?_; (case hd => rfl); (case hg => rfl); (case hr => first | (go_simp; done) | (go_simp; rfl)); intro gr hg w3 br hb; have HB3 := ak (below_step HB2.out hb); have BR := ak br; have GR := ak (show W.heap.size ≤ gr by rw [hg]; exact below_size HB2.out); have NR := ak (show gg ≠ gr by rw [hg]; exact Nat.ne_of_lt (blk_lt BG2.out)); have NE := ak (show ge ≠ gr by rw [hg]; exact Nat.ne_of_lt (blk_lt BE.out)); have BG3 := ak (blk_below BG2.out hb); have BE3 := ak (blk_below BE.out hb); clear hb br hg; have k0 := bc0 BG3; have k1 := bc1 BG3; have k2 := bc0 BR; have k3 := bc1 BR; have k4 := bf BR 0; have k5 := bf BR 1; have j0 := bc0 BE3; have j1 := bc1 BE3; have j2 := bc2 BE3; have j3 := bc3 BE3)
    | (go_at_call 31; (with_reducible refine (compassref03_Bad.calls k n e0.f0 e0.f1 e0.f2 e0.f3 0 _ BD.out).mono ?_); rintro e w4 ⟨rfl, hb⟩; have HB4 := ak (below_step HB3.out hb); have BR4 := ak (blk_below BR.out hb); have BG4 := ak (blk_below BG3.out hb); have BE4 := ak (blk_below BE3.out hb); clear hb; have m0 := bc0 BG4; have m1 := bc1 BG4; have m2 := bc0 BR4; have m3 := bc1 BR4; have m4 := bf BR4 0; have m5 := bf BR4 1; have m6 := bc0 BE4; have m7 := bc1 BE4; have m8 := bc2 BE4; have m9 := bc3 BE4)
    | (go_at_call 15; (with_reducible refine (compassref03_Copy.calls k n _ _ E n E _ (Kd.C_below HR.out HB4.out) HC.out CP.out).mono ?_); rintro e w5 ⟨v1, rfl, r1, hb⟩; obtain ⟨A1, c1, e1⟩ := Kd.R_slice r1; subst e1; have ER := ak (show some ge ≠ (Value.slice A1 E.length c1).ownBlock from fun q => by have := Kd.R_base r1 ge q.symm; have := blk_lt BE4.out; omega); have R1 := ak (Kd.R_lower r1 (below_size HB4.out)); have HB5 := ak (below_step HB4.out hb); have BR5 := ak (blk_below BR4.out hb); have BG5 := ak (blk_below BG4.out hb); have BE5 := ak (blk_below BE4.out hb); clear hb r1)
    | ((with_reducible refine gate_dst (N := 8) rfl ?_); refine box_event ?hg (N := 8) ?hd (cs := #[.int .i64 0, .slice none 0 0]) (t := 24) ?hr ?_; (case hd => rfl); (case hg => rfl); (case hr => first | (go_simp; done) | (go_simp; rfl)); intro go hg w6 bo hb; have HB6 := ak (below_step HB5.out hb); have BO := ak bo; have GO := ak (show W.heap.size ≤ go by rw [hg]; exact below_size HB5.out); have NO1 := ak (show gr ≠ go by rw [hg]; exact Nat.ne_of_lt (blk_lt BR5.out)); have NO2 := ak (show gg ≠ go by rw [hg]; exact Nat.ne_of_lt (blk_lt BG5.out)); have NO3 := ak (show ge ≠ go by rw [hg]; exact Nat.ne_of_lt (blk_lt BE5.out)); have BR6 := ak (blk_below BR5.out hb); have BG6 := ak (blk_below BG5.out hb); have BE6 := ak (blk_below BE5.out hb); have R6 := ak (Kd.R_below R1.out hb); clear hb bo hg; have u0 := bc0 BO; have u1 := bc1 BO; have u2 := bf BO 0; have u3 := bf BO 1)
    | ((with_reducible refine gate_store (t := 24) (p := 8) rfl ?_); refine store_event (t := 24) (p := 8) (v := ?vo8) (w1 := (w6.setCell ⟨go, 0, none⟩ (.int .i64 n)).setCell ⟨go, 1, none⟩ (.slice A1 E.length c1)) ?hg ?ho ?hn ?hr ?_; (case ho => rfl); (case hg => rfl); (case hn => rfl); (case hr => first | (go_simp; done) | (go_simp; rfl)); intro w7 hw; have HB7 := ak (show Below W.heap.size W w7 by rw [hw]; exact below_set (below_set HB6.out GO.out) GO.out); have BO7 := ak (show w7.heap[go]? = some (.cells #[.int .i64 n, .slice A1 E.length c1] 24 (0, 0)) by rw [hw]; exact blk_put (blk_put BO.out 0 _ rfl) 1 _ rfl); have BR7 := ak (show w7.heap[gr]? = some (.cells #[.int .i64 0, .slice none 0 0] 24 (0, 0)) by rw [hw]; exact blk_far (blk_far BR6.out NO1.out _) NO1.out _); have BG7 := ak (show w7.heap[gg]? = some (.cells #[.int .i64 n, .slice A E.length c] 24 (0, 0)) by rw [hw]; exact blk_far (blk_far BG6.out NO2.out _) NO2.out _); have BE7 := ak (show w7.heap[ge]? = some (.cells #[.int .i64 e0.f0, .int .i64 e0.f1, .int .i64 e0.f2, .int .i64 e0.f3] 39 (0, 0)) by rw [hw]; exact blk_far (blk_far BE6.out NO3.out _) NO3.out _); have R7 := ak (show Kd.R k39 39 w7 W.heap.size (fun _ => True) (.slice A1 E.length c1) E by rw [hw]; exact Kd.R_set (Kd.R_set R6.out BO.out (by decide) 0 _) (blk_put BO.out 0 _ rfl) (by decide) 1 _); clear hw; have z0 := bc0 BO7; have z1 := bc1 BO7; have z2 := bf BO7 1; have z3 := bc0 BE7; have z4 := bc1 BE7; have z5 := bc2 BE7; have z6 := bc3 BE7)
    | ((with_reducible refine gate_builtin (b := .append) (xs := #[.tmp 25, .tmp 27]) rfl ?_); at_builtin; refine Kd.R_append k39 (w0 := W) W.heap.size rfl (.tmp 25) (.tmp 27) 22 39 (.agg #[(.int .i64 0), (.int .i64 0), (.int .i64 0), (.int .i64 0)]) 32 rfl Try.underlying22 info39 rfl (by decide) (by omega) (.slice A1 E.length c1) E e0 [.int .i64 e0.f0, .int .i64 e0.f1, .int .i64 e0.f2, .int .i64 e0.f3] (fun _ => True) (fun _ => False) rfl (by first | (go_simp; done) | (go_simp; rfl)) ?aP (fun _ hk => hk.elim) (fun _ _ => trivial) ?aO ?aB ?aS ?aL ?_; (case aP => exact k39_mkM _ _ _ e0); (case aB => exact HB7.out); (case aO => exact R7.out); (case aS => exact below_size HB7.out); (case aL => omega); intro v8 w8 ho hb hg hat; obtain ⟨A8, c8, e8⟩ := Kd.R_slice ho; rw [List.length_append, List.length_singleton] at e8; subst e8; have R8 := ak ho; have HB8 := ak hb; have BO8 := ak (blk_grown BO7.out hg (Kd.R_ne R7.out BO7.out (by decide))); have BR8 := ak (blk_grown BR7.out hg (Kd.R_ne R7.out BR7.out (by decide))); have BG8 := ak (blk_grown BG7.out hg (Kd.R_ne R7.out BG7.out (by decide))); clear ho hb hg hat; have q0 := bc1 BO8; have q1 := bf BO8 1)
    | ((with_reducible refine gate_store (t := 22) (p := 29) rfl ?_); refine store_event (t := 22) (p := 29) (v := ?vp) (w1 := w8.setCell ⟨go, 1, none⟩ (.slice A8 (E.length + 1) c8)) ?hg ?ho ?hn ?hr ?_; (case ho => rfl); (case hg => rfl); (case hn => rfl); (case hr => first | (go_simp; done) | (go_simp; rfl)); intro w9 hw; have HB9 := ak (show Below W.heap.size W w9 by rw [hw]; exact below_set HB8.out GO.out); have BO9 := ak (show w9.heap[go]? = some (.cells #[.int .i64 n, .slice A8 (E.length + 1) c8] 24 (0, 0)) by rw [hw]; exact blk_put BO8.out 1 _ rfl); have BR9 := ak (show w9.heap[gr]? = some (.cells #[.int .i64 0, .slice none 0 0] 24 (0, 0)) by rw [hw]; exact blk_far BR8.out NO1.out _); have BG9 := ak (show w9.heap[gg]? = some (.cells #[.int .i64 n, .slice A E.length c] 24 (0, 0)) by rw [hw]; exact blk_far BG8.out NO2.out _); have R9 := ak (show Kd.R k39 39 w9 W.heap.size (fun _ => True) (.slice A8 (E.length + 1) c8) (E ++ [e0]) by rw [hw]; exact Kd.R_set R8.out BO8.out (by decide) 1 _); clear hw))
  clear k0 k1 k2 k3 k4 k5 j0 j1 j2 j3 m0 m1 m2 m3 m4 m5 m6 m7 m8 m9 u0 u1 u2 u3 z0 z1 z2 z3 z4 z5 z6 q0 q1
  have u0 := bc0 BR9
  have u1 := bc1 BR9
  have u2 := bf BR9 0
  have u3 := bf BR9 1
  have n1 := NO1.out
  have n2 : go ≠ gr := fun h => NO1.out h.symm
  have n3 := NR.out
  have n4 : gr ≠ gg := fun h => NR.out h.symm
  go_region_held3 (fun w' => w'.cell? ⟨go, 0, none⟩ = some (.int .i64 n) ∧ w'.cell? ⟨go, 1, none⟩ = some (.slice A8 (E.length + 1) c8) ∧ w'.cell? ⟨gg, 1, none⟩ = some (.slice A E.length c)) (first | exact ⟨bc0 (ak (bx BO9.out)), bc1 (ak (bx BO9.out)), bc1 (ak (bx BG9.out))⟩ | exact ⟨bc0 (ak (blk_far (blk_far (bx BO9.out) n2 _) n2 _)), bc1 (ak (blk_far (blk_far (bx BO9.out) n2 _) n2 _)), bc1 (ak (blk_far (blk_far (bx BG9.out) n3 _) n3 _))⟩) (fail)
  have b1 := blk_put (blk_put BR9.out 0 (.int .i64 n) rfl) 1 (.slice A8 (E.length + 1) c8) rfl
  have k20 := (blk_cell b1 0).trans rfl
  have k21 := (blk_cell b1 1).trans rfl
  go_wp2
  exact bodyPost_ret (v := .tuple #[.agg #[.int .i64 n, .slice A8 (E.length + 1) c8], .int .i64 (E.length : Int), .int .i64 0]) (by simp [results, Try.results43, go_sem, k20, k21]) rfl ⟨_, _, rfl, by first | exact below_drew (below_set (below_set HB9.out GR.out) GR.out) | exact below_set (below_set (below_drew HB9.out) GR.out) GR.out, by first | exact Kd.R_drew (Kd.R_set (Kd.R_set R9.out BR9.out (by decide) 0 _) (blk_put BR9.out 0 _ rfl) (by decide) 1 _) | exact Kd.R_set (Kd.R_set (Kd.R_drew R9.out) (blk_drew BR9.out) (by decide) 0 _) (blk_put (blk_drew BR9.out) 0 _ rfl) (by decide) 1 _⟩
theorem refAddEdge.calls (k : Nat) (n : Int) (A : Option Addr) (c : Nat) (E : List S39) (e0 : S39) (W : World) (hr : Kd.C k39 W A E.length E) (hc : E.length ≤ c) (cp : compassref03_Copy.f k n E = some (n, E)) (bd : compassref03_Bad.f k n e0.f0 e0.f1 e0.f2 e0.f3 = some (fitE n e0)) (a : E.length ≤ 4096) :
    Calls Try.prog 43 #[.agg #[.int .i64 n, .slice A E.length c], .agg #[.int .i64 e0.f0, .int .i64 e0.f1, .int .i64 e0.f2, .int .i64 e0.f3]] W fun e w' => ∃ (A' : Option Addr) (c' : Nat), e = .returned (.tuple #[.agg #[.int .i64 n, .slice A' (addI n E e0).2.2.length c'], .int .i64 (addI n E e0).1, .int .i64 (addI n E e0).2.1]) ∧ Below W.heap.size W w' ∧ Res W w' A c E A' c' (addI n E e0).2.2 := by
  unfold addI
  by_cases h : E.length = 4096
  · rw [if_pos h]
    refine (refAddEdge.full k n A c E e0 W h).mono ?_
    rintro e w' ⟨rfl, hb⟩
    exact ⟨A, c, rfl, hb, .inl ⟨rfl, rfl, rfl⟩⟩
  · rw [if_neg h]
    by_cases b : fitE n e0 = 0
    · rw [if_pos b]
      rw [b] at bd
      refine (refAddEdge.more k n A c E e0 W hr hc cp bd (by omega)).mono ?_
      rintro e w' ⟨A', c', rfl, hb, r⟩
      have len : (E ++ [e0]).length = E.length + 1 := by rw [List.length_append, List.length_singleton]
      exact ⟨A', c', by rw [len], hb, .inr (by rw [len]; exact r)⟩
    · rw [if_neg b]
      refine (refAddEdge.bad k n A c E e0 W _ bd b (by omega)).mono ?_
      rintro e w' ⟨rfl, hb⟩
      exact ⟨A, c, rfl, hb, .inl ⟨rfl, rfl, rfl⟩⟩
set_option maxHeartbeats 4000000 in
set_option maxRecDepth 100000 in
theorem refSetEdge.out (k : Nat) (n : Int) (A : Option Addr) (c : Nat) (E : List S39) (i : Int) (e0 : S39) (W : World) (h : ¬ (0 ≤ i ∧ i < (E.length : Int))) :
    Calls Try.prog 44 #[.agg #[.int .i64 n, .slice A E.length c], .int .i64 i, .agg #[.int .i64 e0.f0, .int .i64 e0.f1, .int .i64 e0.f2, .int .i64 e0.f3]] W fun e w' => e = .returned (.tuple #[.agg #[.int .i64 n, .slice A E.length c], .int .i64 32]) ∧ Below W.heap.size W w' := by
  have hu24 := Try.underlying24
  have hu39 := Try.underlying39
  have hu22 := Try.underlying22
  have HB := ak (Below.refl W.heap.size W)
  rcases (by omega : i < 0 ∨ (0 ≤ i ∧ (E.length : Int) ≤ i)) with h1 | ⟨h1, h2⟩
  · have i1 : decide (i < 0) = true := decide_eq_true h1
    go_enter Try.func44, Try.ntmps44
    go_wp2_with (first
      | ((with_reducible refine gate_dst (N := 3) rfl ?_); refine box_event ?hg (N := 3) ?hd (cs := #[.int .i64 n, .slice A E.length c]) (t := 24) ?hr ?_; (case hd => rfl); (case hg => rfl); (case hr => first | (go_simp; done) | (go_simp; rfl)); intro gg hg w1 bg hb; have HB1 := ak (below_step HB.out hb); have BG := ak bg; clear hb bg hg)
      | ((with_reducible refine gate_dst (N := 5) rfl ?_); refine box_event ?hg (N := 5) ?hd (cs := #[.int .i64 e0.f0, .int .i64 e0.f1, .int .i64 e0.f2, .int .i64 e0.f3]) (t := 39) ?hr ?_; (case hd => rfl); (case hg => rfl); (case hr => first | (go_simp; done) | (go_simp; rfl)); intro ge hg w2 be hb; have HB2 := ak (below_step HB1.out hb); have BE := ak be; have BG2 := ak (blk_below BG.out hb); clear hb be hg)
      | ((with_reducible refine gate_dst (N := 6) rfl ?_); refine box_event ?hg (N := 6) ?hd (cs := #[.int .i64 0, .slice none 0 0]) (t := 24) ?hr ?_; (case hd => rfl); (case hg => rfl); (case hr => first | (go_simp; done) | (go_simp; rfl)); intro gr hg w3 br hb; have HB3 := ak (below_step HB2.out hb); have BR := ak br; have GR := ak (show W.heap.size ≤ gr by rw [hg]; exact below_size HB2.out); have NR := ak (show gg ≠ gr by rw [hg]; exact Nat.ne_of_lt (blk_lt BG2.out)); have NE := ak (show ge ≠ gr by rw [hg]; exact Nat.ne_of_lt (blk_lt BE.out)); have BG3 := ak (blk_below BG2.out hb); have BE3 := ak (blk_below BE.out hb); clear hb br hg; have k0 := bc0 BG3; have k1 := bc1 BG3; have k2 := bc0 BR; have k3 := bc1 BR; have k4 := bf BR 0; have k5 := bf BR 1; have j0 := bc0 BE3; have j1 := bc1 BE3; have j2 := bc2 BE3; have j3 := bc3 BE3)
      | ((with_reducible refine gate_store (t := 24) (p := 6) rfl ?_); refine store_event (t := 24) (p := 6) (v := ?vb) (w1 := (w3.setCell ⟨gr, 0, none⟩ (.int .i64 n)).setCell ⟨gr, 1, none⟩ (.slice A E.length c)) ?hg ?ho ?hn ?hr ?_; (case ho => rfl); (case hg => rfl); (case hn => rfl); (case hr => first | (go_simp; done) | (go_simp; rfl)); intro w4 hw; have HBz := ak (show Below W.heap.size W w4 by rw [hw]; exact below_set (below_set HB3.out GR.out) GR.out); have BRz := ak (show w4.heap[gr]? = some (.cells #[.int .i64 n, .slice A E.length c] 24 (0, 0)) by rw [hw]; exact blk_put (blk_put BR.out 0 _ rfl) 1 _ rfl); have y0 := bc0 BRz; have y1 := bc1 BRz; clear hw))
    exact bodyPost_ret (v := .tuple #[.agg #[.int .i64 n, .slice A E.length c], .int .i64 32]) (by simp [results, Try.results44, go_sem, y0, y1]) rfl ⟨rfl, HBz.out⟩
  · have i1 : decide (i < 0) = false := decide_eq_false (by omega)
    have i2 : decide (i ≥ (E.length : Int)) = true := decide_eq_true h2
    have i3 : decide ((E.length : Int) ≤ i) = true := decide_eq_true h2
    go_enter Try.func44, Try.ntmps44
    go_wp2_with (first
      | ((with_reducible refine gate_dst (N := 3) rfl ?_); refine box_event ?hg (N := 3) ?hd (cs := #[.int .i64 n, .slice A E.length c]) (t := 24) ?hr ?_; (case hd => rfl); (case hg => rfl); (case hr => first | (go_simp; done) | (go_simp; rfl)); intro gg hg w1 bg hb; have HB1 := ak (below_step HB.out hb); have BG := ak bg; clear hb bg hg)
      | ((with_reducible refine gate_dst (N := 5) rfl ?_); refine box_event ?hg (N := 5) ?hd (cs := #[.int .i64 e0.f0, .int .i64 e0.f1, .int .i64 e0.f2, .int .i64 e0.f3]) (t := 39) ?hr ?_; (case hd => rfl); (case hg => rfl); (case hr => first | (go_simp; done) | (go_simp; rfl)); intro ge hg w2 be hb; have HB2 := ak (below_step HB1.out hb); have BE := ak be; have BG2 := ak (blk_below BG.out hb); clear hb be hg)
      | ((with_reducible refine gate_dst (N := 6) rfl ?_); refine box_event ?hg (N := 6) ?hd (cs := #[.int .i64 0, .slice none 0 0]) (t := 24) ?hr ?_; (case hd => rfl); (case hg => rfl); (case hr => first | (go_simp; done) | (go_simp; rfl)); intro gr hg w3 br hb; have HB3 := ak (below_step HB2.out hb); have BR := ak br; have GR := ak (show W.heap.size ≤ gr by rw [hg]; exact below_size HB2.out); have NR := ak (show gg ≠ gr by rw [hg]; exact Nat.ne_of_lt (blk_lt BG2.out)); have NE := ak (show ge ≠ gr by rw [hg]; exact Nat.ne_of_lt (blk_lt BE.out)); have BG3 := ak (blk_below BG2.out hb); have BE3 := ak (blk_below BE.out hb); clear hb br hg; have k0 := bc0 BG3; have k1 := bc1 BG3; have k2 := bc0 BR; have k3 := bc1 BR; have k4 := bf BR 0; have k5 := bf BR 1; have j0 := bc0 BE3; have j1 := bc1 BE3; have j2 := bc2 BE3; have j3 := bc3 BE3)
      | ((with_reducible refine gate_store (t := 24) (p := 6) rfl ?_); refine store_event (t := 24) (p := 6) (v := ?vb2) (w1 := (w3.setCell ⟨gr, 0, none⟩ (.int .i64 n)).setCell ⟨gr, 1, none⟩ (.slice A E.length c)) ?hg ?ho ?hn ?hr ?_; (case ho => rfl); (case hg => rfl); (case hn => rfl); (case hr => first | (go_simp; done) | (go_simp; rfl)); intro w4 hw; have HBz := ak (show Below W.heap.size W w4 by rw [hw]; exact below_set (below_set HB3.out GR.out) GR.out); have BRz := ak (show w4.heap[gr]? = some (.cells #[.int .i64 n, .slice A E.length c] 24 (0, 0)) by rw [hw]; exact blk_put (blk_put BR.out 0 _ rfl) 1 _ rfl); have y0 := bc0 BRz; have y1 := bc1 BRz; clear hw))
    exact bodyPost_ret (v := .tuple #[.agg #[.int .i64 n, .slice A E.length c], .int .i64 32]) (by simp [results, Try.results44, go_sem, y0, y1]) rfl ⟨rfl, HBz.out⟩
set_option maxHeartbeats 4000000 in
set_option maxRecDepth 100000 in
theorem refSetEdge.bad (k : Nat) (n : Int) (A : Option Addr) (c : Nat) (E : List S39) (i : Int) (e0 : S39) (W : World) (cd : Int) (bd : compassref03_Bad.f k n e0.f0 e0.f1 e0.f2 e0.f3 = some cd) (hcd : cd ≠ 0) (h0 : 0 ≤ i) (h1 : i < (E.length : Int)) :
    Calls Try.prog 44 #[.agg #[.int .i64 n, .slice A E.length c], .int .i64 i, .agg #[.int .i64 e0.f0, .int .i64 e0.f1, .int .i64 e0.f2, .int .i64 e0.f3]] W fun e w' => e = .returned (.tuple #[.agg #[.int .i64 n, .slice A E.length c], .int .i64 cd]) ∧ Below W.heap.size W w' := by
  have hu24 := Try.underlying24
  have hu39 := Try.underlying39
  have hu22 := Try.underlying22
  have HB := ak (Below.refl W.heap.size W)
  have BD := ak bd
  clear bd
  have e1 : (cd != 0) = true := bne_iff_ne.mpr hcd
  have e2 : (cd == 0) = false := beq_eq_false_iff_ne.mpr hcd
  clear hcd
  have i1 : decide (i < 0) = false := decide_eq_false (by omega)
  have i2 : decide (i ≥ (E.length : Int)) = false := decide_eq_false (by omega)
  have i3 : decide ((E.length : Int) ≤ i) = false := decide_eq_false (by omega)
  go_enter Try.func44, Try.ntmps44
  go_wp2_with (first
    | ((with_reducible refine gate_dst (N := 3) rfl ?_); refine box_event ?hg (N := 3) ?hd (cs := #[.int .i64 n, .slice A E.length c]) (t := 24) ?hr ?_; (case hd => rfl); (case hg => rfl); (case hr => first | (go_simp; done) | (go_simp; rfl)); intro gg hg w1 bg hb; have HB1 := ak (below_step HB.out hb); have BG := ak bg; clear hb bg hg)
    | ((with_reducible refine gate_dst (N := 5) rfl ?_); refine box_event ?hg (N := 5) ?hd (cs := #[.int .i64 e0.f0, .int .i64 e0.f1, .int .i64 e0.f2, .int .i64 e0.f3]) (t := 39) ?hr ?_; (case hd => rfl); (case hg => rfl); (case hr => first | (go_simp; done) | (go_simp; rfl)); intro ge hg w2 be hb; have HB2 := ak (below_step HB1.out hb); have BE := ak be; have BG2 := ak (blk_below BG.out hb); clear hb be hg)
    | ((with_reducible refine gate_dst (N := 6) rfl ?_); refine box_event ?hg (N := 6) ?hd (cs := #[.int .i64 0, .slice none 0 0]) (t := 24) ?hr ?_; (case hd => rfl); (case hg => rfl); (case hr => first | (go_simp; done) | (go_simp; rfl)); intro gr hg w3 br hb; have HB3 := ak (below_step HB2.out hb); have BR := ak br; have GR := ak (show W.heap.size ≤ gr by rw [hg]; exact below_size HB2.out); have NR := ak (show gg ≠ gr by rw [hg]; exact Nat.ne_of_lt (blk_lt BG2.out)); have NE := ak (show ge ≠ gr by rw [hg]; exact Nat.ne_of_lt (blk_lt BE.out)); have BG3 := ak (blk_below BG2.out hb); have BE3 := ak (blk_below BE.out hb); clear hb br hg; have k0 := bc0 BG3; have k1 := bc1 BG3; have k2 := bc0 BR; have k3 := bc1 BR; have k4 := bf BR 0; have k5 := bf BR 1; have j0 := bc0 BE3; have j1 := bc1 BE3; have j2 := bc2 BE3; have j3 := bc3 BE3)
    | (go_at_call 31; (with_reducible refine (compassref03_Bad.calls k n e0.f0 e0.f1 e0.f2 e0.f3 cd _ BD.out).mono ?_); rintro e w4 ⟨rfl, hb⟩; have HB4 := ak (below_step HB3.out hb); have BR4 := ak (blk_below BR.out hb); have BG4 := ak (blk_below BG3.out hb); have BE4 := ak (blk_below BE3.out hb); clear hb; have m0 := bc0 BG4; have m1 := bc1 BG4; have m2 := bc0 BR4; have m3 := bc1 BR4; have m4 := bf BR4 0; have m5 := bf BR4 1; have m6 := bc0 BE4; have m7 := bc1 BE4; have m8 := bc2 BE4; have m9 := bc3 BE4)
    | ((with_reducible refine gate_store (t := 24) (p := 6) rfl ?_); refine store_event (t := 24) (p := 6) (v := ?vb) (w1 := (w4.setCell ⟨gr, 0, none⟩ (.int .i64 n)).setCell ⟨gr, 1, none⟩ (.slice A E.length c)) ?hg ?ho ?hn ?hr ?_; (case ho => rfl); (case hg => rfl); (case hn => rfl); (case hr => first | (go_simp; done) | (go_simp; rfl)); intro w5 hw; have HBz := ak (show Below W.heap.size W w5 by rw [hw]; exact below_set (below_set HB4.out GR.out) GR.out); have BRz := ak (show w5.heap[gr]? = some (.cells #[.int .i64 n, .slice A E.length c] 24 (0, 0)) by rw [hw]; exact blk_put (blk_put BR4.out 0 _ rfl) 1 _ rfl); have y0 := bc0 BRz; have y1 := bc1 BRz; clear hw))
  exact bodyPost_ret (v := .tuple #[.agg #[.int .i64 n, .slice A E.length c], .int .i64 cd]) (by simp [results, Try.results44, go_sem, y0, y1]) rfl ⟨rfl, HBz.out⟩
set_option maxHeartbeats 4000000 in
set_option maxRecDepth 100000 in
theorem refSetEdge.more (k : Nat) (n : Int) (A : Option Addr) (c : Nat) (E : List S39) (j : Nat) (e0 : S39) (W : World) (hr : Kd.C k39 W A E.length E) (hc : E.length ≤ c) (cp : compassref03_Copy.f k n E = some (n, E)) (bd : compassref03_Bad.f k n e0.f0 e0.f1 e0.f2 e0.f3 = some 0) (h1 : j < E.length) :
    Calls Try.prog 44 #[.agg #[.int .i64 n, .slice A E.length c], .int .i64 (j : Int), .agg #[.int .i64 e0.f0, .int .i64 e0.f1, .int .i64 e0.f2, .int .i64 e0.f3]] W fun e w' => ∃ (A' : Option Addr) (c' : Nat), e = .returned (.tuple #[.agg #[.int .i64 n, .slice A' E.length c'], .int .i64 0]) ∧ Below W.heap.size W w' ∧ Kd.R k39 39 w' W.heap.size (fun _ => True) (.slice A' E.length c') (E.set j e0) := by
  have hu24 := Try.underlying24
  have hu39 := Try.underlying39
  have hu22 := Try.underlying22
  have HB := ak (Below.refl W.heap.size W)
  have BD := ak bd
  have HR := ak hr
  have HC := ak hc
  have CP := ak cp
  clear bd hr hc cp
  have J1 := ak h1
  have p0 : (0 : Int) ≤ (j : Int) := by omega
  have p1 : (j : Int) < (E.length : Int) := by omega
  have i1 : decide ((j : Int) < 0) = false := decide_eq_false (by omega)
  have i2 : decide ((j : Int) ≥ (E.length : Int)) = false := decide_eq_false (by omega)
  have i3 : decide ((E.length : Int) ≤ (j : Int)) = false := decide_eq_false (by omega)
  go_enter Try.func44, Try.ntmps44
  go_wp2_with (first
    | ((with_reducible refine gate_dst (N := 3) rfl ?_); refine box_event ?hg (N := 3) ?hd (cs := #[.int .i64 n, .slice A E.length c]) (t := 24) ?hr ?_; (case hd => rfl); (case hg => rfl); (case hr => first | (go_simp; done) | (go_simp; rfl)); intro gg hg w1 bg hb; have HB1 := ak (below_step HB.out hb); have BG := ak bg; clear hb bg hg)
    | ((with_reducible refine gate_dst (N := 5) rfl ?_); refine box_event ?hg (N := 5) ?hd (cs := #[.int .i64 e0.f0, .int .i64 e0.f1, .int .i64 e0.f2, .int .i64 e0.f3]) (t := 39) ?hr ?_; (case hd => rfl); (case hg => rfl); (case hr => first | (go_simp; done) | (go_simp; rfl)); intro ge hg w2 be hb; have HB2 := ak (below_step HB1.out hb); have BE := ak be; have BG2 := ak (blk_below BG.out hb); clear hb be hg)
    | ((with_reducible refine gate_dst (N := 6) rfl ?_); refine box_event ?hg (N := 6) ?hd (cs := #[.int .i64 0, .slice none 0 0]) (t := 24) ?hr ?_; (case hd => rfl); (case hg => rfl); (case hr => first | (go_simp; done) | (go_simp; rfl)); intro gr hg w3 br hb; have HB3 := ak (below_step HB2.out hb); have BR := ak br; have GR := ak (show W.heap.size ≤ gr by rw [hg]; exact below_size HB2.out); have NR := ak (show gg ≠ gr by rw [hg]; exact Nat.ne_of_lt (blk_lt BG2.out)); have NE := ak (show ge ≠ gr by rw [hg]; exact Nat.ne_of_lt (blk_lt BE.out)); have BG3 := ak (blk_below BG2.out hb); have BE3 := ak (blk_below BE.out hb); clear hb br hg; have k0 := bc0 BG3; have k1 := bc1 BG3; have k2 := bc0 BR; have k3 := bc1 BR; have k4 := bf BR 0; have k5 := bf BR 1; have j0 := bc0 BE3; have j1 := bc1 BE3; have j2 := bc2 BE3; have j3 := bc3 BE3)
    | (go_at_call 31; (with_reducible refine (compassref03_Bad.calls k n e0.f0 e0.f1 e0.f2 e0.f3 0 _ BD.out).mono ?_); rintro e w4 ⟨rfl, hb⟩; have HB4 := ak (below_step HB3.out hb); have BR4 := ak (blk_below BR.out hb); have BG4 := ak (blk_below BG3.out hb); have BE4 := ak (blk_below BE3.out hb); clear hb; have m0 := bc0 BG4; have m1 := bc1 BG4; have m2 := bc0 BR4; have m3 := bc1 BR4; have m4 := bf BR4 0; have m5 := bf BR4 1; have m6 := bc0 BE4; have m7 := bc1 BE4; have m8 := bc2 BE4; have m9 := bc3 BE4)
    | (go_at_call 15; (with_reducible refine (compassref03_Copy.calls k n _ _ E n E _ (Kd.C_below HR.out HB4.out) HC.out CP.out).mono ?_); rintro e w5 ⟨v1, rfl, r1, hb⟩; obtain ⟨A1, c1, e1⟩ := Kd.R_slice r1; subst e1; have ER := ak (show some ge ≠ (Value.slice A1 E.length c1).ownBlock from fun q => by have := Kd.R_base r1 ge q.symm; have := blk_lt BE4.out; omega); have R1 := ak (Kd.R_lower r1 (below_size HB4.out)); have HB5 := ak (below_step HB4.out hb); have BR5 := ak (blk_below BR4.out hb); have BG5 := ak (blk_below BG4.out hb); have BE5 := ak (blk_below BE4.out hb); clear hb r1)
    | ((with_reducible refine gate_dst (N := 9) rfl ?_); refine box_event ?hg (N := 9) ?hd (cs := #[.int .i64 0, .slice none 0 0]) (t := 24) ?hr ?_; (case hd => rfl); (case hg => rfl); (case hr => first | (go_simp; done) | (go_simp; rfl)); intro go hg w6 bo hb; have HB6 := ak (below_step HB5.out hb); have BO := ak bo; have GO := ak (show W.heap.size ≤ go by rw [hg]; exact below_size HB5.out); have NO1 := ak (show gr ≠ go by rw [hg]; exact Nat.ne_of_lt (blk_lt BR5.out)); have NO2 := ak (show gg ≠ go by rw [hg]; exact Nat.ne_of_lt (blk_lt BG5.out)); have NO3 := ak (show ge ≠ go by rw [hg]; exact Nat.ne_of_lt (blk_lt BE5.out)); have BR6 := ak (blk_below BR5.out hb); have BG6 := ak (blk_below BG5.out hb); have BE6 := ak (blk_below BE5.out hb); have R6 := ak (Kd.R_below R1.out hb); clear hb bo hg; have u0 := bc0 BO; have u1 := bc1 BO; have u2 := bf BO 0; have u3 := bf BO 1)
    | ((with_reducible refine gate_store (t := 24) (p := 9) rfl ?_); refine store_event (t := 24) (p := 9) (v := ?vo9) (w1 := (w6.setCell ⟨go, 0, none⟩ (.int .i64 n)).setCell ⟨go, 1, none⟩ (.slice A1 E.length c1)) ?hg ?ho ?hn ?hr ?_; (case ho => rfl); (case hg => rfl); (case hn => rfl); (case hr => first | (go_simp; done) | (go_simp; rfl)); intro w7 hw; have HB7 := ak (show Below W.heap.size W w7 by rw [hw]; exact below_set (below_set HB6.out GO.out) GO.out); have BO7 := ak (show w7.heap[go]? = some (.cells #[.int .i64 n, .slice A1 E.length c1] 24 (0, 0)) by rw [hw]; exact blk_put (blk_put BO.out 0 _ rfl) 1 _ rfl); have BR7 := ak (show w7.heap[gr]? = some (.cells #[.int .i64 0, .slice none 0 0] 24 (0, 0)) by rw [hw]; exact blk_far (blk_far BR6.out NO1.out _) NO1.out _); have BG7 := ak (show w7.heap[gg]? = some (.cells #[.int .i64 n, .slice A E.length c] 24 (0, 0)) by rw [hw]; exact blk_far (blk_far BG6.out NO2.out _) NO2.out _); have BE7 := ak (show w7.heap[ge]? = some (.cells #[.int .i64 e0.f0, .int .i64 e0.f1, .int .i64 e0.f2, .int .i64 e0.f3] 39 (0, 0)) by rw [hw]; exact blk_far (blk_far BE6.out NO3.out _) NO3.out _); have R7 := ak (show Kd.R k39 39 w7 W.heap.size (fun _ => True) (.slice A1 E.length c1) E by rw [hw]; exact Kd.R_set (Kd.R_set R6.out BO.out (by decide) 0 _) (blk_put BO.out 0 _ rfl) (by decide) 1 _); clear hw; have z0 := bc0 BO7; have z1 := bc1 BO7; have z2 := bf BO7 1; have z3 := bc0 BE7; have z4 := bc1 BE7; have z5 := bc2 BE7; have z6 := bc3 BE7; (obtain ⟨b, cb_, eb, -⟩ := Kd.R_form R7.out (by omega)); (injection eb with q1 q2 q3); subst q1; clear q2 q3; (obtain ⟨⟨r1, r2, r3, r4⟩, r5, r6, r7, r8⟩ := row_cells R7.out j J1.out); (obtain ⟨R8_, G8_⟩ := row_put R7.out j J1.out e0); have R8 := ak R8_; have G8 := ak G8_; clear R8_ G8_)
    | ((with_reducible refine gate_store (t := 39) (p := 34) rfl ?_); refine store_event (t := 39) (p := 34) (v := ?vs) (w1 := ((((w7.setCell ⟨b, j * 4, none⟩ (.int .i64 e0.f0)).setCell ⟨b, j * 4 + 1, none⟩ (.int .i64 e0.f1)).setCell ⟨b, j * 4 + 2, none⟩ (.int .i64 e0.f2)).setCell ⟨b, j * 4 + 3, none⟩ (.int .i64 e0.f3))) ?hg ?ho ?hn ?hr ?_; (case ho => rfl); (case hg => rfl); (case hn => rfl); (case hr => first | (go_simp; done) | (go_simp; rfl)); intro w8 hw; have BS := ak (show W.heap.size ≤ b from Kd.R_base R7.out b rfl); have HB8 := ak (show Below W.heap.size W w8 by rw [hw]; exact below_set (below_set (below_set (below_set HB7.out BS.out) BS.out) BS.out) BS.out); have BO8 := ak (show w8.heap[go]? = some (.cells #[.int .i64 n, .slice (some ⟨b, 0, none⟩) E.length c1] 24 (0, 0)) by rw [hw]; exact blk_grown BO7.out G8.out (Kd.R_ne R7.out BO7.out (by decide))); have BR8 := ak (show w8.heap[gr]? = some (.cells #[.int .i64 0, .slice none 0 0] 24 (0, 0)) by rw [hw]; exact blk_grown BR7.out G8.out (Kd.R_ne R7.out BR7.out (by decide))); have R9 := ak (show Kd.R k39 39 w8 W.heap.size (fun _ => True) (.slice (some ⟨b, 0, none⟩) E.length c1) (E.set j e0) by rw [hw]; exact R8.out); clear hw; have x0 := bc0 BO8; have x1 := bc1 BO8; have x2 := bc0 BR8; have x3 := bc1 BR8; have x4 := bf BR8 0; have x5 := bf BR8 1)
    | ((with_reducible refine gate_store (t := 24) (p := 6) rfl ?_); refine store_event (t := 24) (p := 6) (v := ?vf) (w1 := (w8.setCell ⟨gr, 0, none⟩ (.int .i64 n)).setCell ⟨gr, 1, none⟩ (.slice (some ⟨b, 0, none⟩) E.length c1)) ?hg ?ho ?hn ?hr ?_; (case ho => rfl); (case hg => rfl); (case hn => rfl); (case hr => first | (go_simp; done) | (go_simp; rfl)); intro w9 hw; have HB9 := ak (show Below W.heap.size W w9 by rw [hw]; exact below_set (below_set HB8.out GR.out) GR.out); have BR9 := ak (show w9.heap[gr]? = some (.cells #[.int .i64 n, .slice (some ⟨b, 0, none⟩) E.length c1] 24 (0, 0)) by rw [hw]; exact blk_put (blk_put BR8.out 0 _ rfl) 1 _ rfl); have R10 := ak (show Kd.R k39 39 w9 W.heap.size (fun _ => True) (.slice (some ⟨b, 0, none⟩) E.length c1) (E.set j e0) by rw [hw]; exact Kd.R_set (Kd.R_set R9.out BR8.out (by decide) 0 _) (blk_put BR8.out 0 _ rfl) (by decide) 1 _); clear hw; have y0 := bc0 BR9; have y1 := bc1 BR9))
  exact bodyPost_ret (v := .tuple #[.agg #[.int .i64 n, .slice (some ⟨b, 0, none⟩) E.length c1], .int .i64 0]) (by simp [results, Try.results44, go_sem, y0, y1]) rfl ⟨_, _, rfl, HB9.out, R10.out⟩
theorem refSetEdge.calls (k : Nat) (n : Int) (A : Option Addr) (c : Nat) (E : List S39) (i : Int) (e0 : S39) (W : World) (hr : Kd.C k39 W A E.length E) (hc : E.length ≤ c) (cp : compassref03_Copy.f k n E = some (n, E)) (bd : compassref03_Bad.f k n e0.f0 e0.f1 e0.f2 e0.f3 = some (fitE n e0)) :
    Calls Try.prog 44 #[.agg #[.int .i64 n, .slice A E.length c], .int .i64 i, .agg #[.int .i64 e0.f0, .int .i64 e0.f1, .int .i64 e0.f2, .int .i64 e0.f3]] W fun e w' => ∃ (A' : Option Addr) (c' : Nat), e = .returned (.tuple #[.agg #[.int .i64 n, .slice A' (setI n E i e0).2.length c'], .int .i64 (setI n E i e0).1]) ∧ Below W.heap.size W w' ∧ Res W w' A c E A' c' (setI n E i e0).2 := by
  unfold setI
  by_cases h : 0 ≤ i ∧ i < (E.length : Int)
  · rw [if_pos h]
    by_cases b : fitE n e0 = 0
    · rw [if_pos b]
      rw [b] at bd
      obtain ⟨j, rfl⟩ := Int.eq_ofNat_of_zero_le h.1
      refine (refSetEdge.more k n A c E j e0 W hr hc cp bd (by omega)).mono ?_
      rintro e w' ⟨A', c', rfl, hb, r⟩
      have len : (E.set j e0).length = E.length := List.length_set
      rw [Int.toNat_natCast]
      exact ⟨A', c', by rw [len], hb, .inr (by rw [len]; exact r)⟩
    · rw [if_neg b]
      refine (refSetEdge.bad k n A c E i e0 W _ bd b h.1 h.2).mono ?_
      rintro e w' ⟨rfl, hb⟩
      exact ⟨A, c, rfl, hb, .inl ⟨rfl, rfl, rfl⟩⟩
  · rw [if_neg h]
    refine (refSetEdge.out k n A c E i e0 W h).mono ?_
    rintro e w' ⟨rfl, hb⟩
    exact ⟨A, c, rfl, hb, .inl ⟨rfl, rfl, rfl⟩⟩
end Go.Proofs.Ytpmclhkednehhaa.Q
