/- GraphChecks: the law's walk, typed by hand. -/
import Derived.Test.YtpmclhkednehhaaQ11
import Derived.Test.YtpmclhkednehhaaQ24
import Derived.Test.YtpmclhkednehhaaQ27
import Derived.Test.YtpmclhkednehhaaNetD
set_option linter.unusedVariables false
set_option linter.unusedSimpArgs false
namespace Go.Proofs.Ytpmclhkednehhaa.Q
open Go.RowKit Go.Proofs.YtpmclhkednehhaaW.PrintWords Go.Proofs.YtpmclhkednehhaaW.PrintLast Go.Proofs.YtpmclhkednehhaaW.PrintMore
theorem eqA28 (d : Nat) (w : World) (x0 y0 : Int) (x1 y1 : Int) :
    (Op.equalIn (d + 2) 28 (.agg #[.int .i64 x0, .int .i64 x1]) (.agg #[.int .i64 y0, .int .i64 y1])).run Try.prog w = .ok (x0 == y0 && (x1 == y1)) w := by
  refine eqA_of Try.underlying28 (by kernel_rfl) ?_
  refine eqf_cons (by rfl) (by go_simp; rfl) (by go_simp; rfl) (by go_simp) ?_
  exact eqf_last (by rfl) (by go_simp; rfl) (by go_simp; rfl) (by go_simp)
attribute [local go_sem high] eqA28
structure compasslaw03_GraphChecks.Told (k : Nat) (n : Int) (E X : List S39) (c a a0 : Int) : Prop where
  len : E.length < 4398046511104
  two : graph_Check.f k 2 [] = some (0, a0)
  lab : graph_label.f 0 1 3 0 = some true
  chk : graph_Check.f k n E = some (c, a)
  ref : compassref03_Check.f k n E = some (c, a)
  zero : c = 0 → a = 0
  rev : compassref03_Reverse.f k n E = some (n, X)
  revg : graph_Reverse.f k n E = some (n, X)
  same : compassref03_Same.f k n X n X = some true
/-- The graph's box, and the faults that both looks told. -/
structure GS (w0 : World) (n : Int) (A : Option Addr) (cE : Nat) (E : List S39) (c a : Int) (gg gf gh : Nat) (W : World) : Prop where
  below : Below w0.heap.size w0 W
  bg : W.heap[gg]? = some (.cells #[.int .i64 n, .slice A E.length cE] 24 (0, 0))
  bf : W.heap[gf]? = some (.cells #[.int .i64 c, .int .i64 a] 28 (0, 0))
  bh : W.heap[gh]? = some (.cells #[.int .i64 c, .int .i64 a] 28 (0, 0))
theorem GS.later {w0 : World} {n : Int} {A : Option Addr} {cE : Nat} {E : List S39} {c a : Int} {gg gf gh : Nat} {W : World} (h : GS w0 n A cE E c a gg gf gh W) {W' : World} (hb : Below W.heap.size W W') : GS w0 n A cE E c a gg gf gh W' := ⟨below_step h.below hb, blk_below h.bg hb, blk_below h.bf hb, blk_below h.bh hb⟩
theorem GS.six {w0 : World} {n : Int} {A : Option Addr} {cE : Nat} {E : List S39} {c a : Int} {gg gf gh : Nat} {W : World} (h : GS w0 n A cE E c a gg gf gh W) {W' : World} (hb : Below W.heap.size W W') : W'.cell? ⟨gg, 0, none⟩ = some (.int .i64 n) ∧ W'.cell? ⟨gg, 1, none⟩ = some (.slice A E.length cE) ∧ W'.cell? ⟨gf, 0, none⟩ = some (.int .i64 c) ∧ W'.cell? ⟨gf, 1, none⟩ = some (.int .i64 a) ∧ W'.cell? ⟨gh, 0, none⟩ = some (.int .i64 c) ∧ W'.cell? ⟨gh, 1, none⟩ = some (.int .i64 a) := by
  have q := h.later hb
  exact ⟨(blk_cell q.bg 0).trans rfl, (blk_cell q.bg 1).trans rfl, (blk_cell q.bf 0).trans rfl, (blk_cell q.bf 1).trans rfl, (blk_cell q.bh 0).trans rfl, (blk_cell q.bh 1).trans rfl⟩
set_option maxHeartbeats 8000000 in
set_option maxRecDepth 100000 in
theorem compasslaw03_GraphChecks.bad (k : Nat) (n : Int) (A : Option Addr) (cE : Nat) (E : List S39) (w : World) (hr : Kd.C k39 w A E.length E) (hc : E.length ≤ cE) (X : List S39) (c a a0 : Int) (TD0 : compasslaw03_GraphChecks.Told k n E X c a a0) (c3 : ¬ c = 0) :
    Calls Try.prog 3 #[.agg #[.int .i64 n, .slice A E.length cE]] w fun e w' => e = .returned (.bool true) ∧ Below w.heap.size w w' := by
  have hu24 := Try.underlying24
  have hu28 := Try.underlying28
  have TD := ak TD0
  clear TD0
  have HR := ak hr
  have HC := ak hc
  clear hr hc
  have HB := ak (Below.refl w.heap.size w)
  have CZ := ak c3
  have c3b0 : (c == 0) = false := beq_eq_false_iff_ne.mpr c3
  have c3b1 : (c != 0) = true := bne_iff_ne.mpr c3
  have c3b2 : (c == c) = true := beq_self_eq_true c
  have c3b3 : (a == a) = true := beq_self_eq_true a
  clear c3
  go_enter Try.func3, Try.ntmps3
  go_wp2_with (first
    | ((with_reducible refine gate_dst (N := 1) rfl ?_); refine box_event ?hg (N := 1) ?hd (cs := #[.int .i64 n, .slice A E.length cE]) (t := 24) ?hr ?_; (case hd => rfl); (case hg => rfl); (case hr => first | (go_simp; done) | (go_simp; rfl)); intro gg hg w1 bg hb; have HB1 := ak (below_step HB.out hb); have BG := ak bg; clear hb bg hg)
    | (go_at_call 8; (with_reducible refine (compasslaw03_awake.calls k a0 TD.out.two TD.out.lab _).mono ?_); rintro e w2 ⟨rfl, hb⟩; have HB2 := ak (below_step HB1.out hb); have BG2 := ak (blk_below BG.out hb); have k0 := bc0 BG2; have k1 := bc1 BG2; clear hb)
    | (go_at_call 9; (with_reducible refine (graph_Check.calls k n _ _ E c a _ (Kd.C_below HR.out HB2.out) HC.out TD.out.chk).mono ?_); rintro e w3 ⟨rfl, hb⟩; have HB3 := ak (below_step HB2.out hb); have BG3 := ak (blk_below BG2.out hb); clear hb)
    | ((with_reducible refine gate_dst (N := 3) rfl ?_); refine box_event ?hg (N := 3) ?hd (cs := #[.int .i64 0, .int .i64 0]) (t := 28) ?hr ?_; (case hd => rfl); (case hg => rfl); (case hr => first | (go_simp; done) | (go_simp; rfl)); intro gf hg w4 bf_ hb; have HB4 := ak (below_step HB3.out hb); have BF := ak bf_; have GF := ak (show w.heap.size ≤ gf by rw [hg]; exact below_size HB3.out); have NF := ak (show gg ≠ gf by rw [hg]; exact Nat.ne_of_lt (blk_lt BG3.out)); have BG4 := ak (blk_below BG3.out hb); have k2 := bf BF 0; have k3 := bf BF 1; have k4 := bc0 BF; have k5 := bc1 BF; clear hb bf_ hg)
    | ((with_reducible refine gate_store (t := 28) (p := 3) rfl ?_); refine store_event (t := 28) (p := 3) (v := ?vo3) (w1 := (w4.setCell ⟨gf, 0, none⟩ (.int .i64 c)).setCell ⟨gf, 1, none⟩ (.int .i64 a)) ?hg ?ho ?hn ?hr ?_; (case ho => rfl); (case hg => rfl); (case hn => rfl); (case hr => first | (go_simp; done) | (go_simp; rfl)); intro w5 hw; have HB5 := ak (show Below w.heap.size w w5 by rw [hw]; exact below_set (below_set HB4.out GF.out) GF.out); have BF5 := ak (show w5.heap[gf]? = some (.cells #[.int .i64 c, .int .i64 a] 28 (0, 0)) by rw [hw]; exact blk_put (blk_put BF.out 0 _ rfl) 1 _ rfl); have BG5 := ak (show w5.heap[gg]? = some (.cells #[.int .i64 n, .slice A E.length cE] 24 (0, 0)) by rw [hw]; exact blk_far (blk_far BG4.out NF.out _) NF.out _); have k6 := bc0 BG5; have k7 := bc1 BG5; clear hw)
    | (go_at_call 10; (with_reducible refine (compassref03_Check.calls k n _ _ E c a _ (Kd.C_below HR.out HB5.out) HC.out TD.out.ref).mono ?_); rintro e w6 ⟨rfl, hb⟩; have HB6 := ak (below_step HB5.out hb); have BG6 := ak (blk_below BG5.out hb); have BF6 := ak (blk_below BF5.out hb); have k8 := bc0 BG6; have k9 := bc1 BG6; clear hb)
    | (go_at_call 11; (with_reducible refine (graph_From.bad k n _ _ E _ (Kd.C_below HR.out HB6.out) HC.out c a TD.out.chk CZ.out).mono ?_); rintro e w7 ⟨rfl, hb⟩; have HB7 := ak (below_step HB6.out hb); have BG7 := ak (blk_below BG6.out hb); have BF7 := ak (blk_below BF6.out hb); clear hb)
    | ((with_reducible refine gate_dst (N := 7) rfl ?_); refine box_event ?hg (N := 7) ?hd (cs := #[.int .i64 0, .int .i64 0]) (t := 28) ?hr ?_; (case hd => rfl); (case hg => rfl); (case hr => first | (go_simp; done) | (go_simp; rfl)); intro gh hg w8 bh_ hb; have HB8 := ak (below_step HB7.out hb); have BH := ak bh_; have GH := ak (show w.heap.size ≤ gh by rw [hg]; exact below_size HB7.out); have NH := ak (show gg ≠ gh by rw [hg]; exact Nat.ne_of_lt (blk_lt BG7.out)); have NK := ak (show gf ≠ gh by rw [hg]; exact Nat.ne_of_lt (blk_lt BF7.out)); have BG8 := ak (blk_below BG7.out hb); have BF8 := ak (blk_below BF7.out hb); have k10 := bf BH 0; have k11 := bf BH 1; have k12 := bc0 BH; have k13 := bc1 BH; clear hb bh_ hg)
    | ((with_reducible refine gate_store (t := 28) (p := 7) rfl ?_); refine store_event (t := 28) (p := 7) (v := ?vo7) (w1 := (w8.setCell ⟨gh, 0, none⟩ (.int .i64 c)).setCell ⟨gh, 1, none⟩ (.int .i64 a)) ?hg ?ho ?hn ?hr ?_; (case ho => rfl); (case hg => rfl); (case hn => rfl); (case hr => first | (go_simp; done) | (go_simp; rfl)); intro w9 hw; have G9 := ak (show GS w n A cE E c a gg gf gh w9 by rw [hw]; exact ⟨below_set (below_set HB8.out GH.out) GH.out, blk_far (blk_far BG8.out NH.out _) NH.out _, blk_far (blk_far BF8.out NK.out _) NK.out _, blk_put (blk_put BH.out 0 _ rfl) 1 _ rfl⟩); clear hw))
  clear k0 k1 k2 k3 k4 k5 k6 k7 k8 k9 k10 k11 k12 k13
  clear HB1 HB2 HB3 HB4 HB5 HB6 HB7 HB8 BG BG2 BG3 BG4 BG5 BG6 BG7 BG8 BF BF5 BF6 BF7 BF8 BH GF GH NF NH NK
  go_region_held3 (fun w' => w'.cell? ⟨gg, 0, none⟩ = some (.int .i64 n) ∧ w'.cell? ⟨gg, 1, none⟩ = some (.slice A E.length cE) ∧ w'.cell? ⟨gf, 0, none⟩ = some (.int .i64 c) ∧ w'.cell? ⟨gf, 1, none⟩ = some (.int .i64 a) ∧ w'.cell? ⟨gh, 0, none⟩ = some (.int .i64 c) ∧ w'.cell? ⟨gh, 1, none⟩ = some (.int .i64 a)) (first | exact G12.out.six (Below.refl _ _) | exact G11.out.six (Below.refl _ _) | exact G10.out.six (Below.refl _ _) | exact G9.out.six (Below.refl _ _) | exact G9.out.six (below_drew (Below.refl _ _)))
    (first
      | (go_at_call 13; (with_reducible refine (graph_Reverse.calls k n _ _ E n X _ (Kd.C_below HR.out (below_drew G9.out.below)) HC.out TD.out.revg).mono ?_); rintro e w10 ⟨vr, rfl, rr, hb⟩; obtain ⟨Ar, cr, er_⟩ := Kd.R_slice rr; subst er_; have RR := ak rr; have G10 := ak (G9.out.later (below_step (below_drew (Below.refl _ _)) hb)); clear hb rr)
      | (go_at_call 14; (with_reducible refine (compassref03_Reverse.calls k n _ _ E n X _ (Kd.C_below HR.out G10.out.below) HC.out TD.out.rev).mono ?_); rintro e w11 ⟨vs, rfl, rs, hb⟩; obtain ⟨As, cs_, es_⟩ := Kd.R_slice rs; subst es_; have RS := ak rs; have RR2 := ak (Kd.R_below RR.out hb); have G11 := ak (G10.out.later hb); clear hb rs)
      | (go_at_call 12; (with_reducible refine (compassref03_Same.calls k n _ _ X n _ _ X true _ (Kd.R_reads' RR2.out).2.2 (Kd.R_reads' RR2.out).2.1 (Kd.R_reads' RS.out).2.2 (Kd.R_reads' RS.out).2.1 TD.out.same).mono ?_); rintro e w12 ⟨rfl, hb⟩; have G12 := ak (G11.out.later hb); clear hb))
  go_wp2
  go_ret
  exact ⟨rfl, G12.out.below⟩
set_option maxHeartbeats 8000000 in
set_option maxRecDepth 100000 in
theorem compasslaw03_GraphChecks.good (k : Nat) (n : Int) (A : Option Addr) (cE : Nat) (E : List S39) (w : World) (hr : Kd.C k39 w A E.length E) (hc : E.length ≤ cE) (X : List S39) (c a a0 : Int) (TD0 : compasslaw03_GraphChecks.Told k n E X c a a0) (c3 : c = 0) :
    Calls Try.prog 3 #[.agg #[.int .i64 n, .slice A E.length cE]] w fun e w' => e = .returned (.bool true) ∧ Below w.heap.size w w' := by
  have hu24 := Try.underlying24
  have hu28 := Try.underlying28
  have TD := ak TD0
  clear TD0
  have HR := ak hr
  have HC := ak hc
  clear hr hc
  have HB := ak (Below.refl w.heap.size w)
  subst c3
  obtain rfl := TD.out.zero rfl
  go_enter Try.func3, Try.ntmps3
  go_wp2_with (first
    | ((with_reducible refine gate_dst (N := 1) rfl ?_); refine box_event ?hg (N := 1) ?hd (cs := #[.int .i64 n, .slice A E.length cE]) (t := 24) ?hr ?_; (case hd => rfl); (case hg => rfl); (case hr => first | (go_simp; done) | (go_simp; rfl)); intro gg hg w1 bg hb; have HB1 := ak (below_step HB.out hb); have BG := ak bg; clear hb bg hg)
    | (go_at_call 8; (with_reducible refine (compasslaw03_awake.calls k a0 TD.out.two TD.out.lab _).mono ?_); rintro e w2 ⟨rfl, hb⟩; have HB2 := ak (below_step HB1.out hb); have BG2 := ak (blk_below BG.out hb); have k0 := bc0 BG2; have k1 := bc1 BG2; clear hb)
    | (go_at_call 9; (with_reducible refine (graph_Check.calls k n _ _ E 0 0 _ (Kd.C_below HR.out HB2.out) HC.out TD.out.chk).mono ?_); rintro e w3 ⟨rfl, hb⟩; have HB3 := ak (below_step HB2.out hb); have BG3 := ak (blk_below BG2.out hb); clear hb)
    | ((with_reducible refine gate_dst (N := 3) rfl ?_); refine box_event ?hg (N := 3) ?hd (cs := #[.int .i64 0, .int .i64 0]) (t := 28) ?hr ?_; (case hd => rfl); (case hg => rfl); (case hr => first | (go_simp; done) | (go_simp; rfl)); intro gf hg w4 bf_ hb; have HB4 := ak (below_step HB3.out hb); have BF := ak bf_; have GF := ak (show w.heap.size ≤ gf by rw [hg]; exact below_size HB3.out); have NF := ak (show gg ≠ gf by rw [hg]; exact Nat.ne_of_lt (blk_lt BG3.out)); have BG4 := ak (blk_below BG3.out hb); have k2 := bf BF 0; have k3 := bf BF 1; have k4 := bc0 BF; have k5 := bc1 BF; clear hb bf_ hg)
    | ((with_reducible refine gate_store (t := 28) (p := 3) rfl ?_); refine store_event (t := 28) (p := 3) (v := ?vo3) (w1 := (w4.setCell ⟨gf, 0, none⟩ (.int .i64 0)).setCell ⟨gf, 1, none⟩ (.int .i64 0)) ?hg ?ho ?hn ?hr ?_; (case ho => rfl); (case hg => rfl); (case hn => rfl); (case hr => first | (go_simp; done) | (go_simp; rfl)); intro w5 hw; have HB5 := ak (show Below w.heap.size w w5 by rw [hw]; exact below_set (below_set HB4.out GF.out) GF.out); have BF5 := ak (show w5.heap[gf]? = some (.cells #[.int .i64 0, .int .i64 0] 28 (0, 0)) by rw [hw]; exact blk_put (blk_put BF.out 0 _ rfl) 1 _ rfl); have BG5 := ak (show w5.heap[gg]? = some (.cells #[.int .i64 n, .slice A E.length cE] 24 (0, 0)) by rw [hw]; exact blk_far (blk_far BG4.out NF.out _) NF.out _); have k6 := bc0 BG5; have k7 := bc1 BG5; clear hw)
    | (go_at_call 10; (with_reducible refine (compassref03_Check.calls k n _ _ E 0 0 _ (Kd.C_below HR.out HB5.out) HC.out TD.out.ref).mono ?_); rintro e w6 ⟨rfl, hb⟩; have HB6 := ak (below_step HB5.out hb); have BG6 := ak (blk_below BG5.out hb); have BF6 := ak (blk_below BF5.out hb); have k8 := bc0 BG6; have k9 := bc1 BG6; clear hb)
    | (go_at_call 11; (with_reducible refine (graph_From.good k n _ _ E _ (Kd.C_below HR.out HB6.out) HC.out 0 TD.out.chk TD.out.len).mono ?_); rintro e w7 ⟨p, v, rfl, ns⟩; have HB7 := ak (below_step HB6.out ns.below); have BG7 := ak (blk_below BG6.out ns.below); have BF7 := ak (blk_below BF6.out ns.below); clear ns)
    | ((with_reducible refine gate_dst (N := 7) rfl ?_); refine box_event ?hg (N := 7) ?hd (cs := #[.int .i64 0, .int .i64 0]) (t := 28) ?hr ?_; (case hd => rfl); (case hg => rfl); (case hr => first | (go_simp; done) | (go_simp; rfl)); intro gh hg w8 bh_ hb; have HB8 := ak (below_step HB7.out hb); have BH := ak bh_; have GH := ak (show w.heap.size ≤ gh by rw [hg]; exact below_size HB7.out); have NH := ak (show gg ≠ gh by rw [hg]; exact Nat.ne_of_lt (blk_lt BG7.out)); have NK := ak (show gf ≠ gh by rw [hg]; exact Nat.ne_of_lt (blk_lt BF7.out)); have BG8 := ak (blk_below BG7.out hb); have BF8 := ak (blk_below BF7.out hb); have k10 := bf BH 0; have k11 := bf BH 1; have k12 := bc0 BH; have k13 := bc1 BH; clear hb bh_ hg)
    | ((with_reducible refine gate_store (t := 28) (p := 7) rfl ?_); refine store_event (t := 28) (p := 7) (v := ?vo7) (w1 := (w8.setCell ⟨gh, 0, none⟩ (.int .i64 0)).setCell ⟨gh, 1, none⟩ (.int .i64 0)) ?hg ?ho ?hn ?hr ?_; (case ho => rfl); (case hg => rfl); (case hn => rfl); (case hr => first | (go_simp; done) | (go_simp; rfl)); intro w9 hw; have G9 := ak (show GS w n A cE E 0 0 gg gf gh w9 by rw [hw]; exact ⟨below_set (below_set HB8.out GH.out) GH.out, blk_far (blk_far BG8.out NH.out _) NH.out _, blk_far (blk_far BF8.out NK.out _) NK.out _, blk_put (blk_put BH.out 0 _ rfl) 1 _ rfl⟩); clear hw))
  clear k0 k1 k2 k3 k4 k5 k6 k7 k8 k9 k10 k11 k12 k13
  clear HB1 HB2 HB3 HB4 HB5 HB6 HB7 HB8 BG BG2 BG3 BG4 BG5 BG6 BG7 BG8 BF BF5 BF6 BF7 BF8 BH GF GH NF NH NK
  go_region_held3 (fun w' => w'.cell? ⟨gg, 0, none⟩ = some (.int .i64 n) ∧ w'.cell? ⟨gg, 1, none⟩ = some (.slice A E.length cE) ∧ w'.cell? ⟨gf, 0, none⟩ = some (.int .i64 0) ∧ w'.cell? ⟨gf, 1, none⟩ = some (.int .i64 0) ∧ w'.cell? ⟨gh, 0, none⟩ = some (.int .i64 0) ∧ w'.cell? ⟨gh, 1, none⟩ = some (.int .i64 0)) (first | exact G12.out.six (Below.refl _ _) | exact G11.out.six (Below.refl _ _) | exact G10.out.six (Below.refl _ _) | exact G9.out.six (Below.refl _ _) | exact G9.out.six (below_drew (Below.refl _ _)))
    (first
      | (go_at_call 13; (with_reducible refine (graph_Reverse.calls k n _ _ E n X _ (Kd.C_below HR.out (below_drew G9.out.below)) HC.out TD.out.revg).mono ?_); rintro e w10 ⟨vr, rfl, rr, hb⟩; obtain ⟨Ar, cr, er_⟩ := Kd.R_slice rr; subst er_; have RR := ak rr; have G10 := ak (G9.out.later (below_step (below_drew (Below.refl _ _)) hb)); clear hb rr)
      | (go_at_call 14; (with_reducible refine (compassref03_Reverse.calls k n _ _ E n X _ (Kd.C_below HR.out G10.out.below) HC.out TD.out.rev).mono ?_); rintro e w11 ⟨vs, rfl, rs, hb⟩; obtain ⟨As, cs_, es_⟩ := Kd.R_slice rs; subst es_; have RS := ak rs; have RR2 := ak (Kd.R_below RR.out hb); have G11 := ak (G10.out.later hb); clear hb rs)
      | (go_at_call 12; (with_reducible refine (compassref03_Same.calls k n _ _ X n _ _ X true _ (Kd.R_reads' RR2.out).2.2 (Kd.R_reads' RR2.out).2.1 (Kd.R_reads' RS.out).2.2 (Kd.R_reads' RS.out).2.1 TD.out.same).mono ?_); rintro e w12 ⟨rfl, hb⟩; have G12 := ak (G11.out.later hb); clear hb))
  go_wp2
  go_ret
  exact ⟨rfl, G12.out.below⟩
def compasslaw03_GraphChecks.f (k : Nat) (n : Int) (E : List S39) : Prop := ∃ X c a a0, compasslaw03_GraphChecks.Told k n E X c a a0
theorem compasslaw03_GraphChecks.calls (k : Nat) (n : Int) (A : Option Addr) (cE : Nat) (E : List S39) (r : Bool) (w : World) (hr : Kd.C k39 w A E.length E) (hc : E.length ≤ cE) (hr_ : r = true) (h : compasslaw03_GraphChecks.f k n E) :
    Calls Try.prog 3 #[.agg #[.int .i64 n, .slice A E.length cE]] w fun e w' => e = .returned (.bool r) ∧ Below w.heap.size w w' := by
  subst hr_
  obtain ⟨X, c, a, a0, TD⟩ := h
  by_cases z : c = 0
  · exact compasslaw03_GraphChecks.good k n A cE E w hr hc X c a a0 TD z
  · exact compasslaw03_GraphChecks.bad k n A cE E w hr hc X c a a0 TD z
end Go.Proofs.Ytpmclhkednehhaa.Q
