/- GraphTurns: the law's walk, typed by hand. -/
import Derived.Test.YtpmclhkednehhaaQ27
import Derived.Test.YtpmclhkednehhaaQ3
import Derived.Test.YtpmclhkednehhaaQ40
import Derived.Test.YtpmclhkednehhaaNetH
import Derived.Test.YtpmclhkednehhaaNetF
import Derived.Test.YtpmclhkednehhaaQ42
set_option linter.unusedVariables false
set_option linter.unusedSimpArgs false
namespace Go.Proofs.Ytpmclhkednehhaa.Q
open Go.RowKit Go.Proofs.YtpmclhkednehhaaW.PrintWords Go.Proofs.YtpmclhkednehhaaW.PrintLast Go.Proofs.YtpmclhkednehhaaW.PrintMore
attribute [local go_sem high] eqA28
/-- How many edges go out of the first nodes and come into them. -/
def tot (E : List S39) : Nat → Nat
  | 0 => 0
  | u + 1 => tot E u + ((outs (u : Int) E).length + (ins (u : Int) E).length)
structure compasslaw03_GraphTurns.Told (k : Nat) (n : Int) (E X : List S39) (c a a0 v : Int) : Prop where
  len : E.length < 4398046511104
  lenX : X.length = E.length
  two : graph_Check.f k 2 [] = some (0, a0)
  lab : graph_label.f 0 1 3 0 = some true
  chk : graph_Check.f k n E = some (c, a)
  chkX : graph_Check.f k n X = some (c, a)
  zero : c = 0 → a = 0
  revg : graph_Reverse.f k n E = some (n, X)
  revX : graph_Reverse.f k n X = some (n, E)
  same : compassref03_Same.f k n E n E = some true
  node : c = 0 → 0 ≤ n ∧ n ≤ 1024 ∧ E.length ≤ 4096
  turn : outs v E = ins v X
  tots : c = 0 → tot E n.toNat = 2 * E.length
  tot_le : ∀ u, tot E u ≤ 2 * E.length
/-- The graph's box and the turned one's. -/
structure TS (w0 : World) (n : Int) (A : Option Addr) (cE : Nat) (E X : List S39) (gg gr : Nat) (Ar : Option Addr) (cr : Nat) (W : World) : Prop where
  below : Below w0.heap.size w0 W
  bg : W.heap[gg]? = some (.cells #[.int .i64 n, .slice A E.length cE] 24 (0, 0))
  br : W.heap[gr]? = some (.cells #[.int .i64 n, .slice Ar X.length cr] 24 (0, 0))
  rr : Kd.R k39 39 W w0.heap.size (fun _ => True) (.slice Ar X.length cr) X
section
variable {w0 : World} {n : Int} {A : Option Addr} {cE : Nat} {E X : List S39} {gg gr : Nat} {Ar : Option Addr} {cr : Nat} {W : World}
theorem TS.later (h : TS w0 n A cE E X gg gr Ar cr W) {W' : World} (hb : Below W.heap.size W W') : TS w0 n A cE E X gg gr Ar cr W' :=
  ⟨below_step h.below hb, blk_below h.bg hb, blk_below h.br hb, Kd.R_below h.rr hb⟩
theorem TS.four (h : TS w0 n A cE E X gg gr Ar cr W) {W' : World} (hb : Below W.heap.size W W') : W'.cell? ⟨gg, 0, none⟩ = some (.int .i64 n) ∧ W'.cell? ⟨gg, 1, none⟩ = some (.slice A E.length cE) ∧ W'.cell? ⟨gr, 0, none⟩ = some (.int .i64 n) ∧ W'.cell? ⟨gr, 1, none⟩ = some (.slice Ar X.length cr) := by
  have q := h.later hb
  exact ⟨(blk_cell q.bg 0).trans rfl, (blk_cell q.bg 1).trans rfl, (blk_cell q.br 0).trans rfl, (blk_cell q.br 1).trans rfl⟩
theorem TS.put (h : TS w0 n A cE E X gg gr Ar cr W) {g : Nat} {x0 y0 : Value} (g0 : w0.heap.size ≤ g) (ng : gg ≠ g) (nr : gr ≠ g) (hb : W.heap[g]? = some (.cells #[x0, y0] 28 (0, 0))) (x y : Value) : TS w0 n A cE E X gg gr Ar cr ((W.setCell ⟨g, 0, none⟩ x).setCell ⟨g, 1, none⟩ y) :=
  ⟨below_set (below_set h.below g0) g0, blk_far (blk_far h.bg ng _) ng _, blk_far (blk_far h.br nr _) nr _, Kd.R_set (Kd.R_set h.rr hb (by decide) 0 _) (blk_put hb 0 _ rfl) (by decide) 1 _⟩
end
/-- A net in a world. -/
structure NW (b0 : Nat) (p : Nat) (n : Int) (v : Value) (E : List S39) (W : World) : Prop where
  bp : W.heap[p]? = some (.cells #[.int .i64 n, v] 44 (0, 0))
  row : Kd.R k39 39 W b0 (fun _ => True) v E
theorem NW.later {b0 p : Nat} {n : Int} {v : Value} {E : List S39} {W W' : World} (h : NW b0 p n v E W) (hb : Below W.heap.size W W') : NW b0 p n v E W' := ⟨blk_below h.bp hb, Kd.R_below h.row hb⟩
def er (v n : Int) : Int := if 0 ≤ v ∧ v < n then 0 else 30
def outsO (v n : Int) (E : List S39) : List Int := if 0 ≤ v ∧ v < n then outs v E else []
theorem outsO_len (v n : Int) (E : List S39) : (outsO v n E).length ≤ E.length := by
  unfold outsO
  by_cases h : 0 ≤ v ∧ v < n
  · rw [if_pos h]; exact pick_len _ _ _
  · rw [if_neg h]; exact Nat.zero_le _
theorem Net_Out.both (p : Nat) (n v : Int) (A : Option Addr) (cap : Nat) (E : List S39) (W : World) (hp : W.heap[p]? = some (.cells #[.int .i64 n, .slice A E.length cap] 44 (0, 0))) (hr : Kd.C k39 W A E.length E) (hc : E.length ≤ cap) (hl : E.length < 4398046511104) :
    Calls Try.prog 17 #[.pointer (some ⟨p, 0, none⟩), .int .i64 v] W fun x w' => ∃ u : Value, x = .returned (.tuple #[u, .int .i64 (er v n)]) ∧ Kd.R (Kd.int .i64) 3 w' W.heap.size (fun _ => True) u (outsO v n E) ∧ Below W.heap.size W w' := by
  unfold er outsO
  by_cases h : 0 ≤ v ∧ v < n
  · rw [if_pos h, if_pos h]
    exact Net_Out.good p n v A cap E W hp hr hc hl h.1 h.2
  · rw [if_neg h, if_neg h]
    refine (Net_Out.bad p n v A cap E W hp h).mono ?_
    rintro x w' ⟨rfl, hb⟩
    exact ⟨_, rfl, Kd.R_nil _ _ _ _ _, hb⟩
theorem Net_In.both (p : Nat) (n v : Int) (A : Option Addr) (cap : Nat) (E X : List S39) (W : World) (hp : W.heap[p]? = some (.cells #[.int .i64 n, .slice A E.length cap] 44 (0, 0))) (hr : Kd.C k39 W A E.length E) (hc : E.length ≤ cap) (hl : E.length < 4398046511104) (ht : outs v X = ins v E) :
    Calls Try.prog 18 #[.pointer (some ⟨p, 0, none⟩), .int .i64 v] W fun x w' => ∃ u : Value, x = .returned (.tuple #[u, .int .i64 (er v n)]) ∧ Kd.R (Kd.int .i64) 3 w' W.heap.size (fun _ => True) u (outsO v n X) ∧ Below W.heap.size W w' := by
  unfold er outsO
  by_cases h : 0 ≤ v ∧ v < n
  · rw [if_pos h, if_pos h, ht]
    exact Net_In.good p n v A cap E W hp hr hc hl h.1 h.2
  · rw [if_neg h, if_neg h]
    refine (Net_In.bad p n v A cap E W hp h).mono ?_
    rintro x w' ⟨rfl, hb⟩
    exact ⟨_, rfl, Kd.R_nil _ _ _ _ _, hb⟩
theorem NW.put {b0 p : Nat} {n : Int} {v : Value} {E : List S39} {W : World} (h : NW b0 p n v E W) {g : Nat} {x0 y0 : Value} (np : p ≠ g) (hb : W.heap[g]? = some (.cells #[x0, y0] 28 (0, 0))) (x y : Value) : NW b0 p n v E ((W.setCell ⟨g, 0, none⟩ x).setCell ⟨g, 1, none⟩ y) :=
  ⟨blk_far (blk_far h.bp np _) np _, Kd.R_set (Kd.R_set h.row hb (by decide) 0 _) (blk_put hb 0 _ rfl) (by decide) 1 _⟩
set_option maxHeartbeats 8000000 in
set_option maxRecDepth 100000 in
theorem compasslaw03_GraphTurns.bad (k : Nat) (n : Int) (A : Option Addr) (cE : Nat) (E : List S39) (v : Int) (w : World) (hr : Kd.C k39 w A E.length E) (hc : E.length ≤ cE) (X : List S39) (c a a0 : Int) (TD0 : compasslaw03_GraphTurns.Told k n E X c a a0 v) (z : ¬ c = 0) :
    Calls Try.prog 5 #[.agg #[.int .i64 n, .slice A E.length cE], .int .i64 v] w fun e w' => e = .returned (.bool true) ∧ Below w.heap.size w w' := by
  have hu24 := Try.underlying24
  have hu28 := Try.underlying28
  have hu44 := Try.underlying44
  have TD := ak TD0
  clear TD0
  have HR := ak hr
  have HC := ak hc
  clear hr hc
  have HB := ak (Below.refl w.heap.size w)
  have CZ := ak z
  have z1 : (c == 0) = false := beq_eq_false_iff_ne.mpr z
  have z2 : (c != 0) = true := bne_iff_ne.mpr z
  have z3 : (c == c) = true := beq_self_eq_true c
  have z4 : (a == a) = true := beq_self_eq_true a
  clear z
  go_enter Try.func5, Try.ntmps5
  go_wp2_with (first
    | ((with_reducible refine gate_dst (N := 2) rfl ?_); refine box_event ?hg (N := 2) ?hd (cs := #[.int .i64 n, .slice A E.length cE]) (t := 24) ?hr ?_; (case hd => rfl); (case hg => rfl); (case hr => first | (go_simp; done) | (go_simp; rfl)); intro gg hg w1 bg hb; have HB1 := ak (below_step HB.out hb); have BG := ak bg; clear hb bg hg)
    | (go_at_call 8; (with_reducible refine (compasslaw03_awake.calls k a0 TD.out.two TD.out.lab _).mono ?_); rintro e w2 ⟨rfl, hb⟩; have HB2 := ak (below_step HB1.out hb); have BG2 := ak (blk_below BG.out hb); have k0 := bc0 BG2; have k1 := bc1 BG2; clear hb)
    | (go_at_call 13; (with_reducible refine (graph_Reverse.calls k n _ _ E n X _ (Kd.C_below HR.out HB2.out) HC.out TD.out.revg).mono ?_); rintro e w3 ⟨vr, rfl, rr, hb⟩; obtain ⟨Ar, cr, er_⟩ := Kd.R_slice rr; subst er_; have RR := ak (Kd.R_lower rr (below_size HB2.out)); have HB3 := ak (below_step HB2.out hb); have BG3 := ak (blk_below BG2.out hb); clear hb rr)
    | ((with_reducible refine gate_dst (N := 5) rfl ?_); refine box_event ?hg (N := 5) ?hd (cs := #[.int .i64 0, .slice none 0 0]) (t := 24) ?hr ?_; (case hd => rfl); (case hg => rfl); (case hr => first | (go_simp; done) | (go_simp; rfl)); intro gr hg w4 br hb; have HB4 := ak (below_step HB3.out hb); have BR := ak br; have GR := ak (show w.heap.size ≤ gr by rw [hg]; exact below_size HB3.out); have NR := ak (show gg ≠ gr by rw [hg]; exact Nat.ne_of_lt (blk_lt BG3.out)); have BG4 := ak (blk_below BG3.out hb); have RR4 := ak (Kd.R_below RR.out hb); have k2 := bf BR 0; have k3 := bf BR 1; have k4 := bc0 BR; have k5 := bc1 BR; clear hb br hg)
    | ((with_reducible refine gate_store (t := 24) (p := 5) rfl ?_); refine store_event (t := 24) (p := 5) (v := ?vo5) (w1 := (w4.setCell ⟨gr, 0, none⟩ (.int .i64 n)).setCell ⟨gr, 1, none⟩ (.slice Ar X.length cr)) ?hg ?ho ?hn ?hr ?_; (case ho => rfl); (case hg => rfl); (case hn => rfl); (case hr => first | (go_simp; done) | (go_simp; rfl)); intro w5 hw; have T5 := ak (show TS w n A cE E X gg gr Ar cr w5 by rw [hw]; exact ⟨below_set (below_set HB4.out GR.out) GR.out, blk_far (blk_far BG4.out NR.out _) NR.out _, blk_put (blk_put BR.out 0 _ rfl) 1 _ rfl, Kd.R_set (Kd.R_set RR4.out BR.out (by decide) 0 _) (blk_put BR.out 0 _ rfl) (by decide) 1 _⟩); clear hw))
  clear k0 k1 k2 k3 k4 k5
  clear HB1 HB2 HB3 HB4 BG BG2 BG3 BG4 BR GR NR RR RR4
  have LO := ak (show (outsO v n E).length < 4398046511104 from Nat.lt_of_le_of_lt (outsO_len v n E) TD.out.len)
  have LX := ak (show X.length < 4398046511104 by rw [TD.out.lenX]; exact TD.out.len)
  go_region_held3 (fun w' => w'.cell? ⟨gg, 0, none⟩ = some (.int .i64 n) ∧ w'.cell? ⟨gg, 1, none⟩ = some (.slice A E.length cE) ∧ w'.cell? ⟨gr, 0, none⟩ = some (.int .i64 n) ∧ w'.cell? ⟨gr, 1, none⟩ = some (.slice Ar X.length cr)) (first | exact T7.out.four (Below.refl _ _) | exact T6.out.four (Below.refl _ _) | exact T5.out.four (below_drew (Below.refl _ _)) | exact T5.out.four (Below.refl _ _))
    (first
      | (go_at_call 13; (with_reducible refine (graph_Reverse.calls k n _ _ X n E _ (Kd.C_below (Kd.R_reads' T5.out.rr).2.2 (below_drew (Below.refl _ _))) (Kd.R_reads' T5.out.rr).2.1 TD.out.revX).mono ?_); rintro e w6 ⟨vs, rfl, rs, hb⟩; obtain ⟨As, cs_, es_⟩ := Kd.R_slice rs; subst es_; have RS := ak rs; have T6 := ak (T5.out.later (below_step (below_drew (Below.refl _ _)) hb)); clear hb rs)
      | (go_at_call 12; (with_reducible refine (compassref03_Same.calls k n _ _ E n _ _ E true _ (Kd.R_reads' RS.out).2.2 (Kd.R_reads' RS.out).2.1 (Kd.C_below HR.out T6.out.below) HC.out TD.out.same).mono ?_); rintro e w7 ⟨rfl, hb⟩; have T7 := ak (T6.out.later hb); clear hb))
  clear T5 T6 RS
  have k0 := (blk_cell T7.out.bg 0).trans rfl
  have k1 := (blk_cell T7.out.bg 1).trans rfl
  go_wp2_with (first
    | (go_at_call 11; have NX := B8; (with_reducible refine (graph_From.bad k n _ _ X _ (Kd.R_reads' T9.out.rr).2.2 (Kd.R_reads' T9.out.rr).2.1 c a TD.out.chkX CZ.out).mono ?_); rintro e w10 ⟨rfl, hb⟩; have T10 := ak (T9.out.later hb); have BF10 := ak (blk_below BF9.out hb); clear hb NX)
    | (go_at_call 11; (with_reducible refine (graph_From.bad k n _ _ E _ (Kd.C_below HR.out T7.out.below) HC.out c a TD.out.chk CZ.out).mono ?_); rintro e w8 ⟨rfl, hb⟩; have T8 := ak (T7.out.later hb); have B8 := ak True.intro; clear hb)
    | ((with_reducible refine gate_dst (N := 7) rfl ?_); refine box_event ?hg (N := 7) ?hd (cs := #[.int .i64 0, .int .i64 0]) (t := 28) ?hr ?_; (case hd => rfl); (case hg => rfl); (case hr => first | (go_simp; done) | (go_simp; rfl)); intro gf hg w8b bf_ hb; have T8b := ak (T8.out.later hb); have BF := ak bf_; have GF := ak (show w.heap.size ≤ gf by rw [hg]; exact below_size T8.out.below); have NF := ak (show gg ≠ gf by rw [hg]; exact Nat.ne_of_lt (blk_lt T8.out.bg)); have NG := ak (show gr ≠ gf by rw [hg]; exact Nat.ne_of_lt (blk_lt T8.out.br)); have k2 := bf BF 0; have k3 := bf BF 1; have k4 := bc0 BF; have k5 := bc1 BF; clear hb bf_ hg)
    | ((with_reducible refine gate_store (t := 28) (p := 7) rfl ?_); refine store_event (t := 28) (p := 7) (v := ?vo7) (w1 := (w8b.setCell ⟨gf, 0, none⟩ (.int .i64 c)).setCell ⟨gf, 1, none⟩ (.int .i64 a)) ?hg ?ho ?hn ?hr ?_; (case ho => rfl); (case hg => rfl); (case hn => rfl); (case hr => first | (go_simp; done) | (go_simp; rfl)); intro w9 hw; have T9 := ak (show TS w n A cE E X gg gr Ar cr w9 by rw [hw]; exact T8b.out.put GF.out NF.out NG.out BF.out _ _); have BF9 := ak (show w9.heap[gf]? = some (.cells #[.int .i64 c, .int .i64 a] 28 (0, 0)) by rw [hw]; exact blk_put (blk_put BF.out 0 _ rfl) 1 _ rfl); have k6 := (blk_cell T9.out.br 0).trans rfl; have k7 := (blk_cell T9.out.br 1).trans rfl; clear hw)
    | ((with_reducible refine gate_dst (N := 9) rfl ?_); refine box_event ?hg (N := 9) ?hd (cs := #[.int .i64 0, .int .i64 0]) (t := 28) ?hr ?_; (case hd => rfl); (case hg => rfl); (case hr => first | (go_simp; done) | (go_simp; rfl)); intro gh hg w11 bh_ hb; have T11 := ak (T10.out.later hb); have BH := ak bh_; have BF11 := ak (blk_below BF10.out hb); have GH := ak (show w.heap.size ≤ gh by rw [hg]; exact below_size T10.out.below); have NF2 := ak (show gg ≠ gh by rw [hg]; exact Nat.ne_of_lt (blk_lt T10.out.bg)); have NG2 := ak (show gr ≠ gh by rw [hg]; exact Nat.ne_of_lt (blk_lt T10.out.br)); have NH2 := ak (show gf ≠ gh by rw [hg]; exact Nat.ne_of_lt (blk_lt BF10.out)); have k8 := bf BH 0; have k9 := bf BH 1; have k10 := bc0 BH; have k11 := bc1 BH; clear hb bh_ hg)
    | ((with_reducible refine gate_store (t := 28) (p := 9) rfl ?_); refine store_event (t := 28) (p := 9) (v := ?vo9) (w1 := (w11.setCell ⟨gh, 0, none⟩ (.int .i64 c)).setCell ⟨gh, 1, none⟩ (.int .i64 a)) ?hg ?ho ?hn ?hr ?_; (case ho => rfl); (case hg => rfl); (case hn => rfl); (case hr => first | (go_simp; done) | (go_simp; rfl)); intro w12 hw; have T12 := ak (show TS w n A cE E X gg gr Ar cr w12 by rw [hw]; exact T11.out.put GH.out NF2.out NG2.out BH.out _ _); have BF12 := ak (show w12.heap[gf]? = some (.cells #[.int .i64 c, .int .i64 a] 28 (0, 0)) by rw [hw]; exact blk_far (blk_far BF11.out NH2.out _) NH2.out _); have BH12 := ak (show w12.heap[gh]? = some (.cells #[.int .i64 c, .int .i64 a] 28 (0, 0)) by rw [hw]; exact blk_put (blk_put BH.out 0 _ rfl) 1 _ rfl); have k12 := bc0 BF12; have k13 := bc1 BF12; have k14 := bc0 BH12; have k15 := bc1 BH12; clear hw))
  go_ret
  exact ⟨rfl, T12.out.below⟩
set_option maxHeartbeats 8000000 in
set_option maxRecDepth 100000 in
theorem compasslaw03_GraphTurns.good (k : Nat) (n : Int) (A : Option Addr) (cE : Nat) (E : List S39) (v : Int) (w : World) (hr : Kd.C k39 w A E.length E) (hc : E.length ≤ cE) (X : List S39) (c a a0 : Int) (TD0 : compasslaw03_GraphTurns.Told k n E X c a a0 v) (z : c = 0) :
    Calls Try.prog 5 #[.agg #[.int .i64 n, .slice A E.length cE], .int .i64 v] w fun e w' => e = .returned (.bool true) ∧ Below w.heap.size w w' := by
  have hu24 := Try.underlying24
  have hu28 := Try.underlying28
  have hu44 := Try.underlying44
  have TD := ak TD0
  clear TD0
  have HR := ak hr
  have HC := ak hc
  clear hr hc
  have HB := ak (Below.refl w.heap.size w)
  subst z
  obtain rfl := TD.out.zero rfl
  go_enter Try.func5, Try.ntmps5
  go_wp2_with (first
    | ((with_reducible refine gate_dst (N := 2) rfl ?_); refine box_event ?hg (N := 2) ?hd (cs := #[.int .i64 n, .slice A E.length cE]) (t := 24) ?hr ?_; (case hd => rfl); (case hg => rfl); (case hr => first | (go_simp; done) | (go_simp; rfl)); intro gg hg w1 bg hb; have HB1 := ak (below_step HB.out hb); have BG := ak bg; clear hb bg hg)
    | (go_at_call 8; (with_reducible refine (compasslaw03_awake.calls k a0 TD.out.two TD.out.lab _).mono ?_); rintro e w2 ⟨rfl, hb⟩; have HB2 := ak (below_step HB1.out hb); have BG2 := ak (blk_below BG.out hb); have k0 := bc0 BG2; have k1 := bc1 BG2; clear hb)
    | (go_at_call 13; (with_reducible refine (graph_Reverse.calls k n _ _ E n X _ (Kd.C_below HR.out HB2.out) HC.out TD.out.revg).mono ?_); rintro e w3 ⟨vr, rfl, rr, hb⟩; obtain ⟨Ar, cr, er_⟩ := Kd.R_slice rr; subst er_; have RR := ak (Kd.R_lower rr (below_size HB2.out)); have HB3 := ak (below_step HB2.out hb); have BG3 := ak (blk_below BG2.out hb); clear hb rr)
    | ((with_reducible refine gate_dst (N := 5) rfl ?_); refine box_event ?hg (N := 5) ?hd (cs := #[.int .i64 0, .slice none 0 0]) (t := 24) ?hr ?_; (case hd => rfl); (case hg => rfl); (case hr => first | (go_simp; done) | (go_simp; rfl)); intro gr hg w4 br hb; have HB4 := ak (below_step HB3.out hb); have BR := ak br; have GR := ak (show w.heap.size ≤ gr by rw [hg]; exact below_size HB3.out); have NR := ak (show gg ≠ gr by rw [hg]; exact Nat.ne_of_lt (blk_lt BG3.out)); have BG4 := ak (blk_below BG3.out hb); have RR4 := ak (Kd.R_below RR.out hb); have k2 := bf BR 0; have k3 := bf BR 1; have k4 := bc0 BR; have k5 := bc1 BR; clear hb br hg)
    | ((with_reducible refine gate_store (t := 24) (p := 5) rfl ?_); refine store_event (t := 24) (p := 5) (v := ?vo5) (w1 := (w4.setCell ⟨gr, 0, none⟩ (.int .i64 n)).setCell ⟨gr, 1, none⟩ (.slice Ar X.length cr)) ?hg ?ho ?hn ?hr ?_; (case ho => rfl); (case hg => rfl); (case hn => rfl); (case hr => first | (go_simp; done) | (go_simp; rfl)); intro w5 hw; have T5 := ak (show TS w n A cE E X gg gr Ar cr w5 by rw [hw]; exact ⟨below_set (below_set HB4.out GR.out) GR.out, blk_far (blk_far BG4.out NR.out _) NR.out _, blk_put (blk_put BR.out 0 _ rfl) 1 _ rfl, Kd.R_set (Kd.R_set RR4.out BR.out (by decide) 0 _) (blk_put BR.out 0 _ rfl) (by decide) 1 _⟩); clear hw))
  clear k0 k1 k2 k3 k4 k5
  clear HB1 HB2 HB3 HB4 BG BG2 BG3 BG4 BR GR NR RR RR4
  have LO := ak (show (outsO v n E).length < 4398046511104 from Nat.lt_of_le_of_lt (outsO_len v n E) TD.out.len)
  have LX := ak (show X.length < 4398046511104 by rw [TD.out.lenX]; exact TD.out.len)
  go_region_held3 (fun w' => w'.cell? ⟨gg, 0, none⟩ = some (.int .i64 n) ∧ w'.cell? ⟨gg, 1, none⟩ = some (.slice A E.length cE) ∧ w'.cell? ⟨gr, 0, none⟩ = some (.int .i64 n) ∧ w'.cell? ⟨gr, 1, none⟩ = some (.slice Ar X.length cr)) (first | exact T7.out.four (Below.refl _ _) | exact T6.out.four (Below.refl _ _) | exact T5.out.four (below_drew (Below.refl _ _)) | exact T5.out.four (Below.refl _ _))
    (first
      | (go_at_call 13; (with_reducible refine (graph_Reverse.calls k n _ _ X n E _ (Kd.C_below (Kd.R_reads' T5.out.rr).2.2 (below_drew (Below.refl _ _))) (Kd.R_reads' T5.out.rr).2.1 TD.out.revX).mono ?_); rintro e w6 ⟨vs, rfl, rs, hb⟩; obtain ⟨As, cs_, es_⟩ := Kd.R_slice rs; subst es_; have RS := ak rs; have T6 := ak (T5.out.later (below_step (below_drew (Below.refl _ _)) hb)); clear hb rs)
      | (go_at_call 12; (with_reducible refine (compassref03_Same.calls k n _ _ E n _ _ E true _ (Kd.R_reads' RS.out).2.2 (Kd.R_reads' RS.out).2.1 (Kd.C_below HR.out T6.out.below) HC.out TD.out.same).mono ?_); rintro e w7 ⟨rfl, hb⟩; have T7 := ak (T6.out.later hb); clear hb))
  clear T5 T6 RS
  have k0 := (blk_cell T7.out.bg 0).trans rfl
  have k1 := (blk_cell T7.out.bg 1).trans rfl
  go_wp2_with (first
    | (go_at_call 11; have NX := B8; (with_reducible refine (graph_From.good k n _ _ X _ (Kd.R_reads' T9.out.rr).2.2 (Kd.R_reads' T9.out.rr).2.1 0 TD.out.chkX LX.out).mono ?_); rintro e w10 ⟨q, vq, rfl, ns⟩; obtain ⟨Aq, cq, eq_⟩ := Kd.R_slice ns.row; subst eq_; have M1 := ak (show NW w9.heap.size q n (.slice Aq X.length cq) X w10 from ⟨ns.bp, ns.row⟩); have N4 := ak (N3.out.later ns.below); have T10 := ak (T9.out.later ns.below); have BF10 := ak (blk_below BF9.out ns.below); clear ns NX)
    | (go_at_call 11; (with_reducible refine (graph_From.good k n _ _ E _ (Kd.C_below HR.out T7.out.below) HC.out 0 TD.out.chk TD.out.len).mono ?_); rintro e w8 ⟨p, vp, rfl, ns⟩; obtain ⟨Ap, cp, ep_⟩ := Kd.R_slice ns.row; subst ep_; have N1 := ak (show NW w7.heap.size p n (.slice Ap E.length cp) E w8 from ⟨ns.bp, ns.row⟩); have T8 := ak (T7.out.later ns.below); have B8 := ak True.intro; clear ns)
    | ((with_reducible refine gate_dst (N := 7) rfl ?_); refine box_event ?hg (N := 7) ?hd (cs := #[.int .i64 0, .int .i64 0]) (t := 28) ?hr ?_; (case hd => rfl); (case hg => rfl); (case hr => first | (go_simp; done) | (go_simp; rfl)); intro gf hg w8b bf_ hb; have T8b := ak (T8.out.later hb); have N2 := ak (N1.out.later hb); have NP := ak (show p ≠ gf by rw [hg]; exact Nat.ne_of_lt (blk_lt N1.out.bp)); have BF := ak bf_; have GF := ak (show w.heap.size ≤ gf by rw [hg]; exact below_size T8.out.below); have NF := ak (show gg ≠ gf by rw [hg]; exact Nat.ne_of_lt (blk_lt T8.out.bg)); have NG := ak (show gr ≠ gf by rw [hg]; exact Nat.ne_of_lt (blk_lt T8.out.br)); have k2 := bf BF 0; have k3 := bf BF 1; have k4 := bc0 BF; have k5 := bc1 BF; clear hb bf_ hg)
    | ((with_reducible refine gate_store (t := 28) (p := 7) rfl ?_); refine store_event (t := 28) (p := 7) (v := ?vo7) (w1 := (w8b.setCell ⟨gf, 0, none⟩ (.int .i64 0)).setCell ⟨gf, 1, none⟩ (.int .i64 0)) ?hg ?ho ?hn ?hr ?_; (case ho => rfl); (case hg => rfl); (case hn => rfl); (case hr => first | (go_simp; done) | (go_simp; rfl)); intro w9 hw; have T9 := ak (show TS w n A cE E X gg gr Ar cr w9 by rw [hw]; exact T8b.out.put GF.out NF.out NG.out BF.out _ _); have N3 := ak (show NW w7.heap.size p n (.slice Ap E.length cp) E w9 by rw [hw]; exact N2.out.put NP.out BF.out _ _); have BF9 := ak (show w9.heap[gf]? = some (.cells #[.int .i64 0, .int .i64 0] 28 (0, 0)) by rw [hw]; exact blk_put (blk_put BF.out 0 _ rfl) 1 _ rfl); have k6 := (blk_cell T9.out.br 0).trans rfl; have k7 := (blk_cell T9.out.br 1).trans rfl; clear hw)
    | ((with_reducible refine gate_dst (N := 9) rfl ?_); refine box_event ?hg (N := 9) ?hd (cs := #[.int .i64 0, .int .i64 0]) (t := 28) ?hr ?_; (case hd => rfl); (case hg => rfl); (case hr => first | (go_simp; done) | (go_simp; rfl)); intro gh hg w11 bh_ hb; have T11 := ak (T10.out.later hb); have N5 := ak (N4.out.later hb); have NP2 := ak (show p ≠ gh by rw [hg]; exact Nat.ne_of_lt (blk_lt N4.out.bp)); have M2 := ak (M1.out.later hb); have NP3 := ak (show q ≠ gh by rw [hg]; exact Nat.ne_of_lt (blk_lt M1.out.bp)); have BH := ak bh_; have BF11 := ak (blk_below BF10.out hb); have GH := ak (show w.heap.size ≤ gh by rw [hg]; exact below_size T10.out.below); have NF2 := ak (show gg ≠ gh by rw [hg]; exact Nat.ne_of_lt (blk_lt T10.out.bg)); have NG2 := ak (show gr ≠ gh by rw [hg]; exact Nat.ne_of_lt (blk_lt T10.out.br)); have NH2 := ak (show gf ≠ gh by rw [hg]; exact Nat.ne_of_lt (blk_lt BF10.out)); have k8 := bf BH 0; have k9 := bf BH 1; have k10 := bc0 BH; have k11 := bc1 BH; clear hb bh_ hg)
    | ((with_reducible refine gate_store (t := 28) (p := 9) rfl ?_); refine store_event (t := 28) (p := 9) (v := ?vo9) (w1 := (w11.setCell ⟨gh, 0, none⟩ (.int .i64 0)).setCell ⟨gh, 1, none⟩ (.int .i64 0)) ?hg ?ho ?hn ?hr ?_; (case ho => rfl); (case hg => rfl); (case hn => rfl); (case hr => first | (go_simp; done) | (go_simp; rfl)); intro w12 hw; have T12 := ak (show TS w n A cE E X gg gr Ar cr w12 by rw [hw]; exact T11.out.put GH.out NF2.out NG2.out BH.out _ _); have N6 := ak (show NW w7.heap.size p n (.slice Ap E.length cp) E w12 by rw [hw]; exact N5.out.put NP2.out BH.out _ _); have M3 := ak (show NW w9.heap.size q n (.slice Aq X.length cq) X w12 by rw [hw]; exact M2.out.put NP3.out BH.out _ _); have BF12 := ak (show w12.heap[gf]? = some (.cells #[.int .i64 0, .int .i64 0] 28 (0, 0)) by rw [hw]; exact blk_far (blk_far BF11.out NH2.out _) NH2.out _); have BH12 := ak (show w12.heap[gh]? = some (.cells #[.int .i64 0, .int .i64 0] 28 (0, 0)) by rw [hw]; exact blk_put (blk_put BH.out 0 _ rfl) 1 _ rfl); have k12 := bc0 BF12; have k13 := bc1 BF12; have k14 := bc0 BH12; have k15 := bc1 BH12; clear hw)
    | (go_at_call 17; (with_reducible refine (Net_Out.both p n v Ap cp E _ N6.out.bp (Kd.R_reads' N6.out.row).2.2 (Kd.R_reads' N6.out.row).2.1 TD.out.len).mono ?_); rintro e w13 ⟨u, rfl, ru, hb⟩; obtain ⟨Au, cu, eu_⟩ := Kd.R_slice ru; subst eu_; have RU := ak ru; have T13 := ak (T12.out.later hb); have N7 := ak (N6.out.later hb); have M4 := ak (M3.out.later hb); clear hb ru)
    | (go_at_call 18; (with_reducible refine (Net_In.both q n v Aq cq X E _ M4.out.bp (Kd.R_reads' M4.out.row).2.2 (Kd.R_reads' M4.out.row).2.1 LX.out TD.out.turn).mono ?_); rintro e w14 ⟨u2, rfl, ru, hb⟩; obtain ⟨Av, cv, ev_⟩ := Kd.R_slice ru; subst ev_; have RV := ak ru; have RU2 := ak (Kd.R_below RU.out hb); have T14 := ak (T13.out.later hb); have N8 := ak (N7.out.later hb); clear hb ru)
    | (go_at_call 19; (with_reducible refine (compasslaw03_ints.same _ _ _ _ (outsO v n E) _ (Kd.R_reads' RU2.out).2.2 (Kd.R_reads' RV.out).2.2 LO.out).mono ?_); rintro e w15 ⟨rfl, hb⟩; have T15 := ak (T14.out.later hb); have N9 := ak (N8.out.later hb); clear hb))
  clear k0 k1 k2 k3 k4 k5 k6 k7 k8 k9 k10 k11 k12 k13 k14 k15
  clear T7 T8 T8b T9 T10 T11 T12 T13 T14 N1 N2 N3 N4 N5 N6 N7 N8 M1 M2 M3 M4 RU RU2 RV BF BF9 BF10 BF11 BF12 BH BH12 GF GH NF NG NP NF2 NG2 NH2 NP2 NP3 B8
  obtain ⟨n0, n1, e1⟩ := TD.out.node rfl
  have N0 := ak n0
  have N1 := ak n1
  have E1 := ak e1
  clear n0 n1 e1
  have B0 := ak T15.out.below
  clear T15
  obtain ⟨b0, eb0⟩ : ∃ m, m = w7.heap.size := ⟨_, rfl⟩
  rw [← eb0] at N9
  clear eb0
  go_loopg [14, 15] n.toNat (fun kq v14 v15 w' => ∃ u : Nat, v14 = .int .i64 ((tot E u : Nat) : Int) ∧ v15 = .int .i64 (u : Int) ∧ Aside0 (kq + u = n.toNat) ∧ Aside0 (Below w.heap.size w w') ∧ Aside0 (NW b0 p n (.slice Ap E.length cp) E w'))
  case atStart => exact ⟨0, rfl, rfl, ⟨rfl⟩, B0, N9⟩
  case round =>
    clear B0 N9
    obtain ⟨u, rfl, rfl, HK, B1, N2⟩ := hrel
    by_cases c1 : (u : Int) < n
    · have c1b : decide ((u : Int) < n) = true := decide_eq_true c1
      have C1 := ak c1
      have lo1 : (outs (u : Int) E).length ≤ 4096 := Nat.le_trans (pick_len _ _ _) E1.out
      have li1 : (ins (u : Int) E).length ≤ 4096 := Nat.le_trans (pick_len _ _ _) E1.out
      have tl1 : tot E u ≤ 8192 := by have := TD.out.tot_le u; have := E1.out; omega
      have hw1 : Go.RowKit.wrap64 ((u : Int) + 1) = ((u + 1 : Nat) : Int) := by have := N1.out; unfold Go.RowKit.wrap64; omega
      have hw2 : Go.RowKit.wrap64 (((outs (u : Int) E).length : Int) + ((ins (u : Int) E).length : Int)) = (((outs (u : Int) E).length + (ins (u : Int) E).length : Nat) : Int) := by unfold Go.RowKit.wrap64; omega
      have hw3 : Go.RowKit.wrap64 ((tot E u : Int) + (((outs (u : Int) E).length + (ins (u : Int) E).length : Nat) : Int)) = ((tot E (u + 1) : Nat) : Int) := by show _ = ((tot E u + ((outs (u : Int) E).length + (ins (u : Int) E).length) : Nat) : Int); unfold Go.RowKit.wrap64; omega
      have hw4 : Go.RowKit.wrap64 ((tot E u : Int) + (((outs (u : Int) E).length : Int) + ((ins (u : Int) E).length : Int))) = ((tot E (u + 1) : Nat) : Int) := by rw [← hw3]; congr 1
      clear lo1 li1 tl1 c1
      go_wp2_with (first
        | (go_at_call 20; (with_reducible refine (shape_Nodes.calls p n _ ((blk_cell N2.out.bp 0).trans rfl)).mono ?_); rintro e w' ⟨rfl, rfl⟩)
        | (go_at_call 17; (with_reducible refine (Net_Out.good p n (u : Int) Ap cp E _ N2.out.bp (Kd.R_reads' N2.out.row).2.2 (Kd.R_reads' N2.out.row).2.1 TD.out.len (by omega) C1.out).mono ?_); rintro e w16 ⟨x1, rfl, rx1, hb⟩; obtain ⟨A1, d1, ex1⟩ := Kd.R_slice rx1; subst ex1; have N3 := ak (N2.out.later hb); have B2 := ak (below_step B1.out hb); clear hb rx1)
        | (go_at_call 18; (with_reducible refine (Net_In.good p n (u : Int) Ap cp E _ N3.out.bp (Kd.R_reads' N3.out.row).2.2 (Kd.R_reads' N3.out.row).2.1 TD.out.len (by omega) C1.out).mono ?_); rintro e w17 ⟨x2, rfl, rx2, hb⟩; obtain ⟨A2, d2, ex2⟩ := Kd.R_slice rx2; subst ex2; have N4 := ak (N3.out.later hb); have B3 := ak (below_step B2.out hb); clear hb rx2))
      go_roundg (n.toNat - (u + 1))
      case measure => have := HK.out; have := C1.out; omega
      case rel => exact ⟨u + 1, by first | (simp only [i64_w, hw2, hw3, hw4]; done) | (go_num; done) | (simp [hw2, hw3, hw4]; done), by first | (rw [hw1]; done) | (simp only [i64_w, hw1]; done) | (go_num; done) | (go_num; rw [hw1]; done), ⟨by have := HK.out; have := C1.out; omega⟩, B3, N4⟩
    · have c1b : decide ((u : Int) < n) = false := decide_eq_false c1
      have eu : u = n.toNat := by have := HK.out; omega
      have et : ((tot E u : Nat) : Int) = ((2 * E.length : Nat) : Int) := by rw [eu, TD.out.tots rfl]
      have hw5 : Go.RowKit.wrap64 (2 * (E.length : Int)) = ((2 * E.length : Nat) : Int) := by have := E1.out; unfold Go.RowKit.wrap64; omega
      have EU := ak eu
      clear c1 eu
      go_wp2_with (first
        | (go_at_call 20; (with_reducible refine (shape_Nodes.calls p n _ ((blk_cell N2.out.bp 0).trans rfl)).mono ?_); rintro e w' ⟨rfl, rfl⟩)
        | (go_at_call 21; (with_reducible refine (shape_Edges.calls p Ap E.length cp _ ((blk_cell N2.out.bp 1).trans rfl)).mono ?_); rintro e w' ⟨rfl, rfl⟩))
      go_ret
      exact ⟨by first | rfl | (simp [hw5, et]; done), B1.out⟩
def compasslaw03_GraphTurns.f (k : Nat) (n : Int) (E : List S39) (v : Int) : Prop := ∃ X c a a0, compasslaw03_GraphTurns.Told k n E X c a a0 v
theorem compasslaw03_GraphTurns.calls (k : Nat) (n : Int) (A : Option Addr) (cE : Nat) (E : List S39) (v : Int) (r : Bool) (w : World) (hr : Kd.C k39 w A E.length E) (hc : E.length ≤ cE) (hr_ : r = true) (h : compasslaw03_GraphTurns.f k n E v) :
    Calls Try.prog 5 #[.agg #[.int .i64 n, .slice A E.length cE], .int .i64 v] w fun e w' => e = .returned (.bool r) ∧ Below w.heap.size w w' := by
  subst hr_
  obtain ⟨X, c, a, a0, TD⟩ := h
  by_cases z : c = 0
  · exact compasslaw03_GraphTurns.good k n A cE E v w hr hc X c a a0 TD z
  · exact compasslaw03_GraphTurns.bad k n A cE E v w hr hc X c a a0 TD z
end Go.Proofs.Ytpmclhkednehhaa.Q
