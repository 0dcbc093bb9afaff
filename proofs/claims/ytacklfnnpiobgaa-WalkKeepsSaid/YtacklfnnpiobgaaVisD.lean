/- The walk of the visit into the depth; typed by hand. -/
import Derived.Test.YtacklfnnpiobgaaVisC
import Derived.StillTailTactics
set_option linter.unusedVariables false
set_option linter.unusedSimpArgs false
namespace Go.Proofs.Ytacklfnnpiobgaa.Q
open Go.RowKit Go.Proofs.YtacklfnnpiobgaaW.PrintWords Go.Proofs.YtacklfnnpiobgaaW.PrintLast Go.Proofs.YtacklfnnpiobgaaW.PrintMore
set_option maxHeartbeats 8000000 in
set_option maxRecDepth 100000 in
theorem walk_Visit.bad (k : Nat) (a0_0 : Int) (A0_1 : Option Addr) (c0_1 : Nat) (l0_1 : List S41) (w : World) (hr0_1 : Kd.C k41 w A0_1 l0_1.length l0_1) (hc0_1 : l0_1.length ≤ c0_1) (t1 t2 : Int) (A20 : graph_Check.f k a0_0 l0_1 = some (t1, t2)) (c3 : ¬ t1 = 0) :
    Calls Try.prog 19 #[.agg #[.int .i64 a0_0, .slice A0_1 l0_1.length c0_1]] w fun e w' => ∃ v0_ v1_ : Value, e = .returned (.tuple #[v0_, v1_, .int .i64 t1]) ∧ Kd.R (Kd.int .i64) 3 w' w.heap.size (fun k_ => some k_ ≠ (v1_ : Value).ownBlock) v0_ [] ∧ Kd.R (Kd.int .i64) 3 w' w.heap.size (fun k_ => some k_ ≠ (v0_ : Value).ownBlock) v1_ [] ∧ Below w.heap.size w w' := by
  have hu24 := Try.underlying24
  have hu50 := Try.underlying50
  have hmf : ∀ (fn : Fn) (first cap : Array Value) (w : World), (Instr.makeFunc fn first cap).run Try.prog w = .ok (.func fn first cap) w := fun _ _ _ _ => rfl
  have HR := ak hr0_1
  have HC := ak hc0_1
  clear hr0_1 hc0_1
  have HB := ak (Below.refl w.heap.size w)
  have A2 := ak A20
  clear A20
  have c3b0 : (t1 == 0) = false := beq_eq_false_iff_ne.mpr c3
  have c3b1 : (t1 != 0) = true := bne_iff_ne.mpr c3
  clear c3
  go_enter Try.func19, Try.ntmps19
  go_wp2_with (first
    | ((with_reducible refine gate_dst (N := 1) rfl ?_); refine box_event ?hg (N := 1) ?hd (cs := #[.int .i64 a0_0, .slice A0_1 l0_1.length c0_1]) (t := 24) ?hr ?_; (case hd => rfl); (case hg => rfl); (case hr => first | (go_simp; done) | (go_simp; rfl)); intro gg hg w1 bg hb; have HB1 := ak (below_step HB.out hb); have BG := ak bg; have GG := ak (show w.heap.size ≤ gg by rw [hg]; exact below_size HB.out); clear hb bg hg)
    | ((with_reducible refine gate_dst (N := 2) rfl ?_); refine box_event ?hg (N := 2) ?hd (cs := #[.slice none 0 0]) (t := 26) ?hr ?_; (case hd => rfl); (case hg => rfl); (case hr => first | (go_simp; done) | (go_simp; rfl)); intro gp hg w2 bp hb; have HB2 := ak (below_step HB1.out hb); have BP := ak bp; have GP := ak (show w.heap.size ≤ gp by rw [hg]; exact below_size HB1.out); replace BG := ak (blk_below BG.out hb); clear hb bp hg; have k0 : w2.cell? ⟨gg, 0, none⟩ = some (.int .i64 a0_0) := (blk_cell BG.out 0).trans rfl; have k1 : w2.cell? ⟨gg, 1, none⟩ = some (.slice A0_1 l0_1.length c0_1) := (blk_cell BG.out 1).trans rfl)
    | (go_at_call 29; (with_reducible refine (graph_Check.calls k a0_0 _ _ l0_1 t1 t2 _ (Kd.C_below HR.out HB2.out) HC.out A2.out).mono ?_); rintro e w3 ⟨rfl, hb⟩; have HB3 := ak (below_step HB2.out hb); replace BG := ak (blk_below BG.out hb); replace BP := ak (blk_below BP.out hb); clear hb)
    | ((with_reducible refine gate_dst (N := 5) rfl ?_); refine box_event ?hg (N := 5) ?hd (cs := #[.int .i64 0, .int .i64 0]) (t := 50) ?hr ?_; (case hd => rfl); (case hg => rfl); (case hr => first | (go_simp; done) | (go_simp; rfl)); intro gf hg w4 bf_ hb; have HB4 := ak (below_step HB3.out hb); have BF := ak bf_; have BF0 := ak bf_; have GF := ak (show w.heap.size ≤ gf by rw [hg]; exact below_size HB3.out); replace BG := ak (blk_below BG.out hb); replace BP := ak (blk_below BP.out hb); clear hb bf_ hg; have k2 := bf BF 0; have k3 := bf BF 1; have k4 : w4.cell? ⟨gf, 0, none⟩ = some (.int .i64 0) := bc0 BF; have k5 : w4.cell? ⟨gf, 1, none⟩ = some (.int .i64 0) := bc1 BF)
    | ((with_reducible refine gate_store (t := 50) (p := 5) rfl ?_); refine store_event (t := 50) (p := 5) (v := ?vo5b) (w1 := (w4.setCell ⟨gf, 0, none⟩ (.int .i64 t1)).setCell ⟨gf, 1, none⟩ (.int .i64 t2)) ?hg ?ho ?hn ?hr ?_; (case ho => rfl); (case hg => rfl); (case hn => rfl); (case hr => first | (go_simp; done) | (go_simp; rfl)); intro w5 hw; have HB5 := ak (show Below w.heap.size w w5 by rw [hw]; exact below_set (below_set HB4.out GF.out) GF.out); replace BF := ak (show w5.heap[gf]? = some (.cells #[.int .i64 t1, .int .i64 t2] 50 (0, 0)) by rw [hw]; exact blk_put (blk_put BF.out 0 _ rfl) 1 _ rfl); have k6 : w5.cell? ⟨gf, 0, none⟩ = some (.int .i64 t1) := bc0 BF; replace BP := ak (show w5.heap[gp]? = some (.cells #[.slice none 0 0] 26 (0, 0)) by rw [hw]; exact blk_far (blk_far BP.out (blk_ne BP.out BF0.out (by decide)) _) (blk_ne BP.out BF0.out (by decide)) _); have k7 : w5.cell? ⟨gp, 0, none⟩ = some (.slice none 0 0) := bc0 BP; have k8 := bf BP 0; clear hw))
  have nb1 : gf ≠ gp := blk_ne BF.out BP.out (by decide)
  have nb2 : gp ≠ gf := nb1.symm
  go_region_held3 (fun w' => w'.cell? ⟨gf, 0, none⟩ = some (.int .i64 t1) ∧ w'.cell? ⟨gp, 0, none⟩ = some (.slice none 0 0) ∧ w'.frozen? ⟨gp, 0, none⟩ = false) (refine ⟨?_, ?_, ?_⟩ <;> (first | exact (blk_cell (g := gp) (cs := #[.slice none 0 0]) (t := 26) (by (with_reducible repeat (first | refine blk_drew ?_ | refine blk_drewN ?_ _)); exact blk_put BP.out 0 _ rfl) 0).trans rfl | (go_keep; done) | (go_simp; done))) (fail)
  go_wp2
  have k9 : (w5.setCell ⟨gp, 0, none⟩ (.slice none 0 0)).drew.cell? ⟨gp, 0, none⟩ = some (.slice none 0 0) := (blk_cell (g := gp) (cs := #[.slice none 0 0]) (t := 26) (blk_drew (blk_put BP.out 0 _ rfl)) 0).trans rfl
  exact bodyPost_ret (v := .tuple #[.slice none 0 0, .slice none 0 0, .int .i64 t1]) (by simp [results, Try.results19, go_sem, k9]) rfl ⟨_, _, rfl, Kd.R_nil _ _ _ _ _, Kd.R_nil _ _ _ _ _, below_drew (below_set HB5.out GP.out)⟩
set_option maxHeartbeats 8000000 in
set_option maxRecDepth 100000 in
theorem walk_Visit.good (k : Nat) (a0_0 : Int) (A0_1 : Option Addr) (c0_1 : Nat) (l0_1 : List S41) (r1 r2 : List Int) (r3 : Int) (w : World) (hr0_1 : Kd.C k41 w A0_1 l0_1.length l0_1) (hc0_1 : l0_1.length ≤ c0_1) (t2 : Int) (A20 : graph_Check.f k a0_0 l0_1 = some (0, t2)) (H : (if 0 ≤ a0_0 ∧ a0_0 ≤ 100000 then ((walk_outs.f k a0_0 l0_1).bind fun O => ((walk_filled.f k a0_0 (-1)).bind fun P => walk_Visit.l0 k a0_0 l0_1 O 0 P P 0 [])) else none) = some (r1, r2, r3)) :
    Calls Try.prog 19 #[.agg #[.int .i64 a0_0, .slice A0_1 l0_1.length c0_1]] w fun e w' => ∃ v0_ v1_ : Value, e = .returned (.tuple #[v0_, v1_, .int .i64 r3]) ∧ Kd.R (Kd.int .i64) 3 w' w.heap.size (fun k_ => some k_ ≠ (v1_ : Value).ownBlock) v0_ r1 ∧ Kd.R (Kd.int .i64) 3 w' w.heap.size (fun k_ => some k_ ≠ (v0_ : Value).ownBlock) v1_ r2 ∧ Below w.heap.size w w' := by
  have hu24 := Try.underlying24
  have hu50 := Try.underlying50
  have hmf : ∀ (fn : Fn) (first cap : Array Value) (w : World), (Instr.makeFunc fn first cap).run Try.prog w = .ok (.func fn first cap) w := fun _ _ _ _ => rfl
  have HR := ak hr0_1
  have HC := ak hc0_1
  clear hr0_1 hc0_1
  have HB := ak (Below.refl w.heap.size w)
  have A2 := ak A20
  clear A20
  obtain ⟨hn, H⟩ := ifn H
  obtain ⟨O, A40, H⟩ := Option.bind_eq_some_iff.mp H
  obtain ⟨P, A50, H⟩ := Option.bind_eq_some_iff.mp H
  have A4 := ak A40; have A5 := ak A50; have H' := ak H
  clear A40 A50 H
  go_enter Try.func19, Try.ntmps19
  go_wp2_with (first
    | ((with_reducible refine gate_dst (N := 1) rfl ?_); refine box_event ?hg (N := 1) ?hd (cs := #[.int .i64 a0_0, .slice A0_1 l0_1.length c0_1]) (t := 24) ?hr ?_; (case hd => rfl); (case hg => rfl); (case hr => first | (go_simp; done) | (go_simp; rfl)); intro gg hg w1 bg hb; have HB1 := ak (below_step HB.out hb); have BG := ak bg; have GG := ak (show w.heap.size ≤ gg by rw [hg]; exact below_size HB.out); clear hb bg hg)
    | ((with_reducible refine gate_dst (N := 2) rfl ?_); refine box_event ?hg (N := 2) ?hd (cs := #[.slice none 0 0]) (t := 26) ?hr ?_; (case hd => rfl); (case hg => rfl); (case hr => first | (go_simp; done) | (go_simp; rfl)); intro gp hg w2 bp hb; have HB2 := ak (below_step HB1.out hb); have BP := ak bp; have GP := ak (show w.heap.size ≤ gp by rw [hg]; exact below_size HB1.out); replace BG := ak (blk_below BG.out hb); clear hb bp hg; have k0 : w2.cell? ⟨gg, 0, none⟩ = some (.int .i64 a0_0) := (blk_cell BG.out 0).trans rfl; have k1 : w2.cell? ⟨gg, 1, none⟩ = some (.slice A0_1 l0_1.length c0_1) := (blk_cell BG.out 1).trans rfl)
    | (go_at_call 29; (with_reducible refine (graph_Check.calls k a0_0 _ _ l0_1 0 t2 _ (Kd.C_below HR.out HB2.out) HC.out A2.out).mono ?_); rintro e w3 ⟨rfl, hb⟩; have HB3 := ak (below_step HB2.out hb); replace BG := ak (blk_below BG.out hb); replace BP := ak (blk_below BP.out hb); clear hb)
    | ((with_reducible refine gate_dst (N := 5) rfl ?_); refine box_event ?hg (N := 5) ?hd (cs := #[.int .i64 0, .int .i64 0]) (t := 50) ?hr ?_; (case hd => rfl); (case hg => rfl); (case hr => first | (go_simp; done) | (go_simp; rfl)); intro gf hg w4 bf_ hb; have HB4 := ak (below_step HB3.out hb); have BF := ak bf_; have BF0 := ak bf_; have GF := ak (show w.heap.size ≤ gf by rw [hg]; exact below_size HB3.out); replace BG := ak (blk_below BG.out hb); replace BP := ak (blk_below BP.out hb); clear hb bf_ hg; have k2 := bf BF 0; have k3 := bf BF 1; have k4 : w4.cell? ⟨gf, 0, none⟩ = some (.int .i64 0) := bc0 BF; have k5 : w4.cell? ⟨gf, 1, none⟩ = some (.int .i64 0) := bc1 BF)
    | ((with_reducible refine gate_store (t := 50) (p := 5) rfl ?_); refine store_event (t := 50) (p := 5) (v := ?vo5) (w1 := (w4.setCell ⟨gf, 0, none⟩ (.int .i64 0)).setCell ⟨gf, 1, none⟩ (.int .i64 t2)) ?hg ?ho ?hn ?hr ?_; (case ho => rfl); (case hg => rfl); (case hn => rfl); (case hr => first | (go_simp; done) | (go_simp; rfl)); intro w5 hw; have HB5 := ak (show Below w.heap.size w w5 by rw [hw]; exact below_set (below_set HB4.out GF.out) GF.out); replace BF := ak (show w5.heap[gf]? = some (.cells #[.int .i64 0, .int .i64 t2] 50 (0, 0)) by rw [hw]; exact blk_put (blk_put BF.out 0 _ rfl) 1 _ rfl); have k6 : w5.cell? ⟨gf, 0, none⟩ = some (.int .i64 0) := bc0 BF; replace BP := ak (show w5.heap[gp]? = some (.cells #[.slice none 0 0] 26 (0, 0)) by rw [hw]; exact blk_far (blk_far BP.out (blk_ne BP.out BF0.out (by decide)) _) (blk_ne BP.out BF0.out (by decide)) _); have k7 : w5.cell? ⟨gp, 0, none⟩ = some (.slice none 0 0) := bc0 BP; have k8 := bf BP 0; replace BG := ak (show w5.heap[gg]? = some (.cells #[.int .i64 a0_0, .slice A0_1 l0_1.length c0_1] 24 (0, 0)) by rw [hw]; exact blk_far (blk_far BG.out (blk_ne BG.out BF0.out (by decide)) _) (blk_ne BG.out BF0.out (by decide)) _); have k9 : w5.cell? ⟨gg, 0, none⟩ = some (.int .i64 a0_0) := bc0 BG; have k10 : w5.cell? ⟨gg, 1, none⟩ = some (.slice A0_1 l0_1.length c0_1) := bc1 BG; clear hw)
    | (go_at_call 30; (with_reducible refine (walk_outs.calls k a0_0 _ _ l0_1 O _ (Kd.C_below HR.out HB5.out) HC.out A4.out).mono ?_); rintro e w6 ⟨vo, rfl, ro, hb⟩; have HB6 := ak (below_step HB5.out hb); have BP5 := ak BP.out; replace BG := ak (blk_below BG.out hb); replace BP := ak (blk_below BP.out hb); have RO := ak (Kd.S_lower (Kd.S_newB ro BP5.out) (below_size HB5.out)); clear hb ro))
  have tok1 : True := trivial
  have k6 : w6.cell? ⟨gg, 0, none⟩ = some (.int .i64 a0_0) := bc0 BG
  go_region_held3 (fun w' => w'.cell? ⟨gg, 0, none⟩ = some (.int .i64 a0_0)) (first | exact bc0 (ak (bx BG.out)) | exact bc0 (ak (show (w8.setCell ⟨gp, 0, none⟩ (.slice Aa P.length ca)).drew.heap[gg]? = some _ from blk_drew (blk_far BG.out (blk_ne BG.out BP.out (by decide)) _))) | exact bc0 (ak (blk_far BG.out (blk_ne BG.out BP.out (by decide)) _)))
    (first
      | (go_at_call 31; have _t := tok1; (with_reducible refine (walk_filled.calls k a0_0 (-1) P _ A5.out).mono ?_); rintro e w7 ⟨va, rfl, ra, hb⟩; obtain ⟨Aa, ca, ea⟩ := Kd.R_slice ra; subst ea; replace BG := ak (blk_below (bx BG.out) hb); replace BP := ak (blk_below (bx BP.out) hb); have HB7 := ak (below_step lb hb); have RO7 := ak (Kd.S_elder' (sx RO.out) (Kd.R_base ra) hb); have RA := ak (Kd.R_lower ra (below_size lb)); clear hb ra tok1 _t)
      | (go_at_call 31; (with_reducible refine (walk_filled.calls k a0_0 (-1) P _ A5.out).mono ?_); rintro e w8 ⟨vb, rfl, rb, hb⟩; obtain ⟨Ab, cb, eb⟩ := Kd.R_slice rb; subst eb; replace BG := ak (blk_below (bx BG.out) hb); replace BP := ak (blk_below (bx BP.out) hb); have HB8 := ak (below_step lb hb); have k7 := bc0 BP; have k8 := bf BP 0; have RO8 := ak (Kd.S_elder' (sx RO7.out) (Kd.R_base rb) hb); have RA8 := ak (Kd.R_elder' (rx RA.out) (Kd.R_base rb) hb); have RB8 := ak (Kd.R_lower (Kd.R_new' rb (Kd.R_lt (rx RA.out))) (below_size lb)); clear hb rb))
  have BG9 := ak (show (w8.setCell ⟨gp, 0, none⟩ (.slice Aa P.length ca)).heap[gg]? = _ from blk_far BG.out (blk_ne BG.out BP.out (by decide)) _)
  have BP9 := ak (show (w8.setCell ⟨gp, 0, none⟩ (.slice Aa P.length ca)).heap[gp]? = some (.cells #[.slice Aa P.length ca] 26 (0, 0)) from blk_put BP.out 0 _ rfl)
  have HB9 := ak (show Below w.heap.size w (w8.setCell ⟨gp, 0, none⟩ (.slice Aa P.length ca)) from below_set HB8.out GP.out)
  have RA9 := ak (Kd.R_set RA8.out BP.out (by decide) 0 (.slice Aa P.length ca))
  have RB9 := ak (Kd.R_set RB8.out BP.out (by decide) 0 (.slice Aa P.length ca))
  have RO9 := ak (Kd.S_far (p := ⟨gp, 0, none⟩) RO8.out (fun k hk => hk.1.1.2) (.slice Aa P.length ca))
  clear RA8 RB8 RO8 RO7 RO RA HB8 HB7 HB6 HB5 HB4 HB3 HB2 HB1 BG BP BF BF0
  generalize w8.setCell ⟨gp, 0, none⟩ (.slice Aa P.length ca) = w9 at BG9 BP9 HB9 RA9 RB9 RO9 ⊢
  go_wp2_with (first
    | ((with_reducible refine gate_dst (N := 7) rfl ?_); refine box_event ?hg (N := 7) ?hd (cs := #[.int .i64 0]) (t := 3) ?hr ?_; (case hd => rfl); (case hg => rfl); (case hr => first | (go_simp; done) | (go_simp; rfl)); intro gc hg w10 bc_ hb; have HB10 := ak (below_step HB9.out hb); have BC := ak bc_; have GC := ak (show w.heap.size ≤ gc by rw [hg]; exact below_size HB9.out); have RA10 := ak (Kd.R_below (Kd.R_elderB RA9.out gc (by omega)) hb); have RB10 := ak (Kd.R_below (Kd.R_elderB RB9.out gc (by omega)) hb); have RO10 := ak (Kd.S_below (Kd.S_elderB RO9.out gc (by omega)) hb); have BG10 := ak (blk_below BG9.out hb); have BP10 := ak (blk_below BP9.out hb); clear hb bc_ hg; have k11 := bc0 BC; have k12 := bf BC 0)
    | ((with_reducible refine gate_store (t := 3) (p := 7) rfl ?_); refine store_event (t := 3) (p := 7) (v := ?vo7) (w1 := w10.setCell ⟨gc, 0, none⟩ (.int .i64 0)) ?hg ?ho ?hn ?hr ?_; (case ho => rfl); (case hg => rfl); (case hn => rfl); (case hr => first | (go_simp; done) | (go_simp; rfl)); intro w11 hw; have HB11 := ak (show Below w.heap.size w w11 by rw [hw]; exact below_set HB10.out GC.out); have BC11 := ak (show w11.heap[gc]? = some (.cells #[.int .i64 0] 3 (0, 0)) by rw [hw]; exact blk_put BC.out 0 _ rfl); have BG11 := ak (blk_far BG10.out (p := ⟨gc, 0, none⟩) (blk_ne BG10.out BC.out (by decide)) (.int .i64 0)); rw [← hw] at BG11; have BP11 := ak (blk_far BP10.out (p := ⟨gc, 0, none⟩) (blk_ne BP10.out BC.out (by decide)) (.int .i64 0)); rw [← hw] at BP11; have RA11 := ak (Kd.R_far (p := ⟨gc, 0, none⟩) RA10.out (fun k hk => hk.2) (.int .i64 0)); rw [← hw] at RA11; have RB11 := ak (Kd.R_far (p := ⟨gc, 0, none⟩) RB10.out (fun k hk => hk.2) (.int .i64 0)); rw [← hw] at RB11; have RO11 := ak (Kd.S_far (p := ⟨gc, 0, none⟩) RO10.out (fun k hk => hk.2) (.int .i64 0)); rw [← hw] at RO11; clear hw)
    | ((with_reducible refine gate_dst (N := 8) rfl ?_); refine box_event ?hg (N := 8) ?hd (cs := #[.slice none 0 0]) (t := 60) ?hr ?_; (case hd => rfl); (case hg => rfl); (case hr => first | (go_simp; done) | (go_simp; rfl)); intro gs hg w12 bs_ hb; have VS0 := ak (show VS w a0_0 A0_1 c0_1 l0_1 gg gp gc gs vo O (.slice Aa P.length ca) (.slice Ab P.length cb) (.slice none 0 0) P P 0 [] w12 from ⟨below_step HB11.out hb, blk_below BG11.out hb, blk_below BP11.out hb, blk_below BC11.out hb, bs_, GC.out, by rw [hg]; exact below_size HB11.out, Kd.R_mono (Kd.R_below RA11.out hb) (fun k hk => ⟨hk.2, hk.1.2⟩), Kd.R_mono (Kd.R_below RB11.out hb) (fun k hk => ⟨hk.2, hk.1.2⟩), Kd.S_mono (Kd.S_below RO11.out hb) (fun k hk => ⟨hk.2, hk.1.1.1.2, hk.1.1.2, hk.1.2⟩), Kd.R_nil _ _ _ _ _⟩); have HR12 := ak (Kd.C_below HR.out VS0.out.below); clear hb bs_ hg HB11 BG11 BP11 BC11 RA11 RB11 RO11 RA10 RB10 RO10 RA9 RB9 RO9 BG10 BP10 BG9 BP9 HB10 HB9 BC; have k13 : w12.cell? ⟨gg, 0, none⟩ = some (.int .i64 a0_0) := (blk_cell VS0.out.bg 0).trans rfl))
  obtain ⟨Ao, co, eo⟩ := Kd.S_slice VS0.out.ro
  subst eo
  clear k13 k11 k12
  go_loopg [31] k (fun kq v31 w' => ∃ (s : Int) (P' Q' : List Int) (c : Int) (S : List Fr) (vs : Value), v31 = .int .i64 s ∧ Aside0 (walk_Visit.l0 kq a0_0 l0_1 O s P' Q' c S = some (r1, r2, r3)) ∧ Aside0 (kq ≤ k) ∧ Aside0 (VS w a0_0 A0_1 c0_1 l0_1 gg gp gc gs (.slice Ao O.length co) O (.slice Aa P.length ca) (.slice Ab P.length cb) vs P' Q' c S w'))
  case atStart => exact ⟨0, P, P, 0, [], _, rfl, H', ⟨Nat.le_refl _⟩, VS0⟩
  case round =>
    clear H' VS0 A4 A5 A2 k0 k2 k3 k4 k5 k9 k10
    try clear k6 k7 k8
    obtain ⟨s, P1, Q1, c, S, vs, rfl, HA, HK1, V⟩ := hrel
    cases gk with
    | zero => exact absurd HA.out (by simp [walk_Visit.l0])
    | succ kf =>
      have H := HA.out
      clear HA
      simp only [walk_Visit.l0] at H
      have k1 : wr.cell? ⟨gp, 0, none⟩ = some (.slice Aa P.length ca) := (blk_cell V.out.bp 0).trans rfl
      by_cases c1 : s < a0_0
      · rw [if_pos c1] at H
        obtain ⟨⟨h1, h2, h3, h4, h5⟩, H⟩ := ifn H
        have c1b := decide_eq_true c1
        have lp := ak (Kd.R_reads' V.out.rp).1
        obtain ⟨p, cp, e, -⟩ := Kd.R_form V.out.rp (by have := lp.out; omega)
        injection e with e1 e2 e3
        subst e1
        clear e2 e3
        have i1 := decide_eq_true h1
        have i2 : decide (s < (P.length : Int)) = true := decide_eq_true (by have := lp.out; omega)
        have x1 : s < ((P.length : Nat) : Int) := by have := lp.out; omega
        have k2 : wr.cell? ⟨p, s.toNat, none⟩ = some (.int .i64 (rd P1 s)) := (Kd.R_celln 0 V.out.rp s h1 x1).1
        by_cases c2 : rd P1 s ≥ 0
        · rw [if_pos c2] at H
          have c2b : decide (0 ≤ rd P1 s) = true := decide_eq_true c2
          have H' := ak H
          clear H
          go_wp2_with (first | go_step3 | (with_reducible refine Eq.mpr Exit.noGoto_normal ?_) | (with_reducible refine Eq.mpr Exit.noGoto_ret ?_) | (with_reducible refine Eq.mpr (Exit.noGoto_exit _) ?_))
          go_roundg kf
          case rel => exact ⟨s + 1, P1, Q1, c, S, vs, rfl, H', ⟨by have := HK1.out; omega⟩, V⟩
          case measure => exact Nat.lt_succ_self _
        · rw [if_neg c2] at H
          have c2b : decide (0 ≤ rd P1 s) = false := decide_eq_false c2
          have H' := ak H
          clear H
          have y1 : c ≤ 1000000 := by omega
          have z1 : S.length ≤ 1000000 := by omega
          go_wp2_with (first | go_step3 | (with_reducible refine Eq.mpr Exit.noGoto_normal ?_) | (with_reducible refine Eq.mpr Exit.noGoto_ret ?_) | (with_reducible refine Eq.mpr (Exit.noGoto_exit _) ?_) | (go_at_call 36; refine (enter.calls V.out s h1 x1 h3 y1 z1).mono ?_; rintro e w2 ⟨rfl, vs2, V2⟩))
          go_loopg [] kf (fun kq w' => ∃ (P' Q' : List Int) (c' : Int) (S' : List Fr) (vs' : Value), Aside0 (walk_Visit.l1 kq a0_0 l0_1 O s P' Q' c' S' = some (r1, r2, r3)) ∧ Aside0 (kq ≤ kf) ∧ Aside0 (VS w a0_0 A0_1 c0_1 l0_1 gg gp gc gs (.slice Ao O.length co) O (.slice (some ⟨p, 0, none⟩) P.length ca) (.slice Ab P.length cb) vs' P' Q' c' S' w'))
          case atStart => exact ⟨_, _, _, _, _, H', ⟨Nat.le_refl _⟩, ⟨V2⟩⟩
          case round =>
            clear H' V2 V k1 k2 i1 i2 c2b c2 h3 h4 h5 y1 z1 lp
            obtain ⟨P2, Q2, c2, S2, vs2, HA, HK2, V⟩ := hrel
            cases gk with
            | zero => exact absurd HA.out (by simp [walk_Visit.l1])
            | succ kg =>
              have H := HA.out
              clear HA
              simp only [walk_Visit.l1] at H
              obtain ⟨As, cs, es⟩ := Kd.R_slice V.out.rs
              subst es
              have k1 : wr.cell? ⟨gs, 0, none⟩ = some (.slice As S2.length cs) := (blk_cell V.out.bs 0).trans rfl
              by_cases d1 : (S2.length : Int) > 0
              · rw [if_pos d1] at H
                obtain ⟨⟨h3, h4, h5⟩, H⟩ := ifn H
                obtain ⟨b, cp', e, -⟩ := Kd.R_form V.out.rs (by omega)
                injection e with e1 e2 e3
                subst e1
                clear e2 e3
                have d1a : decide (0 < S2.length) = true := decide_eq_true (by omega)
                have d1b : decide ((0 : Int) < (S2.length : Int)) = true := decide_eq_true d1
                have d2a : decide ((0 : Int) ≤ (S2.length : Int) - 1) = true := decide_eq_true (by omega)
                have d2b : decide ((S2.length : Int) - 1 < (S2.length : Int)) = true := decide_eq_true (by omega)
                have H' := ak H
                clear H
                go_wp2
                go_loopg [] kg (fun kq w' => ∃ (S' : List Fr), Aside0 (walk_Visit.l2 kq a0_0 l0_1 O s P2 Q2 c2 S' = some (r1, r2, r3)) ∧ Aside0 (kq ≤ kg) ∧ Aside0 (S'.length = S2.length) ∧ Aside0 (VS w a0_0 A0_1 c0_1 l0_1 gg gp gc gs (.slice Ao O.length co) O (.slice (some ⟨p, 0, none⟩) P.length ca) (.slice Ab P.length cb) (.slice (some ⟨b, 0, none⟩) S2.length cs) P2 Q2 c2 S' w'))
                case atStart => exact ⟨S2, H', ⟨Nat.le_refl _⟩, ⟨rfl⟩, V⟩
                case round =>
                  clear H' V k1 d1a d1b d2a d2b h3 h4 h5
                  obtain ⟨S3, HA, HK3, HL, V⟩ := hrel
                  cases gk with
                  | zero => exact absurd HA.out (by simp [walk_Visit.l2])
                  | succ kh =>
                    have H := HA.out
                    clear HA
                    simp only [walk_Visit.l2] at H
                    rw [HL.out] at H
                    have d1' := ak d1
                    clear d1
                    obtain ⟨k1, k2, k3, k4⟩ := V.out.top ((S2.length : Int) - 1) (by have := d1'.out; omega) (by have := d1'.out; omega)
                    have tn : ((S2.length : Int) - 1).toNat = S2.length - 1 := by have := d1'.out; omega
                    rw [tn] at k1 k2 k3 k4 H
                    have VN := ak (fun (W' : World) (hb : Below wr.heap.size wr W') (x : Int) => (V.out.later hb).next ((S2.length : Int) - 1) x (by have := d1'.out; omega) (by have := d1'.out; omega))
                    rw [tn] at VN
                    have tn := ak tn
                    generalize ndE : (rd_Fr S3 ((S2.length : Int) - 1)).nd = nd at H k1 VN
                    replace ndE := ak ndE
                    generalize (rd_Fr S3 ((S2.length : Int) - 1)).nx = nx at H k2
                    obtain ⟨⟨⟨m1, m2, m3, m4, m5⟩, h3, h4, h5, h6⟩, H⟩ := ifn H
                    have m1b := decide_eq_true m1
                    have m2b := decide_eq_true m2
                    obtain ⟨ad, A1, c1', e1, k5, l5, C5⟩ := at_L2 (Kd.S_reads' V.out.ro).2.2 nd m1 m2
                    cases e1
                    by_cases n1 : nx < ((rd_L2 O nd).length : Int)
                    · rw [if_pos n1] at H
                      have n1b := decide_eq_true n1
                      have n2b := decide_eq_true m4
                      generalize hi : rd (rd_L2 O nd) nx = i at H
                      obtain ⟨⟨⟨i0, i1⟩, H1⟩, H⟩ := ifn H
                      obtain ⟨ad1, e2, k6⟩ := Kd.at_int C5 nx m4 n1
                      cases e2
                      rw [hi] at k6
                      clear hi
                      obtain ⟨ad2, e3, x0, x1, x2, x3⟩ := at_T41 (Kd.C_below HR.out V.out.below) i i0 i1
                      cases e3
                      generalize (rd_T41 l0_1 i).f1 = u at H H1 x1
                      obtain ⟨u0, u1⟩ := H1
                      have i0b := decide_eq_true i0
                      have i1b := decide_eq_true i1
                      have u0b := decide_eq_true u0
                      have lp := ak (Kd.R_reads' V.out.rp).1
                      have u1x : u < ((P.length : Nat) : Int) := by have := lp.out; omega
                      have u1b := decide_eq_true u1x
                      have k7 : wr.cell? ⟨gg, 1, none⟩ = some (.slice (some ad2) l0_1.length c0_1) := (blk_cell V.out.bg 1).trans rfl
                      have y1 : c2 ≤ 1000000 := by omega
                      have z1 : (S3.set (S2.length - 1) ⟨nd, nx + 1⟩).length ≤ 1000000 := by rw [List.length_set, HL.out]; omega
                      have z2 : Aside0 ((S3.set (S2.length - 1) ⟨nd, nx + 1⟩).length = S2.length) := ⟨by rw [List.length_set, HL.out]⟩
                      by_cases c3 : rd P2 u < 0
                      · rw [if_pos c3] at H
                        have c3b := decide_eq_true c3
                        have H' := ak H
                        clear H
                        go_wp2_with (first | go_step3 | (with_reducible refine Eq.mpr Exit.noGoto_normal ?_) | (with_reducible refine Eq.mpr Exit.noGoto_ret ?_) | (with_reducible refine Eq.mpr (Exit.noGoto_exit _) ?_))
                        go_quiet (fail)
                        obtain ⟨n1_, en⟩ : ∃ m, m = nq := ⟨_, rfl⟩; subst en
                        go_wp2_with (first | go_step3 | (with_reducible refine Eq.mpr Exit.noGoto_normal ?_) | (with_reducible refine Eq.mpr Exit.noGoto_ret ?_) | (with_reducible refine Eq.mpr (Exit.noGoto_exit _) ?_))
                        go_quiet (fail)
                        obtain ⟨n2_, en⟩ : ∃ m, m = nq := ⟨_, rfl⟩; subst en
                        go_wp2_with (first | go_step3 | (with_reducible refine Eq.mpr Exit.noGoto_normal ?_) | (with_reducible refine Eq.mpr Exit.noGoto_ret ?_) | (with_reducible refine Eq.mpr (Exit.noGoto_exit _) ?_) | ((with_reducible refine gate_store (t := 3) (p := 87) rfl ?_); refine store_event (t := 3) (p := 87) (v := ?vo87) (w1 := (wr.drewN (n1_ + n2_)).setCell ⟨b, (S2.length - 1) * 2 + 1, none⟩ (.int .i64 (nx + 1))) ?hg ?ho ?hn ?hr ?_; (case ho => rfl); (case hg => rfl); (case hn => rfl); (case hr => first | (go_simp; done) | (go_simp; rfl)); intro w2 hw; have V2 := ak (VN.out (wr.drewN (n1_ + n2_)) (pw_below_drewN (Below.refl _ _) _) (nx + 1)); rw [← hw] at V2; clear hw; have k8 : w2.cell? ⟨gp, 0, none⟩ = some (.slice (some ⟨p, 0, none⟩) P.length ca) := (blk_cell V2.out.bp 0).trans rfl; have k9 : w2.cell? ⟨p, u.toNat, none⟩ = some (.int .i64 (rd P2 u)) := (Kd.R_celln 0 V2.out.rp u u0 u1x).1) | (go_at_call 36; refine (enter.calls V2.out u u0 u1x h3 y1 z1).mono ?_; rintro e w3 ⟨rfl, vs3, V3⟩))
                        go_roundg kh
                        case measure => have := HK1.out; have := HK2.out; have := HK3.out; omega
                        case rel => exact ⟨_, Q2, c2 + 1, _, vs3, H', ⟨by have := HK1.out; have := HK2.out; have := HK3.out; omega⟩, ⟨V3⟩⟩
                      · rw [if_neg c3] at H
                        have c3b := decide_eq_false c3
                        have H' := ak H
                        clear H
                        go_wp2_with (first | go_step3 | (with_reducible refine Eq.mpr Exit.noGoto_normal ?_) | (with_reducible refine Eq.mpr Exit.noGoto_ret ?_) | (with_reducible refine Eq.mpr (Exit.noGoto_exit _) ?_))
                        go_quiet (fail)
                        obtain ⟨n1_, en⟩ : ∃ m, m = nq := ⟨_, rfl⟩; subst en
                        go_wp2_with (first | go_step3 | (with_reducible refine Eq.mpr Exit.noGoto_normal ?_) | (with_reducible refine Eq.mpr Exit.noGoto_ret ?_) | (with_reducible refine Eq.mpr (Exit.noGoto_exit _) ?_))
                        go_quiet (fail)
                        obtain ⟨n2_, en⟩ : ∃ m, m = nq := ⟨_, rfl⟩; subst en
                        go_wp2_with (first | go_step3 | (with_reducible refine Eq.mpr Exit.noGoto_normal ?_) | (with_reducible refine Eq.mpr Exit.noGoto_ret ?_) | (with_reducible refine Eq.mpr (Exit.noGoto_exit _) ?_) | ((with_reducible refine gate_store (t := 3) (p := 87) rfl ?_); refine store_event (t := 3) (p := 87) (v := ?vo87b) (w1 := (wr.drewN (n1_ + n2_)).setCell ⟨b, (S2.length - 1) * 2 + 1, none⟩ (.int .i64 (nx + 1))) ?hg ?ho ?hn ?hr ?_; (case ho => rfl); (case hg => rfl); (case hn => rfl); (case hr => first | (go_simp; done) | (go_simp; rfl)); intro w2 hw; have V2 := ak (VN.out (wr.drewN (n1_ + n2_)) (pw_below_drewN (Below.refl _ _) _) (nx + 1)); rw [← hw] at V2; clear hw; have k8 : w2.cell? ⟨gp, 0, none⟩ = some (.slice (some ⟨p, 0, none⟩) P.length ca) := (blk_cell V2.out.bp 0).trans rfl; have k9 : w2.cell? ⟨p, u.toNat, none⟩ = some (.int .i64 (rd P2 u)) := (Kd.R_celln 0 V2.out.rp u u0 u1x).1))
                        go_roundg kh
                        case measure => have := HK1.out; have := HK2.out; have := HK3.out; omega
                        case rel => exact ⟨_, H', ⟨by have := HK1.out; have := HK2.out; have := HK3.out; omega⟩, z2, V2⟩
                    · rw [if_neg n1] at H
                      have n1b := decide_eq_false n1
                      have H' := ak H
                      clear H
                      have lq := ak (Kd.R_reads' V.out.rq).1
                      obtain ⟨q, cq, e, -⟩ := Kd.R_form V.out.rq (by omega)
                      injection e with e4 e5 e6
                      subst e4
                      clear e5 e6
                      have q1 : nd < ((P.length : Nat) : Int) := by have := lq.out; omega
                      have q1b := decide_eq_true q1
                      obtain ⟨k6, k7⟩ := Kd.R_celln 0 V.out.rq nd m1 q1
                      have k8 : wr.cell? ⟨gc, 0, none⟩ = some (.int .i64 c2) := (blk_cell V.out.bc 0).trans rfl
                      go_wp2_with (first | go_step3 | (with_reducible refine Eq.mpr Exit.noGoto_normal ?_) | (with_reducible refine Eq.mpr Exit.noGoto_ret ?_) | (with_reducible refine Eq.mpr (Exit.noGoto_exit _) ?_))
                      go_quiet (fail)
                      obtain ⟨n1_, en⟩ : ∃ m, m = nq := ⟨_, rfl⟩; subst en
                      go_wp2_with (first | go_step3 | (with_reducible refine Eq.mpr Exit.noGoto_normal ?_) | (with_reducible refine Eq.mpr Exit.noGoto_ret ?_) | (with_reducible refine Eq.mpr (Exit.noGoto_exit _) ?_))
                      have KQ := fun (W' : World) (hb : Below wr.heap.size wr W') => (show (W'.setCell ⟨q, nd.toNat, none⟩ (.int .i64 c2)).cell? ⟨b, (S2.length - 1) * 2, none⟩ = some (.int .i64 nd) ∧ (W'.setCell ⟨q, nd.toNat, none⟩ (.int .i64 c2)).cell? ⟨gc, 0, none⟩ = some (.int .i64 c2) from ⟨by have := (((V.out.later hb).setQ nd c2).top ((S2.length : Int) - 1) (by have := d1'.out; omega) (by have := d1'.out; omega)).1; rw [tn.out, ndE.out] at this; exact this, (blk_cell ((V.out.later hb).setQ nd c2).bc 0).trans rfl⟩)
                      go_region_held3 (fun w' => w'.cell? ⟨b, (S2.length - 1) * 2, none⟩ = some (.int .i64 nd) ∧ w'.cell? ⟨gc, 0, none⟩ = some (.int .i64 c2)) (first | exact KQ (wr.drewN (n1_ + 1)) (pw_below_drewN (Below.refl _ _) _) | (go_keep; done)) (fail)
                      have V1 := ak ((V.out.later (pw_below_drewN (Below.refl wr.heap.size wr) (n1_ + 1))).setQ nd c2)
                      clear KQ
                      generalize (wr.drewN (n1_ + 1)).setCell ⟨q, nd.toNat, none⟩ (.int .i64 c2) = w2 at V1 ⊢
                      have k9 : w2.cell? ⟨gc, 0, none⟩ = some (.int .i64 c2) := (blk_cell V1.out.bc 0).trans rfl
                      have k10 := blk_frozen V1.out.bc 0
                      have lc : (S2.length : Int) - 1 ≤ (cs : Int) := by have := (Kd.R_reads' V1.out.rs).2.1; omega
                      have lc1 : (1 : Int) ≤ (S2.length : Int) := by omega
                      go_wp2_with (first | go_step3 | (with_reducible refine Eq.mpr Exit.noGoto_normal ?_) | (with_reducible refine Eq.mpr Exit.noGoto_ret ?_) | (with_reducible refine Eq.mpr (Exit.noGoto_exit _) ?_) | ((with_reducible refine gate_store (t := 3) (p := 7) rfl ?_); refine store_event (t := 3) (p := 7) (v := ?vo7c) (w1 := w2.setCell ⟨gc, 0, none⟩ (.int .i64 (c2 + 1))) ?hg ?ho ?hn ?hr ?_; (case ho => rfl); (case hg => rfl); (case hn => rfl); (case hr => first | (go_simp; done) | (go_simp; rfl)); intro w3 hw; have V2 := ak (V1.out.clock (c2 + 1)); rw [← hw] at V2; clear hw; have k11 : w3.cell? ⟨gs, 0, none⟩ = some (.slice (some ⟨b, 0, none⟩) S2.length cs) := (blk_cell V2.out.bs 0).trans rfl; have k12 := blk_frozen V2.out.bs 0) | ((with_reducible refine gate_store (t := 60) (p := 8) rfl ?_); refine store_event (t := 60) (p := 8) (v := ?vo8c) (w1 := w3.setCell ⟨gs, 0, none⟩ (.slice (some ⟨b, 0, none⟩) (S2.length - 1) cs)) ?hg ?ho ?hn ?hr ?_; (case ho => rfl); (case hg => rfl); (case hn => rfl); (case hr => first | (go_simp; done) | (go_simp; rfl)); intro w4 hw; have V3 := ak (V2.out.pop (m' := S2.length - 1) (by have := HL.out; omega)); rw [← hw] at V3; clear hw))
                      go_roundg kh
                      case measure => have := HK1.out; have := HK2.out; have := HK3.out; omega
                      case rel => exact ⟨_, _, c2 + 1, _, _, H', ⟨by have := HK1.out; have := HK2.out; have := HK3.out; omega⟩, V3⟩
              · rw [if_neg d1] at H
                have d1a : decide (0 < S2.length) = false := decide_eq_false (by omega)
                have d1b : decide ((0 : Int) < (S2.length : Int)) = false := decide_eq_false d1
                have H' := ak H
                clear H
                go_wp2_with (first | go_step3 | (with_reducible refine Eq.mpr Exit.noGoto_normal ?_) | (with_reducible refine Eq.mpr Exit.noGoto_ret ?_) | (with_reducible refine Eq.mpr (Exit.noGoto_exit _) ?_))
                go_roundg kg
                case measure => have := HK1.out; have := HK2.out; omega
                case rel => exact ⟨s + 1, P2, Q2, c2, S2, _, rfl, H', ⟨by have := HK1.out; have := HK2.out; omega⟩, V⟩
      · rw [if_neg c1] at H
        have c1b := decide_eq_false c1
        clear c1
        obtain ⟨rfl, rfl, rfl⟩ : P1 = r1 ∧ Q1 = r2 ∧ 0 = r3 := by simpa using H
        clear H
        have k2 := blk_frozen V.out.bp 0
        go_wp2_with (first | go_step3 | (with_reducible refine Eq.mpr Exit.noGoto_normal ?_) | (with_reducible refine Eq.mpr Exit.noGoto_ret ?_) | (with_reducible refine Eq.mpr (Exit.noGoto_exit _) ?_))
        have k9 : (wr.setCell ⟨gp, 0, none⟩ (.slice Aa P.length ca)).cell? ⟨gp, 0, none⟩ = some (.slice Aa P.length ca) := (blk_cell (g := gp) (cs := #[.slice Aa P.length ca]) (t := 26) (blk_put V.out.bp 0 _ rfl) 0).trans rfl
        exact bodyPost_ret (v := .tuple #[.slice Aa P.length ca, .slice Ab P.length cb, .int .i64 0]) (by simp [results, Try.results19, go_sem, k9]) rfl ⟨_, _, rfl, Kd.R_mono (Kd.R_set V.out.rp V.out.bp (by decide) _ _) (fun k hk => hk.2), Kd.R_mono (Kd.R_set V.out.rq V.out.bp (by decide) _ _) (fun k hk => hk.2), below_set V.out.below GP.out⟩
theorem walk_Visit.calls (k : Nat) (a0_0 : Int) (A0_1 : Option Addr) (c0_1 : Nat) (l0_1 : List S41) (r1 r2 : List Int) (r3 : Int) (w : World) (hr0_1 : Kd.C k41 w A0_1 l0_1.length l0_1) (hc0_1 : l0_1.length ≤ c0_1) (h : walk_Visit.f k a0_0 l0_1 = some (r1, r2, r3)) :
    Calls Try.prog 19 #[.agg #[.int .i64 a0_0, .slice A0_1 l0_1.length c0_1]] w fun e w' => ∃ v0_ v1_ : Value, e = .returned (.tuple #[v0_, v1_, .int .i64 r3]) ∧ Kd.R (Kd.int .i64) 3 w' w.heap.size (fun k_ => some k_ ≠ (v1_ : Value).ownBlock) v0_ r1 ∧ Kd.R (Kd.int .i64) 3 w' w.heap.size (fun k_ => some k_ ≠ (v0_ : Value).ownBlock) v1_ r2 ∧ Below w.heap.size w w' := by
  obtain ⟨⟨t1, t2⟩, A2, H⟩ := Option.bind_eq_some_iff.mp h
  dsimp only at H
  by_cases c3 : t1 = 0
  · rw [if_pos c3] at H
    subst c3
    exact walk_Visit.good k a0_0 A0_1 c0_1 l0_1 r1 r2 r3 w hr0_1 hc0_1 t2 A2 H
  · rw [if_neg c3] at H
    obtain ⟨rfl, rfl, rfl⟩ : ([] : List Int) = r1 ∧ ([] : List Int) = r2 ∧ t1 = r3 := by simpa using H
    exact walk_Visit.bad k a0_0 A0_1 c0_1 l0_1 w hr0_1 hc0_1 t1 t2 A2 c3
end Go.Proofs.Ytacklfnnpiobgaa.Q
