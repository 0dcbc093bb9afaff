import Derived.Test.YtpmclhkednehhaaNetU
import Derived.Test.YtpmclhkednehhaaQ2
/- Which edges go out of a node, and which come into it: typed by hand. -/
set_option linter.unusedVariables false
set_option linter.unusedSimpArgs false
namespace Go.Proofs.Ytpmclhkednehhaa.Q
open Go.RowKit Go.Proofs.YtpmclhkednehhaaW.PrintWords Go.Proofs.YtpmclhkednehhaaW.PrintLast Go.Proofs.YtpmclhkednehhaaW.PrintMore
/-- The numbers of the edges of which something is so, rising. -/
def pick (p : S39 → Bool) (E : List S39) (i : Nat) : List Int := ((List.range i).filter fun (j : Nat) => p (rd_T39 E (j : Int))).map fun (j : Nat) => (j : Int)
theorem pick_yes {p : S39 → Bool} {E : List S39} {i : Nat} (h : p (rd_T39 E (i : Int)) = true) : pick p E (i + 1) = pick p E i ++ [(i : Int)] := by
  unfold pick
  rw [List.range_succ, List.filter_append, List.map_append, List.filter_cons, h]
  rfl
theorem pick_no {p : S39 → Bool} {E : List S39} {i : Nat} (h : p (rd_T39 E (i : Int)) = false) : pick p E (i + 1) = pick p E i := by
  unfold pick
  rw [List.range_succ, List.filter_append, List.map_append, List.filter_cons, h]
  simp
theorem pick_len (p : S39 → Bool) (E : List S39) (i : Nat) : (pick p E i).length ≤ i := by
  unfold pick
  rw [List.length_map]
  exact Nat.le_trans (List.length_filter_le _ _) (by rw [List.length_range]; exact Nat.le_refl _)

theorem Net_Out_1.calls (e : S39) (gv : Nat) (v : Int) (W : World) (k0 : W.cell? ⟨gv, 0, none⟩ = some (.int .i64 v)) :
    Calls Try.prog 35 #[.agg #[.int .i64 e.f0, .int .i64 e.f1, .int .i64 e.f2, .int .i64 e.f3], .pointer (some ⟨gv, 0, none⟩)] W fun x w' => x = .returned (.bool (e.f0 == v)) ∧ Below W.heap.size W w' := by
  have hu39 := Try.underlying39
  have KV := ak k0
  have HB := ak (Below.refl W.heap.size W)
  clear k0
  go_enter Try.func35, Try.ntmps35
  go_wp2_with (first
    | ((with_reducible refine gate_dst (N := 2) rfl ?_); refine box_event ?hg (N := 2) ?hd (cs := #[.int .i64 e.f0, .int .i64 e.f1, .int .i64 e.f2, .int .i64 e.f3]) (t := 39) ?hr ?_; (case hd => rfl); (case hg => rfl); (case hr => first | (go_simp; done) | (go_simp; rfl)); intro gg hg w1 bg hb; have HB1 := ak (below_step HB.out hb); have BG := ak bg; have k1 := bc0 BG; have k2 : w1.cell? ⟨gv, 0, none⟩ = some (.int .i64 v) := (hb.cell (World.block_lt_of_cell? W _ KV.out)).trans KV.out; clear hb bg hg))
  go_ret
  exact ⟨rfl, HB1.out⟩
def outs (v : Int) (E : List S39) : List Int := pick (fun e => e.f0 == v) E E.length
set_option maxHeartbeats 4000000 in
set_option maxRecDepth 100000 in
theorem shape_where.outs (p : Nat) (n v : Int) (gv : Nat) (A : Option Addr) (cap : Nat) (E : List S39) (W : World) (hp : W.heap[p]? = some (.cells #[.int .i64 n, .slice A E.length cap] 44 (0, 0))) (hr : Kd.C k39 W A E.length E) (hc : E.length ≤ cap) (hl : E.length < 4398046511104) (hv : W.cell? ⟨gv, 0, none⟩ = some (.int .i64 v)) :
    Calls Try.prog 34 #[.pointer (some ⟨p, 0, none⟩), .func (.func 35) #[] #[.pointer (some ⟨gv, 0, none⟩)]] W fun x w' => ∃ u : Value, x = .returned u ∧ Kd.R (Kd.int .i64) 3 w' W.heap.size (fun _ => True) u (outs v E) ∧ Below W.heap.size W w' := by
  have hu39 := Try.underlying39
  have hu42 := Try.underlying42
  have LN := ak hl
  have HR := ak hr
  have HC := ak hc
  have HV := ak hv
  have HB := ak (Below.refl W.heap.size W)
  have k0 : W.cell? ⟨p, 1, none⟩ = some (.slice A E.length cap) := (blk_cell hp 1).trans rfl
  clear hl hr hc hp hv
  go_enter Try.func34, Try.ntmps34
  go_wp2
  clear k0
  have R0 := ak (show Kd.R (Kd.int .i64) 3 W W.heap.size (fun _ => True) (.slice none 0 0) (pick (fun e => e.f0 == v) E 0) from Kd.R_nil _ _ _ _ _)
  go_loopg [13, 5] E.length (fun kq v13 v5 w' => ∃ i : Nat, v13 = .int .i64 (i : Int) ∧ Aside0 (kq + i = E.length) ∧ Aside0 (Kd.R (Kd.int .i64) 3 w' W.heap.size (fun _ => True) v5 (pick (fun e => e.f0 == v) E i)) ∧ Aside0 (Below W.heap.size W w'))
  case atStart => exact ⟨0, rfl, ⟨rfl⟩, R0, HB⟩
  case round =>
    clear R0 HB
    obtain ⟨i, rfl, HK, R1, HB1⟩ := hrel
    obtain ⟨Ao, co, eo⟩ := Kd.R_slice R1.out
    subst eo
    by_cases c1 : i < E.length
    · have c1a : decide (i < E.length) = true := decide_eq_true c1
      have c1b : decide ((i : Int) < (E.length : Int)) = true := decide_eq_true (by omega)
      have p0 : 0 ≤ (i : Int) := by omega
      have q0 : (i : Int) < (E.length : Int) := by omega
      obtain ⟨ad, e1, k1, k2, k3, k4⟩ := at_T39 HR.out (i : Int) p0 q0
      cases e1
      replace k1 := (HB1.out.cell (World.block_lt_of_cell? W _ k1)).trans k1
      replace k2 := (HB1.out.cell (World.block_lt_of_cell? W _ k2)).trans k2
      replace k3 := (HB1.out.cell (World.block_lt_of_cell? W _ k3)).trans k3
      replace k4 := (HB1.out.cell (World.block_lt_of_cell? W _ k4)).trans k4
      rw [Int.toNat_natCast] at k1 k2 k3 k4
      have hw1 : Go.RowKit.wrap64 ((i : Int) + 1) = ((i + 1 : Nat) : Int) := by have := LN.out; unfold Go.RowKit.wrap64; omega
      have aL0 : ((pick (fun e => e.f0 == v) E i).length + 1) * 8 ≤ 140737488355328 := by have := LN.out; have := pick_len (fun e => e.f0 == v) E i; omega
      have AL := ak aL0
      clear aL0
      have KB := ak (show Below wr.heap.size wr wr from Below.refl _ _)
      by_cases c2 : (rd_T39 E (i : Int)).f0 = v
      · have c2b : ((rd_T39 E (i : Int)).f0 == v) = true := beq_iff_eq.mpr c2
        have PY := ak (pick_yes (p := fun e => e.f0 == v) (E := E) (i := i) c2b)
        clear c2
        go_wp2_with (first
          | ((with_reducible refine gate_dst (N := 7) rfl ?_); refine box_event ?hg (N := 7) ?hd (cs := #[.int .i64 0, .int .i64 0, .int .i64 0, .int .i64 0]) (t := 39) ?hr ?_; (case hd => rfl); (case hg => rfl); (case hr => first | (go_simp; done) | (go_simp; rfl)); intro gb hg w2 bb hb; have HB2 := ak (below_step HB1.out hb); have R2 := ak (Kd.R_below R1.out hb); have NB := ak (show W.heap.size ≤ gb by rw [hg]; exact below_size HB1.out); have BB := ak bb; have k5 := bc0 BB; have k6 := bc1 BB; have k7 := bc2 BB; have k8 := bc3 BB; have k9 := bf BB 0; have k10 := bf BB 1; have k11 := bf BB 2; have k12 := bf BB 3; clear hb bb hg)
          | ((with_reducible refine gate_store (t := 39) (p := 7) rfl ?_); refine store_event (t := 39) (p := 7) (v := ?vs) (w1 := (((w2.setCell ⟨gb, 0, none⟩ (.int .i64 (rd_T39 E (i : Int)).f0)).setCell ⟨gb, 1, none⟩ (.int .i64 (rd_T39 E (i : Int)).f1)).setCell ⟨gb, 2, none⟩ (.int .i64 (rd_T39 E (i : Int)).f2)).setCell ⟨gb, 3, none⟩ (.int .i64 (rd_T39 E (i : Int)).f3)) ?hg ?ho ?hn ?hr ?_; (case ho => rfl); (case hg => rfl); (case hn => rfl); (case hr => first | (go_simp; done) | (go_simp; rfl)); intro w3 hw; have HB3 := ak (show Below W.heap.size W w3 by rw [hw]; exact below_set (below_set (below_set (below_set HB2.out NB.out) NB.out) NB.out) NB.out); have b1 := blk_put (blk_put (blk_put (blk_put BB.out 0 (.int .i64 (rd_T39 E (i : Int)).f0) rfl) 1 (.int .i64 (rd_T39 E (i : Int)).f1) rfl) 2 (.int .i64 (rd_T39 E (i : Int)).f2) rfl) 3 (.int .i64 (rd_T39 E (i : Int)).f3) rfl; have BB3 := ak (show w3.heap[gb]? = some (.cells #[.int .i64 (rd_T39 E (i : Int)).f0, .int .i64 (rd_T39 E (i : Int)).f1, .int .i64 (rd_T39 E (i : Int)).f2, .int .i64 (rd_T39 E (i : Int)).f3] 39 (0, 0)) by rw [hw]; exact b1); have R3 := ak (show Kd.R (Kd.int .i64) 3 w3 W.heap.size (fun _ => True) (.slice Ao (pick (fun e => e.f0 == v) E i).length co) (pick (fun e => e.f0 == v) E i) by rw [hw]; exact Kd.R_set (Kd.R_set (Kd.R_set (Kd.R_set R2.out BB.out (by decide) 0 _) (blk_put BB.out 0 _ rfl) (by decide) 1 _) (blk_put (blk_put BB.out 0 (.int .i64 (rd_T39 E (i : Int)).f0) rfl) 1 (.int .i64 (rd_T39 E (i : Int)).f1) rfl) (by decide) 2 _) (blk_put (blk_put (blk_put BB.out 0 (.int .i64 (rd_T39 E (i : Int)).f0) rfl) 1 (.int .i64 (rd_T39 E (i : Int)).f1) rfl) 2 (.int .i64 (rd_T39 E (i : Int)).f2) rfl) (by decide) 3 _); clear b1 hw; have k5 := bc0 BB3; have k6 := bc1 BB3; have k7 := bc2 BB3; have k8 := bc3 BB3; have hv3 : w3.cell? ⟨gv, 0, none⟩ = some (.int .i64 v) := (HB3.out.cell (World.block_lt_of_cell? W _ HV.out)).trans HV.out)
          | (go_at_call 35; (with_reducible refine (Net_Out_1.calls (rd_T39 E (i : Int)) gv v _ hv3).mono ?_); rintro e w4 ⟨rfl, hb⟩; have HB4 := ak (below_step HB3.out hb); have R4 := ak (Kd.R_below R3.out hb); clear hb)  
          | ((with_reducible refine gate_builtin (b := .append) (xs := #[.tmp 21, .tmp 23]) rfl ?_); at_builtin; refine Kd.R_append (Kd.int .i64) (w0 := W) W.heap.size rfl (.tmp 21) (.tmp 23) 45 3 (.int .i64 0) 8 rfl Try.underlying45 info3 rfl (by decide) (by omega) (.slice Ao (pick (fun e => e.f0 == v) E i).length co) (pick (fun e => e.f0 == v) E i) (i : Int) [.int .i64 (i : Int)] (fun _ => True) (fun _ => False) rfl (by first | (go_simp; done) | (go_simp; rfl)) ?aP (fun _ hk => hk.elim) (fun _ _ => trivial) ?aO ?aB ?aS ?aL ?_; (case aP => exact rfl); (case aB => exact HB4.out); (case aO => exact R4.out); (case aS => exact below_size HB4.out); (case aL => exact AL.out); intro v7 w7 ho7 hb7 hg7 hat7; obtain ⟨A7, c7, e7⟩ := Kd.R_slice ho7; subst e7; have R7 := ak ho7; have HB7 := ak hb7; clear ho7 hb7 hg7 hat7))
        go_roundg (E.length - (i + 1))
        case measure => have := HK.out; omega
        case rel => exact ⟨i + 1, by first | (rw [hw1]; done) | (simp only [i64_w, hw1]; done) | (go_num; done) | (go_num; rw [hw1]; done), ⟨by have := HK.out; omega⟩, ⟨by rw [PY.out]; have q := R7.out; simp only [List.length_append, List.length_singleton] at q ⊢; exact q⟩, HB7⟩
      · have c2b : ((rd_T39 E (i : Int)).f0 == v) = false := beq_eq_false_iff_ne.mpr c2
        have PN := ak (pick_no (p := fun e => e.f0 == v) (E := E) (i := i) c2b)
        clear c2
        go_wp2_with (first
          | ((with_reducible refine gate_dst (N := 7) rfl ?_); refine box_event ?hg (N := 7) ?hd (cs := #[.int .i64 0, .int .i64 0, .int .i64 0, .int .i64 0]) (t := 39) ?hr ?_; (case hd => rfl); (case hg => rfl); (case hr => first | (go_simp; done) | (go_simp; rfl)); intro gb hg w2 bb hb; have HB2 := ak (below_step HB1.out hb); have R2 := ak (Kd.R_below R1.out hb); have NB := ak (show W.heap.size ≤ gb by rw [hg]; exact below_size HB1.out); have BB := ak bb; have k5 := bc0 BB; have k6 := bc1 BB; have k7 := bc2 BB; have k8 := bc3 BB; have k9 := bf BB 0; have k10 := bf BB 1; have k11 := bf BB 2; have k12 := bf BB 3; clear hb bb hg)
          | ((with_reducible refine gate_store (t := 39) (p := 7) rfl ?_); refine store_event (t := 39) (p := 7) (v := ?vs) (w1 := (((w2.setCell ⟨gb, 0, none⟩ (.int .i64 (rd_T39 E (i : Int)).f0)).setCell ⟨gb, 1, none⟩ (.int .i64 (rd_T39 E (i : Int)).f1)).setCell ⟨gb, 2, none⟩ (.int .i64 (rd_T39 E (i : Int)).f2)).setCell ⟨gb, 3, none⟩ (.int .i64 (rd_T39 E (i : Int)).f3)) ?hg ?ho ?hn ?hr ?_; (case ho => rfl); (case hg => rfl); (case hn => rfl); (case hr => first | (go_simp; done) | (go_simp; rfl)); intro w3 hw; have HB3 := ak (show Below W.heap.size W w3 by rw [hw]; exact below_set (below_set (below_set (below_set HB2.out NB.out) NB.out) NB.out) NB.out); have b1 := blk_put (blk_put (blk_put (blk_put BB.out 0 (.int .i64 (rd_T39 E (i : Int)).f0) rfl) 1 (.int .i64 (rd_T39 E (i : Int)).f1) rfl) 2 (.int .i64 (rd_T39 E (i : Int)).f2) rfl) 3 (.int .i64 (rd_T39 E (i : Int)).f3) rfl; have BB3 := ak (show w3.heap[gb]? = some (.cells #[.int .i64 (rd_T39 E (i : Int)).f0, .int .i64 (rd_T39 E (i : Int)).f1, .int .i64 (rd_T39 E (i : Int)).f2, .int .i64 (rd_T39 E (i : Int)).f3] 39 (0, 0)) by rw [hw]; exact b1); have R3 := ak (show Kd.R (Kd.int .i64) 3 w3 W.heap.size (fun _ => True) (.slice Ao (pick (fun e => e.f0 == v) E i).length co) (pick (fun e => e.f0 == v) E i) by rw [hw]; exact Kd.R_set (Kd.R_set (Kd.R_set (Kd.R_set R2.out BB.out (by decide) 0 _) (blk_put BB.out 0 _ rfl) (by decide) 1 _) (blk_put (blk_put BB.out 0 (.int .i64 (rd_T39 E (i : Int)).f0) rfl) 1 (.int .i64 (rd_T39 E (i : Int)).f1) rfl) (by decide) 2 _) (blk_put (blk_put (blk_put BB.out 0 (.int .i64 (rd_T39 E (i : Int)).f0) rfl) 1 (.int .i64 (rd_T39 E (i : Int)).f1) rfl) 2 (.int .i64 (rd_T39 E (i : Int)).f2) rfl) (by decide) 3 _); clear b1 hw; have k5 := bc0 BB3; have k6 := bc1 BB3; have k7 := bc2 BB3; have k8 := bc3 BB3; have hv3 : w3.cell? ⟨gv, 0, none⟩ = some (.int .i64 v) := (HB3.out.cell (World.block_lt_of_cell? W _ HV.out)).trans HV.out)
          | (go_at_call 35; (with_reducible refine (Net_Out_1.calls (rd_T39 E (i : Int)) gv v _ hv3).mono ?_); rintro e w4 ⟨rfl, hb⟩; have HB4 := ak (below_step HB3.out hb); have R4 := ak (Kd.R_below R3.out hb); clear hb))
        go_roundg (E.length - (i + 1))
        case measure => have := HK.out; omega
        case rel => exact ⟨i + 1, by first | (rw [hw1]; done) | (simp only [i64_w, hw1]; done) | (go_num; done) | (go_num; rw [hw1]; done), ⟨by have := HK.out; omega⟩, ⟨by rw [PN.out]; exact R4.out⟩, HB4⟩
    · have c1a : decide (i < E.length) = false := decide_eq_false c1
      have c1b : decide ((i : Int) < (E.length : Int)) = false := decide_eq_false (by omega)
      have ei : i = E.length := by have := HK.out; omega
      have EI := ak ei
      clear c1 ei
      go_wp2
      go_ret
      exact ⟨_, rfl, by have q := R1.out; rw [EI.out] at q ⊢; exact q, HB1.out⟩

set_option maxHeartbeats 4000000 in
set_option maxRecDepth 100000 in
theorem Net_Out.good (p : Nat) (n v : Int) (A : Option Addr) (cap : Nat) (E : List S39) (W : World) (hp : W.heap[p]? = some (.cells #[.int .i64 n, .slice A E.length cap] 44 (0, 0))) (hr : Kd.C k39 W A E.length E) (hc : E.length ≤ cap) (hl : E.length < 4398046511104) (h0 : 0 ≤ v) (h1 : v < n) :
    Calls Try.prog 17 #[.pointer (some ⟨p, 0, none⟩), .int .i64 v] W fun x w' => ∃ u : Value, x = .returned (.tuple #[u, .int .i64 0]) ∧ Kd.R (Kd.int .i64) 3 w' W.heap.size (fun _ => True) u (outs v E) ∧ Below W.heap.size W w' := by
  have hu44 := Try.underlying44
  have d0 : decide (0 ≤ v) = true := decide_eq_true h0
  have d1 : decide (v < n) = true := decide_eq_true h1
  have hmf : ∀ (fn : Fn) (first cap : Array Value) (w : World), (Instr.makeFunc fn first cap).run Try.prog w = .ok (.func fn first cap) w := fun _ _ _ _ => rfl
  clear h0 h1
  have HP := ak hp
  have HR := ak hr
  have HC := ak hc
  have LN := ak hl
  have HB := ak (Below.refl W.heap.size W)
  clear hp hr hc hl
  go_enter Try.func17, Try.ntmps17
  go_wp2_with (first
    | ((with_reducible refine gate_dst (N := 3) rfl ?_); refine box_event ?hg (N := 3) ?hd (cs := #[.int .i64 v]) (t := 3) ?hr ?_; (case hd => rfl); (case hg => rfl); (case hr => first | (go_simp; done) | (go_simp; rfl)); intro gv hg w1 bv hb; have HB1 := ak (below_step HB.out hb); have BV := ak bv; have BP := ak (blk_below HP.out hb); clear hb bv hg))
  go_region_held3 (fun w' => w'.cell? ⟨gv, 0, none⟩ = some (.int .i64 v)) (exact bc0 (ak (bx BV.out)))
    (first | (go_at_call 33; (with_reducible refine (shape_node.calls p n v _ (bc0 (ak (bx BP.out)))).mono ?_); rintro e w' ⟨rfl, rfl⟩))
  go_wp2_with (first
    | (go_at_call 34; (with_reducible refine (shape_where.outs p n v gv A cap E _ (bx BP.out) (Kd.C_below HR.out (by first | exact HB1.out | exact below_drew HB1.out)) HC.out LN.out (bc0 (ak (bx BV.out)))).mono ?_); rintro e w3 ⟨u, rfl, ru, hb⟩; have RU := ak ru; have HB3 := ak (below_step (show Below W.heap.size W _ from by first | exact HB1.out | exact below_drew HB1.out) hb); have UB := ak (show W.heap.size ≤ w1.heap.size from below_size HB1.out); clear hb ru))
  go_ret2
  exact ⟨_, rfl, Kd.R_lower RU.out UB.out, HB3.out⟩
set_option maxHeartbeats 4000000 in
set_option maxRecDepth 100000 in
theorem Net_Out.bad (p : Nat) (n v : Int) (A : Option Addr) (cap : Nat) (E : List S39) (W : World) (hp : W.heap[p]? = some (.cells #[.int .i64 n, .slice A E.length cap] 44 (0, 0))) (h0 : ¬ (0 ≤ v ∧ v < n)) :
    Calls Try.prog 17 #[.pointer (some ⟨p, 0, none⟩), .int .i64 v] W fun x w' => x = .returned (.tuple #[.slice none 0 0, .int .i64 30]) ∧ Below W.heap.size W w' := by
  have hu44 := Try.underlying44
  have d0 : (decide (0 ≤ v) && decide (v < n)) = false := by rw [Bool.and_eq_false_iff, decide_eq_false_iff_not, decide_eq_false_iff_not]; omega
  have D0 := ak d0
  clear h0 d0
  have HP := ak hp
  have HB := ak (Below.refl W.heap.size W)
  clear hp
  go_enter Try.func17, Try.ntmps17
  go_wp2_with (first
    | ((with_reducible refine gate_dst (N := 3) rfl ?_); refine box_event ?hg (N := 3) ?hd (cs := #[.int .i64 v]) (t := 3) ?hr ?_; (case hd => rfl); (case hg => rfl); (case hr => first | (go_simp; done) | (go_simp; rfl)); intro gv hg w1 bv hb; have HB1 := ak (below_step HB.out hb); have BV := ak bv; have BP := ak (blk_below HP.out hb); clear hb bv hg))
  go_region_held3 (fun w' => w'.cell? ⟨gv, 0, none⟩ = some (.int .i64 v)) (exact bc0 (ak (bx BV.out)))
    (first | (go_at_call 33; (with_reducible refine (shape_node.calls p n v _ (bc0 (ak (bx BP.out)))).mono ?_); rintro e w' ⟨rfl, rfl⟩; rw [D0.out]))
  go_wp2
  go_ret2
  exact ⟨rfl, below_drew HB1.out⟩

theorem Net_In_1.calls (e : S39) (gv : Nat) (v : Int) (W : World) (k0 : W.cell? ⟨gv, 0, none⟩ = some (.int .i64 v)) :
    Calls Try.prog 36 #[.agg #[.int .i64 e.f0, .int .i64 e.f1, .int .i64 e.f2, .int .i64 e.f3], .pointer (some ⟨gv, 0, none⟩)] W fun x w' => x = .returned (.bool (e.f1 == v)) ∧ Below W.heap.size W w' := by
  have hu39 := Try.underlying39
  have KV := ak k0
  have HB := ak (Below.refl W.heap.size W)
  clear k0
  go_enter Try.func36, Try.ntmps36
  go_wp2_with (first
    | ((with_reducible refine gate_dst (N := 2) rfl ?_); refine box_event ?hg (N := 2) ?hd (cs := #[.int .i64 e.f0, .int .i64 e.f1, .int .i64 e.f2, .int .i64 e.f3]) (t := 39) ?hr ?_; (case hd => rfl); (case hg => rfl); (case hr => first | (go_simp; done) | (go_simp; rfl)); intro gg hg w1 bg hb; have HB1 := ak (below_step HB.out hb); have BG := ak bg; have k1 := bc1 BG; have k2 : w1.cell? ⟨gv, 0, none⟩ = some (.int .i64 v) := (hb.cell (World.block_lt_of_cell? W _ KV.out)).trans KV.out; clear hb bg hg))
  go_ret
  exact ⟨rfl, HB1.out⟩
def ins (v : Int) (E : List S39) : List Int := pick (fun e => e.f1 == v) E E.length
set_option maxHeartbeats 4000000 in
set_option maxRecDepth 100000 in
theorem shape_where.ins (p : Nat) (n v : Int) (gv : Nat) (A : Option Addr) (cap : Nat) (E : List S39) (W : World) (hp : W.heap[p]? = some (.cells #[.int .i64 n, .slice A E.length cap] 44 (0, 0))) (hr : Kd.C k39 W A E.length E) (hc : E.length ≤ cap) (hl : E.length < 4398046511104) (hv : W.cell? ⟨gv, 0, none⟩ = some (.int .i64 v)) :
    Calls Try.prog 34 #[.pointer (some ⟨p, 0, none⟩), .func (.func 36) #[] #[.pointer (some ⟨gv, 0, none⟩)]] W fun x w' => ∃ u : Value, x = .returned u ∧ Kd.R (Kd.int .i64) 3 w' W.heap.size (fun _ => True) u (ins v E) ∧ Below W.heap.size W w' := by
  have hu39 := Try.underlying39
  have hu42 := Try.underlying42
  have LN := ak hl
  have HR := ak hr
  have HC := ak hc
  have HV := ak hv
  have HB := ak (Below.refl W.heap.size W)
  have k0 : W.cell? ⟨p, 1, none⟩ = some (.slice A E.length cap) := (blk_cell hp 1).trans rfl
  clear hl hr hc hp hv
  go_enter Try.func34, Try.ntmps34
  go_wp2
  clear k0
  have R0 := ak (show Kd.R (Kd.int .i64) 3 W W.heap.size (fun _ => True) (.slice none 0 0) (pick (fun e => e.f1 == v) E 0) from Kd.R_nil _ _ _ _ _)
  go_loopg [13, 5] E.length (fun kq v13 v5 w' => ∃ i : Nat, v13 = .int .i64 (i : Int) ∧ Aside0 (kq + i = E.length) ∧ Aside0 (Kd.R (Kd.int .i64) 3 w' W.heap.size (fun _ => True) v5 (pick (fun e => e.f1 == v) E i)) ∧ Aside0 (Below W.heap.size W w'))
  case atStart => exact ⟨0, rfl, ⟨rfl⟩, R0, HB⟩
  case round =>
    clear R0 HB
    obtain ⟨i, rfl, HK, R1, HB1⟩ := hrel
    obtain ⟨Ao, co, eo⟩ := Kd.R_slice R1.out
    subst eo
    by_cases c1 : i < E.length
    · have c1a : decide (i < E.length) = true := decide_eq_true c1
      have c1b : decide ((i : Int) < (E.length : Int)) = true := decide_eq_true (by omega)
      have p0 : 0 ≤ (i : Int) := by omega
      have q0 : (i : Int) < (E.length : Int) := by omega
      obtain ⟨ad, e1, k1, k2, k3, k4⟩ := at_T39 HR.out (i : Int) p0 q0
      cases e1
      replace k1 := (HB1.out.cell (World.block_lt_of_cell? W _ k1)).trans k1
      replace k2 := (HB1.out.cell (World.block_lt_of_cell? W _ k2)).trans k2
      replace k3 := (HB1.out.cell (World.block_lt_of_cell? W _ k3)).trans k3
      replace k4 := (HB1.out.cell (World.block_lt_of_cell? W _ k4)).trans k4
      rw [Int.toNat_natCast] at k1 k2 k3 k4
      have hw1 : Go.RowKit.wrap64 ((i : Int) + 1) = ((i + 1 : Nat) : Int) := by have := LN.out; unfold Go.RowKit.wrap64; omega
      have aL0 : ((pick (fun e => e.f1 == v) E i).length + 1) * 8 ≤ 140737488355328 := by have := LN.out; have := pick_len (fun e => e.f1 == v) E i; omega
      have AL := ak aL0
      clear aL0
      have KB := ak (show Below wr.heap.size wr wr from Below.refl _ _)
      by_cases c2 : (rd_T39 E (i : Int)).f1 = v
      · have c2b : ((rd_T39 E (i : Int)).f1 == v) = true := beq_iff_eq.mpr c2
        have PY := ak (pick_yes (p := fun e => e.f1 == v) (E := E) (i := i) c2b)
        clear c2
        go_wp2_with (first
          | ((with_reducible refine gate_dst (N := 7) rfl ?_); refine box_event ?hg (N := 7) ?hd (cs := #[.int .i64 0, .int .i64 0, .int .i64 0, .int .i64 0]) (t := 39) ?hr ?_; (case hd => rfl); (case hg => rfl); (case hr => first | (go_simp; done) | (go_simp; rfl)); intro gb hg w2 bb hb; have HB2 := ak (below_step HB1.out hb); have R2 := ak (Kd.R_below R1.out hb); have NB := ak (show W.heap.size ≤ gb by rw [hg]; exact below_size HB1.out); have BB := ak bb; have k5 := bc0 BB; have k6 := bc1 BB; have k7 := bc2 BB; have k8 := bc3 BB; have k9 := bf BB 0; have k10 := bf BB 1; have k11 := bf BB 2; have k12 := bf BB 3; clear hb bb hg)
          | ((with_reducible refine gate_store (t := 39) (p := 7) rfl ?_); refine store_event (t := 39) (p := 7) (v := ?vs) (w1 := (((w2.setCell ⟨gb, 0, none⟩ (.int .i64 (rd_T39 E (i : Int)).f0)).setCell ⟨gb, 1, none⟩ (.int .i64 (rd_T39 E (i : Int)).f1)).setCell ⟨gb, 2, none⟩ (.int .i64 (rd_T39 E (i : Int)).f2)).setCell ⟨gb, 3, none⟩ (.int .i64 (rd_T39 E (i : Int)).f3)) ?hg ?ho ?hn ?hr ?_; (case ho => rfl); (case hg => rfl); (case hn => rfl); (case hr => first | (go_simp; done) | (go_simp; rfl)); intro w3 hw; have HB3 := ak (show Below W.heap.size W w3 by rw [hw]; exact below_set (below_set (below_set (below_set HB2.out NB.out) NB.out) NB.out) NB.out); have b1 := blk_put (blk_put (blk_put (blk_put BB.out 0 (.int .i64 (rd_T39 E (i : Int)).f0) rfl) 1 (.int .i64 (rd_T39 E (i : Int)).f1) rfl) 2 (.int .i64 (rd_T39 E (i : Int)).f2) rfl) 3 (.int .i64 (rd_T39 E (i : Int)).f3) rfl; have BB3 := ak (show w3.heap[gb]? = some (.cells #[.int .i64 (rd_T39 E (i : Int)).f0, .int .i64 (rd_T39 E (i : Int)).f1, .int .i64 (rd_T39 E (i : Int)).f2, .int .i64 (rd_T39 E (i : Int)).f3] 39 (0, 0)) by rw [hw]; exact b1); have R3 := ak (show Kd.R (Kd.int .i64) 3 w3 W.heap.size (fun _ => True) (.slice Ao (pick (fun e => e.f1 == v) E i).length co) (pick (fun e => e.f1 == v) E i) by rw [hw]; exact Kd.R_set (Kd.R_set (Kd.R_set (Kd.R_set R2.out BB.out (by decide) 0 _) (blk_put BB.out 0 _ rfl) (by decide) 1 _) (blk_put (blk_put BB.out 0 (.int .i64 (rd_T39 E (i : Int)).f0) rfl) 1 (.int .i64 (rd_T39 E (i : Int)).f1) rfl) (by decide) 2 _) (blk_put (blk_put (blk_put BB.out 0 (.int .i64 (rd_T39 E (i : Int)).f0) rfl) 1 (.int .i64 (rd_T39 E (i : Int)).f1) rfl) 2 (.int .i64 (rd_T39 E (i : Int)).f2) rfl) (by decide) 3 _); clear b1 hw; have k5 := bc0 BB3; have k6 := bc1 BB3; have k7 := bc2 BB3; have k8 := bc3 BB3; have hv3 : w3.cell? ⟨gv, 0, none⟩ = some (.int .i64 v) := (HB3.out.cell (World.block_lt_of_cell? W _ HV.out)).trans HV.out)
          | (go_at_call 36; (with_reducible refine (Net_In_1.calls (rd_T39 E (i : Int)) gv v _ hv3).mono ?_); rintro e w4 ⟨rfl, hb⟩; have HB4 := ak (below_step HB3.out hb); have R4 := ak (Kd.R_below R3.out hb); clear hb)  
          | ((with_reducible refine gate_builtin (b := .append) (xs := #[.tmp 21, .tmp 23]) rfl ?_); at_builtin; refine Kd.R_append (Kd.int .i64) (w0 := W) W.heap.size rfl (.tmp 21) (.tmp 23) 45 3 (.int .i64 0) 8 rfl Try.underlying45 info3 rfl (by decide) (by omega) (.slice Ao (pick (fun e => e.f1 == v) E i).length co) (pick (fun e => e.f1 == v) E i) (i : Int) [.int .i64 (i : Int)] (fun _ => True) (fun _ => False) rfl (by first | (go_simp; done) | (go_simp; rfl)) ?aP (fun _ hk => hk.elim) (fun _ _ => trivial) ?aO ?aB ?aS ?aL ?_; (case aP => exact rfl); (case aB => exact HB4.out); (case aO => exact R4.out); (case aS => exact below_size HB4.out); (case aL => exact AL.out); intro v7 w7 ho7 hb7 hg7 hat7; obtain ⟨A7, c7, e7⟩ := Kd.R_slice ho7; subst e7; have R7 := ak ho7; have HB7 := ak hb7; clear ho7 hb7 hg7 hat7))
        go_roundg (E.length - (i + 1))
        case measure => have := HK.out; omega
        case rel => exact ⟨i + 1, by first | (rw [hw1]; done) | (simp only [i64_w, hw1]; done) | (go_num; done) | (go_num; rw [hw1]; done), ⟨by have := HK.out; omega⟩, ⟨by rw [PY.out]; have q := R7.out; simp only [List.length_append, List.length_singleton] at q ⊢; exact q⟩, HB7⟩
      · have c2b : ((rd_T39 E (i : Int)).f1 == v) = false := beq_eq_false_iff_ne.mpr c2
        have PN := ak (pick_no (p := fun e => e.f1 == v) (E := E) (i := i) c2b)
        clear c2
        go_wp2_with (first
          | ((with_reducible refine gate_dst (N := 7) rfl ?_); refine box_event ?hg (N := 7) ?hd (cs := #[.int .i64 0, .int .i64 0, .int .i64 0, .int .i64 0]) (t := 39) ?hr ?_; (case hd => rfl); (case hg => rfl); (case hr => first | (go_simp; done) | (go_simp; rfl)); intro gb hg w2 bb hb; have HB2 := ak (below_step HB1.out hb); have R2 := ak (Kd.R_below R1.out hb); have NB := ak (show W.heap.size ≤ gb by rw [hg]; exact below_size HB1.out); have BB := ak bb; have k5 := bc0 BB; have k6 := bc1 BB; have k7 := bc2 BB; have k8 := bc3 BB; have k9 := bf BB 0; have k10 := bf BB 1; have k11 := bf BB 2; have k12 := bf BB 3; clear hb bb hg)
          | ((with_reducible refine gate_store (t := 39) (p := 7) rfl ?_); refine store_event (t := 39) (p := 7) (v := ?vs) (w1 := (((w2.setCell ⟨gb, 0, none⟩ (.int .i64 (rd_T39 E (i : Int)).f0)).setCell ⟨gb, 1, none⟩ (.int .i64 (rd_T39 E (i : Int)).f1)).setCell ⟨gb, 2, none⟩ (.int .i64 (rd_T39 E (i : Int)).f2)).setCell ⟨gb, 3, none⟩ (.int .i64 (rd_T39 E (i : Int)).f3)) ?hg ?ho ?hn ?hr ?_; (case ho => rfl); (case hg => rfl); (case hn => rfl); (case hr => first | (go_simp; done) | (go_simp; rfl)); intro w3 hw; have HB3 := ak (show Below W.heap.size W w3 by rw [hw]; exact below_set (below_set (below_set (below_set HB2.out NB.out) NB.out) NB.out) NB.out); have b1 := blk_put (blk_put (blk_put (blk_put BB.out 0 (.int .i64 (rd_T39 E (i : Int)).f0) rfl) 1 (.int .i64 (rd_T39 E (i : Int)).f1) rfl) 2 (.int .i64 (rd_T39 E (i : Int)).f2) rfl) 3 (.int .i64 (rd_T39 E (i : Int)).f3) rfl; have BB3 := ak (show w3.heap[gb]? = some (.cells #[.int .i64 (rd_T39 E (i : Int)).f0, .int .i64 (rd_T39 E (i : Int)).f1, .int .i64 (rd_T39 E (i : Int)).f2, .int .i64 (rd_T39 E (i : Int)).f3] 39 (0, 0)) by rw [hw]; exact b1); have R3 := ak (show Kd.R (Kd.int .i64) 3 w3 W.heap.size (fun _ => True) (.slice Ao (pick (fun e => e.f1 == v) E i).length co) (pick (fun e => e.f1 == v) E i) by rw [hw]; exact Kd.R_set (Kd.R_set (Kd.R_set (Kd.R_set R2.out BB.out (by decide) 0 _) (blk_put BB.out 0 _ rfl) (by decide) 1 _) (blk_put (blk_put BB.out 0 (.int .i64 (rd_T39 E (i : Int)).f0) rfl) 1 (.int .i64 (rd_T39 E (i : Int)).f1) rfl) (by decide) 2 _) (blk_put (blk_put (blk_put BB.out 0 (.int .i64 (rd_T39 E (i : Int)).f0) rfl) 1 (.int .i64 (rd_T39 E (i : Int)).f1) rfl) 2 (.int .i64 (rd_T39 E (i : Int)).f2) rfl) (by decide) 3 _); clear b1 hw; have k5 := bc0 BB3; have k6 := bc1 BB3; have k7 := bc2 BB3; have k8 := bc3 BB3; have hv3 : w3.cell? ⟨gv, 0, none⟩ = some (.int .i64 v) := (HB3.out.cell (World.block_lt_of_cell? W _ HV.out)).trans HV.out)
          | (go_at_call 36; (with_reducible refine (Net_In_1.calls (rd_T39 E (i : Int)) gv v _ hv3).mono ?_); rintro e w4 ⟨rfl, hb⟩; have HB4 := ak (below_step HB3.out hb); have R4 := ak (Kd.R_below R3.out hb); clear hb))
        go_roundg (E.length - (i + 1))
        case measure => have := HK.out; omega
        case rel => exact ⟨i + 1, by first | (rw [hw1]; done) | (simp only [i64_w, hw1]; done) | (go_num; done) | (go_num; rw [hw1]; done), ⟨by have := HK.out; omega⟩, ⟨by rw [PN.out]; exact R4.out⟩, HB4⟩
    · have c1a : decide (i < E.length) = false := decide_eq_false c1
      have c1b : decide ((i : Int) < (E.length : Int)) = false := decide_eq_false (by omega)
      have ei : i = E.length := by have := HK.out; omega
      have EI := ak ei
      clear c1 ei
      go_wp2
      go_ret
      exact ⟨_, rfl, by have q := R1.out; rw [EI.out] at q ⊢; exact q, HB1.out⟩

set_option maxHeartbeats 4000000 in
set_option maxRecDepth 100000 in
theorem Net_In.good (p : Nat) (n v : Int) (A : Option Addr) (cap : Nat) (E : List S39) (W : World) (hp : W.heap[p]? = some (.cells #[.int .i64 n, .slice A E.length cap] 44 (0, 0))) (hr : Kd.C k39 W A E.length E) (hc : E.length ≤ cap) (hl : E.length < 4398046511104) (h0 : 0 ≤ v) (h1 : v < n) :
    Calls Try.prog 18 #[.pointer (some ⟨p, 0, none⟩), .int .i64 v] W fun x w' => ∃ u : Value, x = .returned (.tuple #[u, .int .i64 0]) ∧ Kd.R (Kd.int .i64) 3 w' W.heap.size (fun _ => True) u (ins v E) ∧ Below W.heap.size W w' := by
  have hu44 := Try.underlying44
  have d0 : decide (0 ≤ v) = true := decide_eq_true h0
  have d1 : decide (v < n) = true := decide_eq_true h1
  have hmf : ∀ (fn : Fn) (first cap : Array Value) (w : World), (Instr.makeFunc fn first cap).run Try.prog w = .ok (.func fn first cap) w := fun _ _ _ _ => rfl
  clear h0 h1
  have HP := ak hp
  have HR := ak hr
  have HC := ak hc
  have LN := ak hl
  have HB := ak (Below.refl W.heap.size W)
  clear hp hr hc hl
  go_enter Try.func18, Try.ntmps18
  go_wp2_with (first
    | ((with_reducible refine gate_dst (N := 3) rfl ?_); refine box_event ?hg (N := 3) ?hd (cs := #[.int .i64 v]) (t := 3) ?hr ?_; (case hd => rfl); (case hg => rfl); (case hr => first | (go_simp; done) | (go_simp; rfl)); intro gv hg w1 bv hb; have HB1 := ak (below_step HB.out hb); have BV := ak bv; have BP := ak (blk_below HP.out hb); clear hb bv hg))
  go_region_held3 (fun w' => w'.cell? ⟨gv, 0, none⟩ = some (.int .i64 v)) (exact bc0 (ak (bx BV.out)))
    (first | (go_at_call 33; (with_reducible refine (shape_node.calls p n v _ (bc0 (ak (bx BP.out)))).mono ?_); rintro e w' ⟨rfl, rfl⟩))
  go_wp2_with (first
    | (go_at_call 34; (with_reducible refine (shape_where.ins p n v gv A cap E _ (bx BP.out) (Kd.C_below HR.out (by first | exact HB1.out | exact below_drew HB1.out)) HC.out LN.out (bc0 (ak (bx BV.out)))).mono ?_); rintro e w3 ⟨u, rfl, ru, hb⟩; have RU := ak ru; have HB3 := ak (below_step (show Below W.heap.size W _ from by first | exact HB1.out | exact below_drew HB1.out) hb); have UB := ak (show W.heap.size ≤ w1.heap.size from below_size HB1.out); clear hb ru))
  go_ret2
  exact ⟨_, rfl, Kd.R_lower RU.out UB.out, HB3.out⟩
set_option maxHeartbeats 4000000 in
set_option maxRecDepth 100000 in
theorem Net_In.bad (p : Nat) (n v : Int) (A : Option Addr) (cap : Nat) (E : List S39) (W : World) (hp : W.heap[p]? = some (.cells #[.int .i64 n, .slice A E.length cap] 44 (0, 0))) (h0 : ¬ (0 ≤ v ∧ v < n)) :
    Calls Try.prog 18 #[.pointer (some ⟨p, 0, none⟩), .int .i64 v] W fun x w' => x = .returned (.tuple #[.slice none 0 0, .int .i64 30]) ∧ Below W.heap.size W w' := by
  have hu44 := Try.underlying44
  have d0 : (decide (0 ≤ v) && decide (v < n)) = false := by rw [Bool.and_eq_false_iff, decide_eq_false_iff_not, decide_eq_false_iff_not]; omega
  have D0 := ak d0
  clear h0 d0
  have HP := ak hp
  have HB := ak (Below.refl W.heap.size W)
  clear hp
  go_enter Try.func18, Try.ntmps18
  go_wp2_with (first
    | ((with_reducible refine gate_dst (N := 3) rfl ?_); refine box_event ?hg (N := 3) ?hd (cs := #[.int .i64 v]) (t := 3) ?hr ?_; (case hd => rfl); (case hg => rfl); (case hr => first | (go_simp; done) | (go_simp; rfl)); intro gv hg w1 bv hb; have HB1 := ak (below_step HB.out hb); have BV := ak bv; have BP := ak (blk_below HP.out hb); clear hb bv hg))
  go_region_held3 (fun w' => w'.cell? ⟨gv, 0, none⟩ = some (.int .i64 v)) (exact bc0 (ak (bx BV.out)))
    (first | (go_at_call 33; (with_reducible refine (shape_node.calls p n v _ (bc0 (ak (bx BP.out)))).mono ?_); rintro e w' ⟨rfl, rfl⟩; rw [D0.out]))
  go_wp2
  go_ret2
  exact ⟨rfl, below_drew HB1.out⟩
end Go.Proofs.Ytpmclhkednehhaa.Q
/- The same numbers are told to be the same: typed by hand. -/
set_option linter.unusedVariables false
set_option linter.unusedSimpArgs false
namespace Go.Proofs.Ytpmclhkednehhaa.Q
open Go.RowKit Go.Proofs.YtpmclhkednehhaaW.PrintWords Go.Proofs.YtpmclhkednehhaaW.PrintLast Go.Proofs.YtpmclhkednehhaaW.PrintMore
set_option maxHeartbeats 4000000 in
set_option maxRecDepth 100000 in
theorem compasslaw03_ints.same (A B : Option Addr) (c d : Nat) (L : List Int) (W : World) (ha : Kd.C (Kd.int .i64) W A L.length L) (hb0 : Kd.C (Kd.int .i64) W B L.length L) (hl : L.length < 4398046511104) :
    Calls Try.prog 19 #[.slice A L.length c, .slice B L.length d] W fun x w' => x = .returned (.bool true) ∧ Below W.heap.size W w' := by
  have HA := ak ha
  have HB := ak hb0
  have LN := ak hl
  have BW := ak (Below.refl W.heap.size W)
  clear ha hb0 hl
  go_enter Try.func19, Try.ntmps19
  go_wp2
  go_loopg [13] L.length (fun kq v13 w' => ∃ i : Nat, v13 = .int .i64 (i : Int) ∧ Aside0 (kq + i = L.length) ∧ Aside0 (Below W.heap.size W w'))
  case atStart => exact ⟨0, rfl, ⟨rfl⟩, BW⟩
  case round =>
    clear BW
    obtain ⟨i, rfl, HK, B1⟩ := hrel
    by_cases c1 : i < L.length
    · have c1a : decide (i < L.length) = true := decide_eq_true c1
      have c1b : decide ((i : Int) < (L.length : Int)) = true := decide_eq_true (by omega)
      have p0 : 0 ≤ (i : Int) := by omega
      have q0 : (i : Int) < (L.length : Int) := by omega
      obtain ⟨ad, e1, k1⟩ := Kd.at_int HA.out (i : Int) p0 q0
      obtain ⟨bd, e2, k2⟩ := Kd.at_int HB.out (i : Int) p0 q0
      cases e1
      cases e2
      replace k1 := (B1.out.cell (World.block_lt_of_cell? W _ k1)).trans k1
      replace k2 := (B1.out.cell (World.block_lt_of_cell? W _ k2)).trans k2
      rw [Int.toNat_natCast] at k1 k2
      have hw1 : Go.RowKit.wrap64 ((i : Int) + 1) = ((i + 1 : Nat) : Int) := by have := LN.out; unfold Go.RowKit.wrap64; omega
      go_wp2
      go_region_held3 (fun w' => w'.cell? (ad.add i) = some (.int .i64 (rd L (i : Int))) ∧ w'.cell? (bd.add i) = some (.int .i64 (rd L (i : Int)))) (exact ⟨k1, k2⟩) (fail)
      go_wp2
      go_roundg (L.length - (i + 1))
      case measure => have := HK.out; omega
      case rel => exact ⟨i + 1, by first | (rw [hw1]; done) | (simp only [i64_w, hw1]; done) | (go_num; done) | (go_num; rw [hw1]; done), ⟨by have := HK.out; omega⟩, ⟨below_drew B1.out⟩⟩
    · have c1a : decide (i < L.length) = false := decide_eq_false c1
      have c1b : decide ((i : Int) < (L.length : Int)) = false := decide_eq_false (by omega)
      clear c1
      go_wp2
      go_ret
      exact ⟨rfl, B1.out⟩
end Go.Proofs.Ytpmclhkednehhaa.Q
/- What a net's edits leave, and whether an edge fits: typed by hand. -/
set_option linter.unusedVariables false
set_option linter.unusedSimpArgs false
namespace Go.Proofs.Ytpmclhkednehhaa.Q
open Go.RowKit Go.Proofs.YtpmclhkednehhaaW.PrintWords Go.Proofs.YtpmclhkednehhaaW.PrintLast Go.Proofs.YtpmclhkednehhaaW.PrintMore
/-- A net as it is behind an edit; only its own block and row were written. -/
def Did (w0 W w' : World) (p : Nat) (v : Value) (n' : Int) (E' : List S39) : Prop :=
  ∃ (A' : Option Addr) (cap' : Nat), NS w0 p n' (.slice A' E'.length cap') E' w' ∧ KeepBut W w' p v.ownBlock ∧ ((Value.slice A' E'.length cap').ownBlock = v.ownBlock ∨ ∃ b, (Value.slice A' E'.length cap').ownBlock = some b ∧ W.heap.size ≤ b)
theorem keep_below {W w' : World} (hb : Below W.heap.size W w') (g : Nat) (row : Option Nat) : KeepBut W w' g row := ⟨hb.size, fun i hi _ _ => hb.block i hi⟩
theorem Did.same {w0 W w' : World} {p : Nat} {n : Int} {A : Option Addr} {cap : Nat} {E : List S39} (h : NS w0 p n (.slice A E.length cap) E W) (hb : Below W.heap.size W w') : Did w0 W w' p (.slice A E.length cap) n E :=
  ⟨A, cap, h.later hb, keep_below hb _ _, .inl rfl⟩
/-- A row that is not the net's. -/
theorem Did.row {α : Type} {d : Kd α} {e base : Nat} {W w' : World} {p : Nat} {v v' u : Value} {xs : List α} (hk : KeepBut W w' p v.ownBlock) (hat : v'.ownBlock = v.ownBlock ∨ ∃ b, v'.ownBlock = some b ∧ W.heap.size ≤ b) (h : d.R e W base (fun k => k ≠ p ∧ some k ≠ v.ownBlock) u xs) : d.R e w' base (fun k => k ≠ p ∧ some k ≠ v'.ownBlock) u xs := by
  refine Kd.R_mono (Kd.R_step (Kd.R_bound h) (fun k ho hk2 => hk.2 k hk2 ho.1.1 ho.1.2)) (fun k hk2 => ⟨hk2.1.1, ?_⟩)
  rcases hat with hat | ⟨b, hb, hle⟩
  · rw [hat]; exact hk2.1.2
  · rw [hb]
    intro e
    injection e with e
    have := hk2.2.2.1
    omega
/-- A block that is not the net's. -/
theorem Did.blk {W w' : World} {p g : Nat} {v : Value} {o : Obj} (hk : KeepBut W w' p v.ownBlock) (h : W.heap[g]? = some o) (hp : g ≠ p) (hv : some g ≠ v.ownBlock) : w'.heap[g]? = some o := (hk.2 g (blk_lt h) hp hv).trans h
theorem keep_trans {a b c : World} {g : Nat} {row : Option Nat} (h : KeepBut a b g row) (k : KeepBut b c g row) : KeepBut a c g row :=
  ⟨Nat.le_trans h.1 k.1, fun i hi h1 h2 => (k.2 i (Nat.lt_of_lt_of_le hi h.1) h1 h2).trans (h.2 i hi h1 h2)⟩
theorem keep_set (W : World) (p j : Nat) (row : Option Nat) (x : Value) : KeepBut W (W.setCell ⟨p, j, none⟩ x) p row :=
  ⟨(Below.refl 0 W |>.setCell (Nat.zero_le _) _).size, fun i _ h1 _ => Below.heap_setCell W ⟨p, j, none⟩ x i h1⟩
/-- 0 where an edge fits, else what is wrong with it. -/
def fitE (n : Int) (e : S39) : Int := if 0 ≤ e.f0 ∧ e.f0 < n ∧ 0 ≤ e.f1 ∧ e.f1 < n then if 0 ≤ e.f2 ∧ e.f2 ≤ 1048576 ∧ -1048576 ≤ e.f3 ∧ e.f3 ≤ 1048576 then 0 else 31 else 30
theorem label_lab (e : S39) : graph_label.f e.f0 e.f1 e.f2 e.f3 = some (decide (0 ≤ e.f2 ∧ e.f2 ≤ 1048576 ∧ -1048576 ≤ e.f3 ∧ e.f3 ≤ 1048576)) := by
  unfold graph_label.f
  by_cases h1 : e.f2 ≥ 0
  · rw [if_pos h1]
    by_cases h2 : e.f2 ≤ 1048576
    · rw [if_pos h2]
      by_cases h3 : e.f3 ≥ -1048576
      · rw [if_pos h3]; congr 1; exact decide_eq_decide.mpr ⟨fun h => ⟨h1, h2, h3, h⟩, fun h => h.2.2.2⟩
      · rw [if_neg h3, decide_eq_false (fun h => h3 h.2.2.1)]
    · rw [if_neg h2, decide_eq_false (fun h => h2 h.2.1)]
  · rw [if_neg h1, decide_eq_false (fun h => h1 h.1)]
theorem shape_node.tell (p : Nat) (n x : Int) (W : World) (k0 : W.cell? ⟨p, 0, none⟩ = some (.int .i64 n)) (b : Bool) (hb : (decide (0 ≤ x) && decide (x < n)) = b) :
    Calls Try.prog 33 #[.pointer (some ⟨p, 0, none⟩), .int .i64 x] W fun e w' => e = .returned (.bool b) ∧ Drawn0 W w' := by
  refine (shape_node.calls p n x W k0).mono ?_
  rintro e w' ⟨rfl, rfl⟩
  exact ⟨by rw [hb], Drawn0.refl _⟩
set_option maxHeartbeats 8000000 in
set_option maxRecDepth 100000 in
theorem Net_fits.first (p : Nat) (n : Int) (e0 : S39) (W : World) (v : Value) (h : W.heap[p]? = some (.cells #[.int .i64 n, v] 44 (0, 0))) (b0 : (decide (0 ≤ e0.f0) && decide (e0.f0 < n)) = false) :
    Calls Try.prog 37 #[.pointer (some ⟨p, 0, none⟩), .agg #[.int .i64 e0.f0, .int .i64 e0.f1, .int .i64 e0.f2, .int .i64 e0.f3]] W fun e w' => e = .returned (.int .i64 30) ∧ Below W.heap.size W w' := by
  have hu44 := Try.underlying44
  have hu42 := Try.underlying42
  have hu39 := Try.underlying39
  have HP := ak h
  have B0 := ak b0
  clear h b0
  have HB := ak (Below.refl W.heap.size W)
  go_enter Try.func37, Try.ntmps37
  go_wp2_with (first
    | ((with_reducible refine gate_dst (N := 3) rfl ?_); refine box_event ?hg (N := 3) ?hd (cs := #[.int .i64 e0.f0, .int .i64 e0.f1, .int .i64 e0.f2, .int .i64 e0.f3]) (t := 39) ?hr ?_; (case hd => rfl); (case hg => rfl); (case hr => first | (go_simp; done) | (go_simp; rfl)); intro ge hg w1 be hb; have HB1 := ak (below_step HB.out hb); have BE := ak be; have HP1 := ak (blk_below HP.out hb); clear hb be hg))
  have k0 := bc0 HP1
  have k1 := bc0 BE
  have k2 := bc1 BE
  have k3 := bc2 BE
  have k4 := bc3 BE
  go_quiet (first
    | (go_at_call 33; (with_reducible refine (shape_node.tell p n e0.f0 _ (bc0 (ak (bx HP1.out))) false B0.out).mono ?_); rintro e w' ⟨rfl, ⟨nd, rfl⟩⟩; (try first | exact ⟨rfl, _, World.drewN_drewN _ _ _⟩ | exact ⟨rfl, _, Eq.trans (World.drewN_drewN _ _ _) (congrArg (World.drewN _) (Nat.add_assoc _ _ _))⟩)))
  go_wp2
  go_ret
  exact ⟨rfl, lb⟩
set_option maxHeartbeats 8000000 in
set_option maxRecDepth 100000 in
theorem Net_fits.second (p : Nat) (n : Int) (e0 : S39) (W : World) (v : Value) (h : W.heap[p]? = some (.cells #[.int .i64 n, v] 44 (0, 0))) (b0 : (decide (0 ≤ e0.f0) && decide (e0.f0 < n)) = true) (b1 : (decide (0 ≤ e0.f1) && decide (e0.f1 < n)) = false) :
    Calls Try.prog 37 #[.pointer (some ⟨p, 0, none⟩), .agg #[.int .i64 e0.f0, .int .i64 e0.f1, .int .i64 e0.f2, .int .i64 e0.f3]] W fun e w' => e = .returned (.int .i64 30) ∧ Below W.heap.size W w' := by
  have hu44 := Try.underlying44
  have hu42 := Try.underlying42
  have hu39 := Try.underlying39
  have HP := ak h
  have B0 := ak b0
  have B1 := ak b1
  clear h b0 b1
  have HB := ak (Below.refl W.heap.size W)
  go_enter Try.func37, Try.ntmps37
  go_wp2_with (first
    | ((with_reducible refine gate_dst (N := 3) rfl ?_); refine box_event ?hg (N := 3) ?hd (cs := #[.int .i64 e0.f0, .int .i64 e0.f1, .int .i64 e0.f2, .int .i64 e0.f3]) (t := 39) ?hr ?_; (case hd => rfl); (case hg => rfl); (case hr => first | (go_simp; done) | (go_simp; rfl)); intro ge hg w1 be hb; have HB1 := ak (below_step HB.out hb); have BE := ak be; have HP1 := ak (blk_below HP.out hb); clear hb be hg))
  have k0 := bc0 HP1
  have k1 := bc0 BE
  have k2 := bc1 BE
  have k3 := bc2 BE
  have k4 := bc3 BE
  go_quiet (first
    | (go_at_call 33; (with_reducible refine (shape_node.tell p n e0.f0 _ (bc0 (ak (bx HP1.out))) true B0.out).mono ?_); rintro e w' ⟨rfl, ⟨nd, rfl⟩⟩; (try first | exact ⟨rfl, _, World.drewN_drewN _ _ _⟩ | exact ⟨rfl, _, Eq.trans (World.drewN_drewN _ _ _) (congrArg (World.drewN _) (Nat.add_assoc _ _ _))⟩))
    | (go_at_call 33; (with_reducible refine (shape_node.tell p n e0.f1 _ (bc0 (ak (bx HP1.out))) false B1.out).mono ?_); rintro e w' ⟨rfl, ⟨nd, rfl⟩⟩; (try first | exact ⟨rfl, _, World.drewN_drewN _ _ _⟩ | exact ⟨rfl, _, Eq.trans (World.drewN_drewN _ _ _) (congrArg (World.drewN _) (Nat.add_assoc _ _ _))⟩)))
  go_wp2
  go_ret
  exact ⟨rfl, lb⟩
set_option maxHeartbeats 8000000 in
set_option maxRecDepth 100000 in
theorem Net_fits.third (p : Nat) (n : Int) (e0 : S39) (W : World) (v : Value) (h : W.heap[p]? = some (.cells #[.int .i64 n, v] 44 (0, 0))) (b0 : (decide (0 ≤ e0.f0) && decide (e0.f0 < n)) = true) (b1 : (decide (0 ≤ e0.f1) && decide (e0.f1 < n)) = true) (hl : graph_label.f e0.f0 e0.f1 e0.f2 e0.f3 = some false) :
    Calls Try.prog 37 #[.pointer (some ⟨p, 0, none⟩), .agg #[.int .i64 e0.f0, .int .i64 e0.f1, .int .i64 e0.f2, .int .i64 e0.f3]] W fun e w' => e = .returned (.int .i64 31) ∧ Below W.heap.size W w' := by
  have hu44 := Try.underlying44
  have hu42 := Try.underlying42
  have hu39 := Try.underlying39
  have HP := ak h
  have B0 := ak b0
  have B1 := ak b1
  have HL := ak hl
  clear h b0 b1 hl
  have HB := ak (Below.refl W.heap.size W)
  go_enter Try.func37, Try.ntmps37
  go_wp2_with (first
    | ((with_reducible refine gate_dst (N := 3) rfl ?_); refine box_event ?hg (N := 3) ?hd (cs := #[.int .i64 e0.f0, .int .i64 e0.f1, .int .i64 e0.f2, .int .i64 e0.f3]) (t := 39) ?hr ?_; (case hd => rfl); (case hg => rfl); (case hr => first | (go_simp; done) | (go_simp; rfl)); intro ge hg w1 be hb; have HB1 := ak (below_step HB.out hb); have BE := ak be; have HP1 := ak (blk_below HP.out hb); clear hb be hg))
  have k0 := bc0 HP1
  have k1 := bc0 BE
  have k2 := bc1 BE
  have k3 := bc2 BE
  have k4 := bc3 BE
  go_quiet (first
    | (go_at_call 33; (with_reducible refine (shape_node.tell p n e0.f0 _ (bc0 (ak (bx HP1.out))) true B0.out).mono ?_); rintro e w' ⟨rfl, ⟨nd, rfl⟩⟩; (try first | exact ⟨rfl, _, World.drewN_drewN _ _ _⟩ | exact ⟨rfl, _, Eq.trans (World.drewN_drewN _ _ _) (congrArg (World.drewN _) (Nat.add_assoc _ _ _))⟩))
    | (go_at_call 33; (with_reducible refine (shape_node.tell p n e0.f1 _ (bc0 (ak (bx HP1.out))) true B1.out).mono ?_); rintro e w' ⟨rfl, ⟨nd, rfl⟩⟩; (try first | exact ⟨rfl, _, World.drewN_drewN _ _ _⟩ | exact ⟨rfl, _, Eq.trans (World.drewN_drewN _ _ _) (congrArg (World.drewN _) (Nat.add_assoc _ _ _))⟩)))
  go_wp2_with (first
    | (go_at_call 30; (with_reducible refine (graph_label.calls e0.f0 e0.f1 e0.f2 e0.f3 false _ HL.out).mono ?_); rintro e w5 ⟨rfl, hb⟩; have HB5 := ak (below_step lb hb); clear hb))
  go_ret
  exact ⟨rfl, HB5.out⟩
theorem Net_fits.calls (p : Nat) (n : Int) (e0 : S39) (W : World) (v : Value) (h : W.heap[p]? = some (.cells #[.int .i64 n, v] 44 (0, 0))) :
    Calls Try.prog 37 #[.pointer (some ⟨p, 0, none⟩), .agg #[.int .i64 e0.f0, .int .i64 e0.f1, .int .i64 e0.f2, .int .i64 e0.f3]] W fun e w' => e = .returned (.int .i64 (fitE n e0)) ∧ Below W.heap.size W w' := by
  unfold fitE
  by_cases a : 0 ≤ e0.f0 ∧ e0.f0 < n
  · have a1 : (decide (0 ≤ e0.f0) && decide (e0.f0 < n)) = true := by rw [decide_eq_true a.1, decide_eq_true a.2]; rfl
    by_cases b : 0 ≤ e0.f1 ∧ e0.f1 < n
    · have b1 : (decide (0 ≤ e0.f1) && decide (e0.f1 < n)) = true := by rw [decide_eq_true b.1, decide_eq_true b.2]; rfl
      rw [if_pos ⟨a.1, a.2, b.1, b.2⟩]
      by_cases c : 0 ≤ e0.f2 ∧ e0.f2 ≤ 1048576 ∧ -1048576 ≤ e0.f3 ∧ e0.f3 ≤ 1048576
      · rw [if_pos c]
        exact Net_fits.yes p n e0 W v h a.1 a.2 b.1 b.2 (by rw [label_lab, decide_eq_true c])
      · rw [if_neg c]
        exact Net_fits.third p n e0 W v h a1 b1 (by rw [label_lab, decide_eq_false c])
    · have b1 : (decide (0 ≤ e0.f1) && decide (e0.f1 < n)) = false := by rw [Bool.and_eq_false_iff, decide_eq_false_iff_not, decide_eq_false_iff_not]; omega
      rw [if_neg (fun h => b ⟨h.2.2.1, h.2.2.2⟩)]
      exact Net_fits.second p n e0 W v h a1 b1
  · have a1 : (decide (0 ≤ e0.f0) && decide (e0.f0 < n)) = false := by rw [Bool.and_eq_false_iff, decide_eq_false_iff_not, decide_eq_false_iff_not]; omega
    rw [if_neg (fun h => a ⟨h.1, h.2.1⟩)]
    exact Net_fits.first p n e0 W v h a1
end Go.Proofs.Ytpmclhkednehhaa.Q
/- An edge is added or refused: typed by hand. -/
set_option linter.unusedVariables false
set_option linter.unusedSimpArgs false
namespace Go.Proofs.Ytpmclhkednehhaa.Q
open Go.RowKit Go.Proofs.YtpmclhkednehhaaW.PrintWords Go.Proofs.YtpmclhkednehhaaW.PrintLast Go.Proofs.YtpmclhkednehhaaW.PrintMore
set_option maxHeartbeats 8000000 in
set_option maxRecDepth 100000 in
theorem Net_AddEdge.did (w0 : World) (p : Nat) (n : Int) (A : Option Addr) (cap : Nat) (E : List S39) (e0 : S39) (W : World) (h : NS w0 p n (.slice A E.length cap) E W) (lt : E.length < 4096) (a0 : 0 ≤ e0.f0) (a1 : e0.f0 < n) (b0 : 0 ≤ e0.f1) (b1 : e0.f1 < n) (hl : graph_label.f e0.f0 e0.f1 e0.f2 e0.f3 = some true) :
    Calls Try.prog 23 #[.pointer (some ⟨p, 0, none⟩), .agg #[.int .i64 e0.f0, .int .i64 e0.f1, .int .i64 e0.f2, .int .i64 e0.f3]] W fun e w' => e = .returned (.tuple #[.int .i64 (E.length : Int), .int .i64 0]) ∧ Did w0 W w' p (.slice A E.length cap) n (E ++ [e0]) := by
  have hu44 := Try.underlying44
  have hu42 := Try.underlying42
  have hu39 := Try.underlying39
  have hu22 := Try.underlying22
  have N0 := ak h
  have K0 := ak (Below.refl W.heap.size W)
  have HL := ak hl
  clear h hl
  have d1 : ((E.length : Int) == 4096) = false := beq_eq_false_iff_ne.mpr (by omega)
  have d2 : decide ((E.length : Int) = 4096) = false := decide_eq_false (by omega)
  have d3 : ¬ (E.length : Int) = 4096 := by omega
  go_enter Try.func23, Try.ntmps23
  go_wp2_with (first
    | ((with_reducible refine gate_dst (N := 3) rfl ?_); refine box_event ?hg (N := 3) ?hd (cs := #[.int .i64 e0.f0, .int .i64 e0.f1, .int .i64 e0.f2, .int .i64 e0.f3]) (t := 39) ?hr ?_; (case hd => rfl); (case hg => rfl); (case hr => first | (go_simp; done) | (go_simp; rfl)); intro ge hg w1 be hb; have K1 := ak (below_step K0.out hb); have N1 := ak (N0.out.later hb); have BE := ak be; have NE := ak (show some ge ≠ (Value.slice A E.length cap).ownBlock from fun he => by have := Kd.R_lt N0.out.row ge he.symm; omega); clear hb be hg; have k0 := N1.out.c1; have k1 := bc0 BE; have k2 := bc1 BE; have k3 := bc2 BE; have k4 := bc3 BE)
    | (go_at_call 37; (with_reducible refine (Net_fits.yes p n e0 _ _ N1.out.bp a0 a1 b0 b1 HL.out).mono ?_); rintro e w2 ⟨rfl, hb⟩; have K2 := ak (below_step K1.out hb); have N2 := ak (N1.out.later hb); have BE2 := ak (blk_below BE.out hb); clear hb))
  clear k0 k1 k2 k3 k4
  have K3 := ak (below_drew K2.out)
  have N3 := ak (N2.out.later (below_drew (Below.refl _ _)))
  have BE3 := ak (blk_drew BE2.out)
  clear N0 N1 N2 BE BE2
  refine start_ (n := 13) (S := fun w' => w'.cell? ⟨p, 1, none⟩ = some (.slice A E.length cap) ∧ w'.cell? ⟨ge, 0, none⟩ = some (.int .i64 e0.f0) ∧ w'.cell? ⟨ge, 1, none⟩ = some (.int .i64 e0.f1) ∧ w'.cell? ⟨ge, 2, none⟩ = some (.int .i64 e0.f2) ∧ w'.cell? ⟨ge, 3, none⟩ = some (.int .i64 e0.f3)) (ds := [12]) #[false, false, false, false, false, false, false, false, false, false, false, false, false] (by kernel_rfl) rfl rfl ⟨N3.out.c1, bc0 BE3, bc1 BE3, bc2 BE3, bc3 BE3⟩ (fun hHeld => ?_); refine with_tabW Net_AddEdge.T6 Net_AddEdge.B6w (fun HT_ HW_ => ?_)
  generalize w2.drew = w3 at N3 BE3 K3 hHeld ⊢
  refine pure_ (i := 0) (N := some 20) (v := ?_) (a' := ?_) #[true, false, false, false, false, false, false, false, false, false, false, false, false] rfl rfl (any_of HT_.out (by kernel_rfl)) (fun _ _ _ h => h) (Or.inl ⟨by rfl, ?_⟩) ?_ ?_; rotate_left; intro w'; go_simp; with_reducible rfl; rotate_left; simp only [Act.put, List.setIfInBounds_toArray, List.set_cons_zero, List.set_cons_succ, i64_w, i32_w]; rfl
  refine pure_ (i := 1) (N := some 21) (v := ?_) (a' := ?_) #[true, true, false, false, false, false, false, false, false, false, false, false, false] rfl rfl (any_of HT_.out (by kernel_rfl)) (fun _ _ _ h => h) (Or.inl ⟨by rfl, ?_⟩) ?_ ?_; rotate_left; intro w'; go_simp; with_reducible rfl; rotate_left; simp only [Act.put, List.setIfInBounds_toArray, List.set_cons_zero, List.set_cons_succ, i64_w, i32_w]; rfl
  refine pure_ (i := 2) (N := some 22) (v := ?_) (a' := ?_) #[true, true, true, false, false, false, false, false, false, false, false, false, false] rfl rfl (any_of HT_.out (by kernel_rfl)) (fun _ _ _ h => h) (Or.inl ⟨by rfl, ?_⟩) ?_ ?_; rotate_left; intro w'; go_simp; with_reducible rfl; rotate_left; simp only [Act.put, List.setIfInBounds_toArray, List.set_cons_zero, List.set_cons_succ, i64_w, i32_w]; rfl
  refine pure_ (i := 3) (N := some 23) (v := ?_) (a' := ?_) #[true, true, true, true, false, false, false, false, false, false, false, false, false] rfl rfl (any_of HT_.out (by kernel_rfl)) (fun _ _ _ h => h) (Or.inl ⟨by rfl, ?_⟩) ?_ ?_; rotate_left; intro w'; go_simp; with_reducible rfl; rotate_left; simp only [Act.put, List.setIfInBounds_toArray, List.set_cons_zero, List.set_cons_succ, i64_w, i32_w]; rfl
  refine pure_ (i := 4) (N := some 24) (v := ?_) (a' := ?_) #[true, true, true, true, true, false, false, false, false, false, false, false, false] rfl rfl (any_of HT_.out (by kernel_rfl)) (fun _ _ _ h => h) (Or.inl ⟨by rfl, ?_⟩) ?_ ?_; rotate_left; intro w'; go_simp; with_reducible rfl; rotate_left; simp only [Act.put, List.setIfInBounds_toArray, List.set_cons_zero, List.set_cons_succ, i64_w, i32_w]; rfl
  refine take_ (i := 5) (N := some 25) (v := ?_) (a' := ?_) #[true, true, true, true, true, true, false, false, false, false, false, false, false] rfl rfl (take_ofW HT_.out HW_.out (by kernel_rfl)) (fun _ _ _ h => h) (Or.inl ⟨by rfl, ?_⟩) hHeld ?_ ?_; rotate_left; rintro w' ⟨s0, s1, s2, s3, s4⟩; go_simp; with_reducible rfl; rotate_left; simp only [Act.put, List.setIfInBounds_toArray, List.set_cons_zero, List.set_cons_succ, i64_w, i32_w]; rfl
  refine take_ (i := 6) (N := some 26) (v := ?_) (a' := ?_) #[true, true, true, true, true, true, true, false, false, false, false, false, false] rfl rfl (take_ofW HT_.out HW_.out (by kernel_rfl)) (fun _ _ _ h => h) (Or.inl ⟨by rfl, ?_⟩) hHeld ?_ ?_; rotate_left; rintro w' ⟨s0, s1, s2, s3, s4⟩; go_simp; with_reducible rfl; rotate_left; simp only [Act.put, List.setIfInBounds_toArray, List.set_cons_zero, List.set_cons_succ, i64_w, i32_w]; rfl
  refine one_ (i := 7) (N := some 27) #[true, true, true, true, true, true, true, true, false, false, false, false, false] rfl rfl (one_of HT_.out (by kernel_rfl)) (by decide) (fun K hK => ?_)
  refine value_ (w1 := ?_) (v := ?_) (by rfl) rfl ?_ ?_
  rotate_left 2
  ·
   go_simp
   constructor
   ·
    rfl
   ·
    rfl
  refine hK.out _ _ ⟨(N3.out.later (below_alloc (Below.refl _ _) _)).c1, bc0 (ak (blk_alloc BE3.out _)), bc1 (ak (blk_alloc BE3.out _)), bc2 (ak (blk_alloc BE3.out _)), bc3 (ak (blk_alloc BE3.out _))⟩ (fun hHeld => ?_)
  clear hK K
  refine norm_ (a' := ?_) ?_ ?_
  rotate_left
  ·
   show Act.put _ (some 27) _ = _
   simp only [Act.put, List.setIfInBounds_toArray, List.set_cons_zero, List.set_cons_succ, i64_w, i32_w]
   rfl
  refine one_ (i := 8) (N := some 28) #[true, true, true, true, true, true, true, true, true, false, false, false, false] rfl rfl (one_of HT_.out (by kernel_rfl)) (by decide) (fun K hK => ?_)
  refine Kd.R_append_step k39 (w0 := w0) w0.heap.size (by rfl) (.tmp 25) (.tmp 27) 22 39 (.agg #[(.int .i64 0), (.int .i64 0), (.int .i64 0), (.int .i64 0)]) 32 rfl Try.underlying22 info39 rfl (by decide) (by omega) (.slice A E.length cap) E e0 [.int .i64 e0.f0, .int .i64 e0.f1, .int .i64 e0.f2, .int .i64 e0.f3] (fun _ => True) (fun _ => False) rfl rfl ?aP (fun _ hk => hk.elim) ?aF ?aO ?aB ?aS ?aL ?_
  (case aP => exact k39_mkM _ _ _ e0)
  (case aB => exact N3.out.below)
  (case aF => exact (fun _ _ => trivial))
  (case aO => exact N3.out.row)
  (case aS => exact below_size N3.out.below)
  (case aL => omega)
  intro v7 w7 ho hb hg hat
  obtain ⟨A7, c7, e7⟩ := Kd.R_slice ho
  rw [List.length_append] at e7
  subst e7
  have BE7 := ak (blk_grown BE3.out hg NE.out)
  have BP7 := ak (blk_grown N3.out.bp hg (Kd.R_ne N3.out.row N3.out.bp (by decide)))
  have HB7 := ak hb
  have R7 := ak (show Kd.R k39 39 w7 w0.heap.size (fun _ => True) (.slice A7 (E.length + 1) c7) (E ++ [e0]) from ho)
  have P0 := ak N3.out.p0
  have G7 := ak hg
  have T7 := ak hat
  clear N3 BE3 ho hb hg hat
  refine hK.out _ _ ⟨bc1 BP7, bc0 BE7, bc1 BE7, bc2 BE7, bc3 BE7⟩ (fun hHeld => ?_)
  clear hK K
  refine norm_ (a' := ?_) ?_ ?_
  rotate_left
  ·
   show Act.put _ (some 28) _ = _
   simp only [Act.put, List.setIfInBounds_toArray, List.set_cons_zero, List.set_cons_succ, i64_w, i32_w]
   rfl
  refine pure_ (i := 9) (N := some 29) (v := ?_) (a' := ?_) #[true, true, true, true, true, true, true, true, true, true, false, false, false] rfl rfl (any_of HT_.out (by kernel_rfl)) (fun _ _ _ h => h) (Or.inl ⟨by rfl, ?_⟩) ?_ ?_; rotate_left; intro w'; go_simp; with_reducible rfl; rotate_left; simp only [Act.put, List.setIfInBounds_toArray, List.set_cons_zero, List.set_cons_succ, i64_w, i32_w]; rfl
  refine pure_ (i := 10) (N := some 30) (v := ?_) (a' := ?_) #[true, true, true, true, true, true, true, true, true, true, true, false, false] rfl rfl (any_of HT_.out (by kernel_rfl)) (fun _ _ _ h => h) (Or.inl ⟨by rfl, ?_⟩) ?_ ?_; rotate_left; intro w'; go_simp; with_reducible rfl; rotate_left; simp only [Act.put, List.setIfInBounds_toArray, List.set_cons_zero, List.set_cons_succ, i64_w, i32_w]; rfl
  refine pure_ (i := 11) (N := some 31) (v := ?_) (a' := ?_) #[true, true, true, true, true, true, true, true, true, true, true, true, false] rfl rfl (any_of HT_.out (by kernel_rfl)) (fun _ _ _ h => h) (Or.inl ⟨by rfl, ?_⟩) ?_ ?_; rotate_left; intro w'; go_simp; with_reducible rfl; rotate_left; simp only [Act.put, List.setIfInBounds_toArray, List.set_cons_zero, List.set_cons_succ, i64_w, i32_w]; rfl
  refine last_ (i := 12) (N := none) #[true, true, true, true, true, true, true, true, true, true, true, true, true] rfl rfl (one_of HT_.out (by kernel_rfl)) (by decide) (fun K hK => ?_)
  have k2 := bf BP7 1
  have k3 := bc1 BP7
  refine skip_ (w1 := ?_) (by rfl) rfl ?_ ?_
  rotate_left
  ·
   go_simp
   rfl
  refine hK.out _ _ ?_
  clear hK K
  refine done_ (done_of HT_.out (by kernel_rfl)) ?_
  have N8 := ak (show NS w0 p n (.slice A7 (E ++ [e0]).length c7) (E ++ [e0]) (w7.setCell ⟨p, 1, none⟩ (.slice A7 (E.length + 1) c7)) from by rw [List.length_append, List.length_singleton]; exact ⟨below_set HB7.out P0.out, blk_put BP7.out 1 _ rfl, P0.out, Kd.R_set R7.out BP7.out (by decide) 1 _⟩)
  have D8 := ak (show Did w0 W (w7.setCell ⟨p, 1, none⟩ (.slice A7 (E.length + 1) c7)) p (.slice A E.length cap) n (E ++ [e0]) from ⟨A7, c7, N8.out, keep_trans (keep_trans (keep_below K3.out _ _) (KeepBut.of_grown G7.out p)) (keep_set _ _ _ _ _), by
    rw [List.length_append]
    rcases T7.out with e | ⟨b, e, l⟩
    · exact .inl e
    · exact .inr ⟨b, e, Nat.le_trans (below_size K3.out) l⟩⟩)
  have k5 := N8.out.c1
  rw [List.length_append, List.length_singleton] at k5
  generalize w7.setCell ⟨p, 1, none⟩ (.slice A7 (E.length + 1) c7) = w8 at D8 k5 ⊢
  clear N8 k2 k3 HB7 BP7 R7 BE7 HT_ HW_ hHeld
  have s1 : Go.RowKit.wrap64 (((E.length + 1 : Nat) : Int) - 1) = (E.length : Int) := by unfold Go.RowKit.wrap64; omega
  have s2 : Go.RowKit.wrap64 ((E.length : Int) + 1 - 1) = (E.length : Int) := by unfold Go.RowKit.wrap64; omega
  have s3 : IntKind.i64.wrap ((E.length : Int) + 1 - 1) = (E.length : Int) := by rw [i64_w]; exact s2
  go_wp2
  first | simp only [s1] | simp only [s2] | simp only [s3] | skip
  exact bodyPost_ret (v := .tuple #[.int .i64 (E.length : Int), .int .i64 0]) (by simp [results, Try.results23, go_sem, s1, s2, s3]) rfl ⟨rfl, D8.out⟩
set_option maxHeartbeats 8000000 in
set_option maxRecDepth 100000 in
theorem Net_AddEdge.full (p : Nat) (n : Int) (A : Option Addr) (cap : Nat) (E : List S39) (e0 : S39) (W : World) (h : W.heap[p]? = some (.cells #[.int .i64 n, .slice A E.length cap] 44 (0, 0))) (lt : E.length = 4096) :
    Calls Try.prog 23 #[.pointer (some ⟨p, 0, none⟩), .agg #[.int .i64 e0.f0, .int .i64 e0.f1, .int .i64 e0.f2, .int .i64 e0.f3]] W fun e w' => e = .returned (.tuple #[.int .i64 0, .int .i64 3]) ∧ Below W.heap.size W w' := by
  have hu44 := Try.underlying44
  have hu42 := Try.underlying42
  have hu39 := Try.underlying39
  have hu22 := Try.underlying22
  have N0 := ak h
  have HB := ak (Below.refl W.heap.size W)
  clear h
  have d1 : ((E.length : Int) == 4096) = true := beq_iff_eq.mpr (by omega)
  have d2 : decide ((E.length : Int) = 4096) = true := decide_eq_true (by omega)
  have d3 : (E.length : Int) = 4096 := by omega
  go_enter Try.func23, Try.ntmps23
  go_wp2_with (first
    | ((with_reducible refine gate_dst (N := 3) rfl ?_); refine box_event ?hg (N := 3) ?hd (cs := #[.int .i64 e0.f0, .int .i64 e0.f1, .int .i64 e0.f2, .int .i64 e0.f3]) (t := 39) ?hr ?_; (case hd => rfl); (case hg => rfl); (case hr => first | (go_simp; done) | (go_simp; rfl)); intro ge hg w1 be hb; have HB1 := ak (below_step HB.out hb); have N1 := ak (blk_below N0.out hb); clear hb be hg; have k0 := bc1 N1))
  go_ret2
  exact ⟨rfl, HB1.out⟩
set_option maxHeartbeats 8000000 in
set_option maxRecDepth 100000 in
theorem Net_AddEdge.bad (p : Nat) (n : Int) (A : Option Addr) (cap : Nat) (E : List S39) (e0 : S39) (W : World) (h : W.heap[p]? = some (.cells #[.int .i64 n, .slice A E.length cap] 44 (0, 0))) (lt : ¬ E.length = 4096) (bad : ¬ fitE n e0 = 0) :
    Calls Try.prog 23 #[.pointer (some ⟨p, 0, none⟩), .agg #[.int .i64 e0.f0, .int .i64 e0.f1, .int .i64 e0.f2, .int .i64 e0.f3]] W fun e w' => e = .returned (.tuple #[.int .i64 0, .int .i64 (fitE n e0)]) ∧ Below W.heap.size W w' := by
  have hu44 := Try.underlying44
  have hu42 := Try.underlying42
  have hu39 := Try.underlying39
  have hu22 := Try.underlying22
  have N0 := ak h
  have HB := ak (Below.refl W.heap.size W)
  clear h
  have d1 : ((E.length : Int) == 4096) = false := beq_eq_false_iff_ne.mpr (by omega)
  have d2 : decide ((E.length : Int) = 4096) = false := decide_eq_false (by omega)
  have d3 : ¬ (E.length : Int) = 4096 := by omega
  obtain ⟨c, ec⟩ : ∃ m, m = fitE n e0 := ⟨_, rfl⟩
  rw [← ec] at bad ⊢
  have e1 : (c != 0) = true := bne_iff_ne.mpr bad
  have e2 : (c == 0) = false := beq_eq_false_iff_ne.mpr bad
  have EC := ak ec
  clear ec bad
  go_enter Try.func23, Try.ntmps23
  go_wp2_with (first
    | ((with_reducible refine gate_dst (N := 3) rfl ?_); refine box_event ?hg (N := 3) ?hd (cs := #[.int .i64 e0.f0, .int .i64 e0.f1, .int .i64 e0.f2, .int .i64 e0.f3]) (t := 39) ?hr ?_; (case hd => rfl); (case hg => rfl); (case hr => first | (go_simp; done) | (go_simp; rfl)); intro ge hg w1 be hb; have HB1 := ak (below_step HB.out hb); have N1 := ak (blk_below N0.out hb); have BE := ak be; clear hb be hg; have k0 := bc1 N1; have k1 := bc0 BE; have k2 := bc1 BE; have k3 := bc2 BE; have k4 := bc3 BE)
    | (go_at_call 37; (with_reducible refine (Net_fits.calls p n e0 _ _ N1.out).mono ?_); rintro e w2 ⟨rfl, hb⟩; rw [← EC.out]; have HB2 := ak (below_step HB1.out hb); clear hb))
  go_ret2
  exact ⟨rfl, HB2.out⟩
/-- What AddEdge answers, and the edges then. -/
def addI (n : Int) (E : List S39) (e : S39) : Int × Int × List S39 := if E.length = 4096 then (0, 3, E) else if fitE n e = 0 then ((E.length : Int), 0, E ++ [e]) else (0, fitE n e, E)
theorem Net_AddEdge.calls (w0 : World) (p : Nat) (n : Int) (A : Option Addr) (cap : Nat) (E : List S39) (e0 : S39) (W : World) (h : NS w0 p n (.slice A E.length cap) E W) (lt : E.length ≤ 4096) :
    Calls Try.prog 23 #[.pointer (some ⟨p, 0, none⟩), .agg #[.int .i64 e0.f0, .int .i64 e0.f1, .int .i64 e0.f2, .int .i64 e0.f3]] W fun e w' => e = .returned (.tuple #[.int .i64 (addI n E e0).1, .int .i64 (addI n E e0).2.1]) ∧ Did w0 W w' p (.slice A E.length cap) n (addI n E e0).2.2 := by
  unfold addI
  by_cases a : E.length = 4096
  · rw [if_pos a]
    refine (Net_AddEdge.full p n A cap E e0 W h.bp a).mono ?_
    rintro e w' ⟨rfl, hb⟩
    exact ⟨rfl, Did.same h hb⟩
  · rw [if_neg a]
    by_cases b : fitE n e0 = 0
    · rw [if_pos b]
      have q := b
      unfold fitE at q
      by_cases c : 0 ≤ e0.f0 ∧ e0.f0 < n ∧ 0 ≤ e0.f1 ∧ e0.f1 < n
      · rw [if_pos c] at q
        by_cases d : 0 ≤ e0.f2 ∧ e0.f2 ≤ 1048576 ∧ -1048576 ≤ e0.f3 ∧ e0.f3 ≤ 1048576
        · exact Net_AddEdge.did w0 p n A cap E e0 W h (by omega) c.1 c.2.1 c.2.2.1 c.2.2.2 (by rw [label_lab, decide_eq_true d])
        · rw [if_neg d] at q
          exact absurd q (by decide)
      · rw [if_neg c] at q
        exact absurd q (by decide)
    · rw [if_neg b]
      refine (Net_AddEdge.bad p n A cap E e0 W h.bp a b).mono ?_
      rintro e w' ⟨rfl, hb⟩
      exact ⟨rfl, Did.same h hb⟩
end Go.Proofs.Ytpmclhkednehhaa.Q
/- A node is added, and an edge is set: typed by hand. -/
set_option linter.unusedVariables false
set_option linter.unusedSimpArgs false
namespace Go.Proofs.Ytpmclhkednehhaa.Q
open Go.RowKit Go.Proofs.YtpmclhkednehhaaW.PrintWords Go.Proofs.YtpmclhkednehhaaW.PrintLast Go.Proofs.YtpmclhkednehhaaW.PrintMore
theorem Net_AddNode.full (p : Nat) (v : Value) (W : World) (h : W.heap[p]? = some (.cells #[.int .i64 1024, v] 44 (0, 0))) :
    Calls Try.prog 22 #[.pointer (some ⟨p, 0, none⟩)] W fun e w' => e = .returned (.tuple #[.int .i64 0, .int .i64 3]) ∧ Below W.heap.size W w' := by
  have hu44 := Try.underlying44
  have hu42 := Try.underlying42
  have HB := ak (Below.refl W.heap.size W)
  have k0 : W.cell? ⟨p, 0, none⟩ = some (.int .i64 1024) := (blk_cell h 0).trans rfl
  clear h
  go_enter Try.func22, Try.ntmps22
  go_wp2
  go_ret2
  exact ⟨rfl, HB.out⟩
theorem Net_AddNode.more (w0 : World) (p : Nat) (n : Int) (A : Option Addr) (cap : Nat) (E : List S39) (W : World) (h : NS w0 p n (.slice A E.length cap) E W) (n0 : 0 ≤ n) (n1 : n < 1024) :
    Calls Try.prog 22 #[.pointer (some ⟨p, 0, none⟩)] W fun e w' => e = .returned (.tuple #[.int .i64 n, .int .i64 0]) ∧ Did w0 W w' p (.slice A E.length cap) (n + 1) E := by
  have hu44 := Try.underlying44
  have hu42 := Try.underlying42
  have D := ak (show Did w0 W (W.setCell ⟨p, 0, none⟩ (.int .i64 (n + 1))) p (.slice A E.length cap) (n + 1) E from ⟨A, cap, ⟨below_set h.below h.p0, blk_put h.bp 0 _ rfl, h.p0, Kd.R_set h.row h.bp (by decide) 0 _⟩, keep_set _ _ _ _ _, .inl rfl⟩)
  have k0 : W.cell? ⟨p, 0, none⟩ = some (.int .i64 n) := h.c0
  have k1 : W.frozen? ⟨p, 0, none⟩ = false := blk_frozen h.bp 0
  clear h
  have d1 : (n == 1024) = false := beq_eq_false_iff_ne.mpr (by omega)
  have d2 : decide (n = 1024) = false := decide_eq_false (by omega)
  have s1 : Go.RowKit.wrap64 (n + 1) = n + 1 := by unfold Go.RowKit.wrap64; omega
  have s2 : Go.RowKit.wrap64 (n + 1 - 1) = n := by unfold Go.RowKit.wrap64; omega
  have s3 : IntKind.i64.wrap (n + 1) = n + 1 := by rw [i64_w]; exact s1
  have s4 : IntKind.i64.wrap (n + 1 - 1) = n := by rw [i64_w]; exact s2
  have s5 : Go.RowKit.wrap64 n = n := by unfold Go.RowKit.wrap64; omega
  have s6 : IntKind.i64.wrap n = n := by rw [i64_w]; exact s5
  clear n0 n1
  go_enter Try.func22, Try.ntmps22
  go_wp2
  go_ret2
  exact ⟨by first | rfl | (simp [s1, s2, s5]; done), by first | exact D.out | (simp only [s1]; exact D.out)⟩
def nodeI (n : Int) : Int × Int × Int := if n = 1024 then (0, 3, n) else (n, 0, n + 1)
theorem Net_AddNode.calls (w0 : World) (p : Nat) (n : Int) (A : Option Addr) (cap : Nat) (E : List S39) (W : World) (h : NS w0 p n (.slice A E.length cap) E W) (n0 : 0 ≤ n) (n1 : n ≤ 1024) :
    Calls Try.prog 22 #[.pointer (some ⟨p, 0, none⟩)] W fun e w' => e = .returned (.tuple #[.int .i64 (nodeI n).1, .int .i64 (nodeI n).2.1]) ∧ Did w0 W w' p (.slice A E.length cap) (nodeI n).2.2 E := by
  unfold nodeI
  by_cases a : n = 1024
  · rw [if_pos a]
    subst a
    refine (Net_AddNode.full p _ W h.bp).mono ?_
    rintro e w' ⟨rfl, hb⟩
    exact ⟨rfl, Did.same h hb⟩
  · rw [if_neg a]
    exact Net_AddNode.more w0 p n A cap E W h n0 (by omega)
theorem shape_edge.tell (p : Nat) (A : Option Addr) (m cap : Nat) (x : Int) (W : World) (k0 : W.cell? ⟨p, 1, none⟩ = some (.slice A m cap)) (b : Bool) (hb : (decide (0 ≤ x) && decide (x < (m : Int))) = b) :
    Calls Try.prog 38 #[.pointer (some ⟨p, 0, none⟩), .int .i64 x] W fun e w' => e = .returned (.bool b) ∧ w' = W := by
  refine (shape_edge.calls p A m cap x W k0).mono ?_
  rintro e w' ⟨rfl, rfl⟩
  exact ⟨by rw [hb], rfl⟩
set_option maxHeartbeats 8000000 in
set_option maxRecDepth 100000 in
theorem Net_SetEdge.out (p : Nat) (n : Int) (A : Option Addr) (cap : Nat) (E : List S39) (i : Int) (e0 : S39) (W : World) (h : W.heap[p]? = some (.cells #[.int .i64 n, .slice A E.length cap] 44 (0, 0))) (hi : (decide (0 ≤ i) && decide (i < (E.length : Int))) = false) :
    Calls Try.prog 24 #[.pointer (some ⟨p, 0, none⟩), .int .i64 i, .agg #[.int .i64 e0.f0, .int .i64 e0.f1, .int .i64 e0.f2, .int .i64 e0.f3]] W fun e w' => e = .returned (.int .i64 32) ∧ Below W.heap.size W w' := by
  have hu44 := Try.underlying44
  have hu42 := Try.underlying42
  have hu39 := Try.underlying39
  have hu22 := Try.underlying22
  have N0 := ak h
  have HI := ak hi
  have HB := ak (Below.refl W.heap.size W)
  clear h hi
  go_enter Try.func24, Try.ntmps24
  go_wp2_with (first
    | ((with_reducible refine gate_dst (N := 5) rfl ?_); refine box_event ?hg (N := 5) ?hd (cs := #[.int .i64 e0.f0, .int .i64 e0.f1, .int .i64 e0.f2, .int .i64 e0.f3]) (t := 39) ?hr ?_; (case hd => rfl); (case hg => rfl); (case hr => first | (go_simp; done) | (go_simp; rfl)); intro ge hg w1 be hb; have HB1 := ak (below_step HB.out hb); have N1 := ak (blk_below N0.out hb); clear hb be hg)
    | (go_at_call 38; (with_reducible refine (shape_edge.tell p A E.length cap i _ (bc1 N1) false HI.out).mono ?_); rintro e w' ⟨rfl, rfl⟩))
  go_ret
  exact ⟨rfl, HB1.out⟩
set_option maxHeartbeats 8000000 in
set_option maxRecDepth 100000 in
theorem Net_SetEdge.bad (p : Nat) (n : Int) (A : Option Addr) (cap : Nat) (E : List S39) (i : Int) (e0 : S39) (W : World) (h : W.heap[p]? = some (.cells #[.int .i64 n, .slice A E.length cap] 44 (0, 0))) (hi : (decide (0 ≤ i) && decide (i < (E.length : Int))) = true) (bad : ¬ fitE n e0 = 0) :
    Calls Try.prog 24 #[.pointer (some ⟨p, 0, none⟩), .int .i64 i, .agg #[.int .i64 e0.f0, .int .i64 e0.f1, .int .i64 e0.f2, .int .i64 e0.f3]] W fun e w' => e = .returned (.int .i64 (fitE n e0)) ∧ Below W.heap.size W w' := by
  have hu44 := Try.underlying44
  have hu42 := Try.underlying42
  have hu39 := Try.underlying39
  have hu22 := Try.underlying22
  have N0 := ak h
  have HI := ak hi
  have HB := ak (Below.refl W.heap.size W)
  clear h hi
  obtain ⟨c, ec⟩ : ∃ m, m = fitE n e0 := ⟨_, rfl⟩
  rw [← ec] at bad ⊢
  have e1 : (c != 0) = true := bne_iff_ne.mpr bad
  have e2 : (c == 0) = false := beq_eq_false_iff_ne.mpr bad
  have EC := ak ec
  clear ec bad
  go_enter Try.func24, Try.ntmps24
  go_wp2_with (first
    | ((with_reducible refine gate_dst (N := 5) rfl ?_); refine box_event ?hg (N := 5) ?hd (cs := #[.int .i64 e0.f0, .int .i64 e0.f1, .int .i64 e0.f2, .int .i64 e0.f3]) (t := 39) ?hr ?_; (case hd => rfl); (case hg => rfl); (case hr => first | (go_simp; done) | (go_simp; rfl)); intro ge hg w1 be hb; have HB1 := ak (below_step HB.out hb); have N1 := ak (blk_below N0.out hb); have BE := ak be; clear hb be hg; have k1 := bc0 BE; have k2 := bc1 BE; have k3 := bc2 BE; have k4 := bc3 BE)
    | (go_at_call 38; (with_reducible refine (shape_edge.tell p A E.length cap i _ (bc1 N1) true HI.out).mono ?_); rintro e w' ⟨rfl, rfl⟩)
    | (go_at_call 37; (with_reducible refine (Net_fits.calls p n e0 _ _ N1.out).mono ?_); rintro e w2 ⟨rfl, hb⟩; rw [← EC.out]; have HB2 := ak (below_step HB1.out hb); clear hb))
  go_ret
  exact ⟨rfl, HB2.out⟩
/-- A store of a whole edge into a net's row. -/
theorem NS.put {w0 : World} {p : Nat} {n : Int} {b m cap : Nat} {E : List S39} {W : World} (h : NS w0 p n (.slice (some ⟨b, 0, none⟩) m cap) E W) (i : Int) (h0 : 0 ≤ i) (h1 : i < m) (x0 x1 x2 x3 : Int) :
    NS w0 p n (.slice (some ⟨b, 0, none⟩) m cap) (E.set i.toNat ⟨x0, x1, x2, x3⟩) ((((W.setCell ⟨b, i.toNat * 4, none⟩ (.int .i64 x0)).setCell ⟨b, i.toNat * 4 + 1, none⟩ (.int .i64 x1)).setCell ⟨b, i.toNat * 4 + 2, none⟩ (.int .i64 x2)).setCell ⟨b, i.toNat * 4 + 3, none⟩ (.int .i64 x3)) ∧
    W.grownBy ((((W.setCell ⟨b, i.toNat * 4, none⟩ (.int .i64 x0)).setCell ⟨b, i.toNat * 4 + 1, none⟩ (.int .i64 x1)).setCell ⟨b, i.toNat * 4 + 2, none⟩ (.int .i64 x2)).setCell ⟨b, i.toNat * 4 + 3, none⟩ (.int .i64 x3)) (some b) := by
  obtain ⟨c, hl, hM, hc, hf⟩ := Kd.R_elem h.row z39 i h0 h1
  obtain ⟨a, g⟩ := Kd.R_seg h.row i h0 h1 (seg := [.int .i64 x0, .int .i64 x1, .int .i64 x2, .int .i64 x3]) (j := 0) (okp := fun k => k ≠ b) (x' := (⟨x0, x1, x2, x3⟩ : S39)) hl hc (by show 0 + 4 ≤ 4; omega) (by obtain rfl := k39_openM hM; exact k39_mkM _ _ _ (⟨x0, x1, x2, x3⟩ : S39)) (fun k hk => ⟨trivial, hk⟩)
  have p0 := Kd.R_base h.row b rfl
  exact ⟨⟨below_set (below_set (below_set (below_set h.below p0) p0) p0) p0, blk_grown h.bp g (Kd.R_ne h.row h.bp (by decide)), h.p0, a⟩, g⟩
theorem NS.cells {w0 : World} {p : Nat} {n : Int} {b m cap : Nat} {E : List S39} {W : World} (h : NS w0 p n (.slice (some ⟨b, 0, none⟩) m cap) E W) (i : Int) (h0 : 0 ≤ i) (h1 : i < m) :
    (W.cell? ⟨b, i.toNat * 4, none⟩ = some (.int .i64 (rd_T39 E i).f0) ∧ W.cell? ⟨b, i.toNat * 4 + 1, none⟩ = some (.int .i64 (rd_T39 E i).f1) ∧ W.cell? ⟨b, i.toNat * 4 + 2, none⟩ = some (.int .i64 (rd_T39 E i).f2) ∧ W.cell? ⟨b, i.toNat * 4 + 3, none⟩ = some (.int .i64 (rd_T39 E i).f3)) ∧ W.frozen? ⟨b, i.toNat * 4, none⟩ = false ∧ W.frozen? ⟨b, i.toNat * 4 + 1, none⟩ = false ∧ W.frozen? ⟨b, i.toNat * 4 + 2, none⟩ = false ∧ W.frozen? ⟨b, i.toNat * 4 + 3, none⟩ = false := by
  obtain ⟨c, hl, hM, hc, hf⟩ := Kd.R_elem h.row z39 i h0 h1
  obtain rfl := k39_openM hM
  exact ⟨⟨hc 0 _ rfl, hc 1 _ rfl, hc 2 _ rfl, hc 3 _ rfl⟩, hf 0, hf 1, hf 2, hf 3⟩
set_option maxHeartbeats 8000000 in
set_option maxRecDepth 100000 in
theorem Net_SetEdge.did (w0 : World) (p : Nat) (n : Int) (A : Option Addr) (cap : Nat) (E : List S39) (i : Int) (e0 : S39) (W : World) (h : NS w0 p n (.slice A E.length cap) E W) (i0 : 0 ≤ i) (i1 : i < (E.length : Int)) (fit : fitE n e0 = 0) :
    Calls Try.prog 24 #[.pointer (some ⟨p, 0, none⟩), .int .i64 i, .agg #[.int .i64 e0.f0, .int .i64 e0.f1, .int .i64 e0.f2, .int .i64 e0.f3]] W fun e w' => e = .returned (.int .i64 0) ∧ Did w0 W w' p (.slice A E.length cap) n (E.set i.toNat e0) := by
  have hu44 := Try.underlying44
  have hu42 := Try.underlying42
  have hu39 := Try.underlying39
  have hu22 := Try.underlying22
  obtain ⟨j, rfl⟩ := Int.eq_ofNat_of_zero_le i0
  obtain ⟨b, cp, ea, -⟩ := Kd.R_form h.row (by omega)
  injection ea with e1 e2 e3
  subst e1
  clear e2 e3
  have N0 := ak h
  have K0 := ak (Below.refl W.heap.size W)
  have HI := ak (show (decide (0 ≤ (j : Int)) && decide ((j : Int) < (E.length : Int))) = true by rw [decide_eq_true i0, decide_eq_true i1]; rfl)
  have FT := ak fit
  have I0 := ak i0
  have I1 := ak i1
  clear h fit
  go_enter Try.func24, Try.ntmps24
  go_wp2_with (first
    | ((with_reducible refine gate_dst (N := 5) rfl ?_); refine box_event ?hg (N := 5) ?hd (cs := #[.int .i64 e0.f0, .int .i64 e0.f1, .int .i64 e0.f2, .int .i64 e0.f3]) (t := 39) ?hr ?_; (case hd => rfl); (case hg => rfl); (case hr => first | (go_simp; done) | (go_simp; rfl)); intro ge hg w1 be hb; have K1 := ak (below_step K0.out hb); have N1 := ak (N0.out.later hb); have NE := ak (show b ≠ ge from fun he => by have := Kd.R_lt N0.out.row b rfl; omega); have BE := ak be; clear hb be hg; have k1 := bc0 BE; have k2 := bc1 BE; have k3 := bc2 BE; have k4 := bc3 BE)
    | (go_at_call 38; (with_reducible refine (shape_edge.tell p _ E.length cap (j : Int) _ N1.out.c1 true HI.out).mono ?_); rintro e w' ⟨rfl, rfl⟩)
    | (go_at_call 37; (with_reducible refine (Net_fits.calls p n e0 _ _ N1.out.bp).mono ?_); rintro e w2 ⟨rfl, hb⟩; rw [FT.out]; have K2 := ak (below_step K1.out hb); have N2 := ak (N1.out.later hb); have BE2 := ak (blk_below BE.out hb); clear hb))
  clear k1 k2 k3 k4
  have N3 := ak (N2.out.later (below_drew (Below.refl _ _)))
  have BE3 := ak (blk_drew BE2.out)
  have K3 := ak (below_drew K2.out)
  obtain ⟨⟨q1, q2, q3, q4⟩, q5, q6, q7, q8⟩ := N2.out.cells (j : Int) i0 i1
  obtain ⟨NP, GP⟩ := N3.out.put (j : Int) i0 i1 e0.f0 e0.f1 e0.f2 e0.f3
  rw [Int.toNat_natCast] at q1 q2 q3 q4 q5 q6 q7 q8 NP GP
  have NP1 := ak NP
  have GP1 := ak GP
  clear NP GP
  have nb1 := NE.out
  have nb2 : ge ≠ b := fun h => NE.out h.symm
  go_region_held3 (fun w' => w'.cell? ⟨p, 1, none⟩ = some (.slice (some ⟨b, 0, none⟩) E.length cap) ∧ w'.cell? ⟨ge, 0, none⟩ = some (.int .i64 e0.f0) ∧ w'.cell? ⟨ge, 1, none⟩ = some (.int .i64 e0.f1) ∧ w'.cell? ⟨ge, 2, none⟩ = some (.int .i64 e0.f2) ∧ w'.cell? ⟨ge, 3, none⟩ = some (.int .i64 e0.f3)) (first | exact ⟨N3.out.c1, bc0 BE3, bc1 BE3, bc2 BE3, bc3 BE3⟩ | exact ⟨NP1.out.c1, bc0 (ak (blk_grown BE3.out GP1.out (fun e => nb2 (by injection e)))), bc1 (ak (blk_grown BE3.out GP1.out (fun e => nb2 (by injection e)))), bc2 (ak (blk_grown BE3.out GP1.out (fun e => nb2 (by injection e)))), bc3 (ak (blk_grown BE3.out GP1.out (fun e => nb2 (by injection e))))⟩) (fail)
  go_wp2
  go_ret
  refine ⟨rfl, some ⟨b, 0, none⟩, cap, ?_, ?_, .inl (by rw [List.length_set])⟩
  · rw [List.length_set, Int.toNat_natCast]
    exact NP1.out
  · exact keep_trans (keep_below K3.out _ _) (KeepBut.of_grown GP1.out p)
/-- What SetEdge answers, and the edges then. -/
def setI (n : Int) (E : List S39) (i : Int) (e : S39) : Int × List S39 := if 0 ≤ i ∧ i < (E.length : Int) then if fitE n e = 0 then (0, E.set i.toNat e) else (fitE n e, E) else (32, E)
theorem Net_SetEdge.calls (w0 : World) (p : Nat) (n : Int) (A : Option Addr) (cap : Nat) (E : List S39) (i : Int) (e0 : S39) (W : World) (h : NS w0 p n (.slice A E.length cap) E W) :
    Calls Try.prog 24 #[.pointer (some ⟨p, 0, none⟩), .int .i64 i, .agg #[.int .i64 e0.f0, .int .i64 e0.f1, .int .i64 e0.f2, .int .i64 e0.f3]] W fun e w' => e = .returned (.int .i64 (setI n E i e0).1) ∧ Did w0 W w' p (.slice A E.length cap) n (setI n E i e0).2 := by
  unfold setI
  by_cases a : 0 ≤ i ∧ i < (E.length : Int)
  · rw [if_pos a]
    by_cases b : fitE n e0 = 0
    · rw [if_pos b]
      exact Net_SetEdge.did w0 p n A cap E i e0 W h a.1 a.2 b
    · rw [if_neg b]
      refine (Net_SetEdge.bad p n A cap E i e0 W h.bp (by rw [decide_eq_true a.1, decide_eq_true a.2]; rfl) b).mono ?_
      rintro e w' ⟨rfl, hb⟩
      exact ⟨rfl, Did.same h hb⟩
  · rw [if_neg a]
    refine (Net_SetEdge.out p n A cap E i e0 W h.bp (by rw [Bool.and_eq_false_iff, decide_eq_false_iff_not, decide_eq_false_iff_not]; omega)).mono ?_
    rintro e w' ⟨rfl, hb⟩
    exact ⟨rfl, Did.same h hb⟩
end Go.Proofs.Ytpmclhkednehhaa.Q
/- An edge is cut: typed by hand. -/
set_option linter.unusedVariables false
set_option linter.unusedSimpArgs false
namespace Go.Proofs.Ytpmclhkednehhaa.Q
open Go.RowKit Go.Proofs.YtpmclhkednehhaaW.PrintWords Go.Proofs.YtpmclhkednehhaaW.PrintLast Go.Proofs.YtpmclhkednehhaaW.PrintMore
/-- What lies behind a row may be cleared: the row is as it was. -/
theorem R_clear {W : World} {base : Nat} {ok : Nat → Prop} {g m c : Nat} {xs : List S39} (HO : Kd.R k39 39 W base ok (.slice (some ⟨g, 0, none⟩) m c) xs) (cnt c2 : Nat) (ty : TypeId) (h0 : 0 < cnt) (hc : m + cnt ≤ c) :
    ∃ w1, (Builtin.clear_ #[22] ty #[.slice (some ⟨g, m * 4, none⟩) cnt c2]).run Try.prog W = .ok (.tuple #[]) w1 ∧ Kd.R k39 39 w1 base ok (.slice (some ⟨g, 0, none⟩) m c) xs ∧ W.grownBy w1 (some g) := by
  obtain ⟨hn, hnc, _⟩ := Kd.R_reads' HO
  obtain ⟨hok, inner, hown, hr⟩ := HO
  rcases hown.2 with ⟨hv, _⟩ | ⟨g', cap', cur, hv, hb, hh, hle, hcm, hcs, htake⟩
  · cases hv
  injection hv with ha _ hc'
  injection ha with ha
  injection ha with hg
  subst hg
  subst hc'
  obtain ⟨zs, ez⟩ : ∃ zs, zs = (Builtin.zeroCells #[Value.int .i64 0, .int .i64 0, .int .i64 0, .int .i64 0] cnt).toList := ⟨_, rfl⟩
  have sz : k39.sz = 4 := rfl
  rw [sz] at hcs htake
  have zl : zs.length = cnt * 4 := by rw [ez]; simp [Builtin.zeroCells]
  have z1 : ∀ v ∈ zs, v.oneCell' = true := by
    intro v hv
    rw [ez] at hv
    simp only [Builtin.zeroCells, Array.toList_map, List.mem_map] at hv
    obtain ⟨i, _, rfl⟩ := hv
    have : i % 4 = 0 ∨ i % 4 = 1 ∨ i % 4 = 2 ∨ i % 4 = 3 := by omega
    rcases this with h | h | h | h <;> simp [h, Value.oneCell']
  have fit : m * 4 + zs.length ≤ cur.size := by rw [zl, hcs]; have := Nat.mul_le_mul_right 4 hc; rw [Nat.add_mul] at this; exact this
  have hst := run_storeCells_cells (P := Try.prog) g (m * 4) zs 0 W
    (fun j hj => by rw [cell_of_row W g _ cur 39 (0, 0) hh]; simp only [Nat.add_zero]; rw [Array.getElem?_eq_getElem (by omega)]; rfl)
    (fun j _ => blk_frozen hh _) z1
  simp only [Nat.add_zero] at hst
  obtain ⟨cur', h3, h4, h5⟩ := setCells_row zs (m * 4) W cur hh fit
  obtain ⟨s1, s2, s3, s4⟩ := setCells_same g zs (m * 4) W
  have hfar : ∀ k', k' ≠ g → (W.setCells g (m * 4) zs).heap[k']? = W.heap[k']? := fun k' hk' => setCells_far zs _ k' hk'
  have hgo : some g = (Value.slice (some ⟨g, 0, none⟩) m c).ownBlock := rfl
  refine ⟨_, ?_, ⟨hok, inner, ⟨hown.1, .inr ⟨g, c, cur', by rw [← hn], hb, h3, hle, hcm, by rw [h4, hcs]; rfl, ?_⟩⟩, ?_⟩, ⟨s1, s2, s3, by rw [s4]; exact Nat.le_refl _, fun k' _ hk' => hfar k' (fun he => hk' (by rw [he]))⟩⟩
  · obtain ⟨q, rfl⟩ : ∃ q, cnt = q + 1 := ⟨cnt - 1, by omega⟩
    have hz : ∀ w : World, (zeroValue 39).run Try.prog w = .ok (.agg #[.int .i64 0, .int .i64 0, .int .i64 0, .int .i64 0]) w := fun w => by rfl
    rw [ez] at hst
    simp [Builtin.clear_, run_underlying Try.underlying22, hz, Value.cells, hst]
    rw [ez]
  · rw [sz, h5, List.append_assoc, ← htake]
    have e1 : xs.length * 4 ≤ m * 4 := by rw [hn]; exact Nat.le_refl _
    rw [List.take_append_of_le_length (by rw [List.length_take]; have : cur.toList.length = cur.size := Array.length_toList; omega), List.take_take, Nat.min_eq_left e1]
  · exact hr.imp_ (fun _ _ hp => k39.M_mono (fun k' hk' => hk') (k39.M_move (fun k' hk' => hfar k' (fun he => hk'.2 (by rw [he]; exact hgo))) hp))
theorem clear_event {ops : Array Oper} {Q : Exit → Act → World → Prop} {rest : List Oper} {o : Oper} {a : Act} {W : World} (hgd : o.guard = none) (x : Operand) (ho : o.op = .call { callee := .builtin .clear, args := #[x], argTypes := #[22] }) {base : Nat} {ok : Nat → Prop} {g m c cnt c2 : Nat} {xs : List S39}
    (hx : a.eval x = .slice (some ⟨g, m * 4, none⟩) cnt c2) (HO : Kd.R k39 39 W base ok (.slice (some ⟨g, 0, none⟩) m c) xs) (h0 : 0 < cnt) (hc : m + cnt ≤ c)
    (h : ∀ w1, Kd.R k39 39 w1 base ok (.slice (some ⟨g, 0, none⟩) m c) xs → W.grownBy w1 (some g) → wpList Try.prog ops Q rest (a.put o.dst (.tuple #[])) w1) : wpList Try.prog ops Q (o :: rest) a W := by
  obtain ⟨w1, hr, h1, h2⟩ := R_clear HO cnt c2 o.type h0 hc
  refine wpList_plain hgd fun K hK => ?_
  unfold Oper.wp execOp
  simp only [ho, resolve, invoke, builtin, Sem.run_bind, Sem.run_pure, Result.andThen_ok, List.map_toArray, List.map_cons, List.map_nil, hx, hr]
  exact hK _ _ (h _ h1 h2)
set_option maxHeartbeats 8000000 in
set_option maxRecDepth 100000 in
theorem slices_Delete.one (w0 : World) (base b cap i : Nat) (E : List S39) (ok : Nat → Prop) (W : World) (hr : Kd.R k39 39 W base ok (.slice (some ⟨b, 0, none⟩) E.length cap) E) (hB : Below base w0 W) (hbase : base ≤ W.heap.size) (hi : i < E.length) (hl : E.length ≤ 4096) :
    Calls Try.prog 39 #[.slice (some ⟨b, 0, none⟩) E.length cap, .int .i64 (i : Int), .int .i64 ((i : Int) + 1)] W fun e w' => e = .returned (.slice (some ⟨b, 0, none⟩) (E.length - 1) cap) ∧ Kd.R k39 39 w' base ok (.slice (some ⟨b, 0, none⟩) (E.length - 1) cap) (E.eraseIdx i) ∧ Below base w0 w' ∧ KeepBut W w' b (some b) := by
  have R0 := ak hr
  have B0 := ak hB
  have S0 := ak hbase
  have LC := (Kd.R_reads' hr).2.1
  clear hr hB hbase
  have c1 : ((i : Int) == (i : Int) + 1) = false := beq_eq_false_iff_ne.mpr (by omega)
  have c2 : (0 : Int) ≤ (i : Int) := by omega
  have c3 : (i : Int) ≤ (i : Int) + 1 := by omega
  have c4 : (i : Int) + 1 ≤ (E.length : Int) := by omega
  have c5 : (E.length : Int) ≤ (cap : Int) := by omega
  have c6 : (0 : Int) ≤ (i : Int) + 1 := by omega
  have c7 : (i : Int) ≤ (E.length : Int) := by omega
  have c8 : (i : Int) ≤ (cap : Int) := by omega
  have AE : (if cap = i + 1 then some (⟨b, 0, none⟩ : Addr) else some ⟨b, (i + 1) * 4, none⟩) = if cap = i + 1 then some ⟨b, 0, none⟩ else (some (⟨b, 0, none⟩ : Addr)).map (·.add ((i + 1) * k39.sz)) := by
    rw [Option.map_some, show k39.sz = 4 from rfl]
    simp [Addr.add]
  go_enter Try.func39, Try.ntmps39
  go_wp2
  go_region_held3 (fun w' => True) (trivial)
    (first
      | ((refine Kd.R_delete_step k39 (w0 := w0) base (by rfl) (.tmp 22) (.tmp 25) 22 39 rfl Try.underlying22 (by kernel_rfl) (g := b) (n := E.length) (c := cap) (k := i) (xs := E) (ok := ok) (A := if cap = i + 1 then some ⟨b, 0, none⟩ else some ⟨b, (i + 1) * 4, none⟩) (m := E.length - (i + 1)) (c2 := cap - (i + 1)) ?hs ?hx ?hA ?hm (Kd.R_drew R0.out) hi (below_drew B0.out) S0.out ?_); (case hs => first | rfl | (go_simp; done)); (case hx => first | rfl | (go_simp; done)); (case hA => exact AE); (case hm => first | rfl | omega); intro w1 h1 h2 h3; have R1 := ak h1; have B1 := ak h2; have G1 := ak h3; clear h1 h2 h3))
  have i1 : E.length - (E.length - 1) = 1 := by omega
  have i2 : E.length - 1 + 1 ≤ cap := by omega
  have i3 : ((E.length - 1 : Nat) : Int) ≤ (E.length : Int) := by omega
  have i4 : (0 : Int) ≤ ((E.length - 1 : Nat) : Int) := by omega
  have i5 : (E.length : Int) ≤ (cap : Int) := by omega
  clear AE
  go_wp2_with (first
    | ((with_reducible refine gate_builtin (b := .clear) (xs := #[.tmp 31]) rfl ?_); (first | (refine clear_event rfl (.tmp 31) rfl (g := b) (m := E.length - 1) (cnt := 1) (c2 := cap - (E.length - 1)) (xs := E.eraseIdx i) (by first | rfl | (go_simp; done)) R1.out (by omega) (by omega) ?_) | (refine clear_event rfl (.tmp 31) rfl (g := b) (m := E.length - 1) (cnt := 1) (c2 := i + 1 - (E.length - 1)) (xs := E.eraseIdx i) (by first | rfl | (go_simp; done)) R1.out (by omega) (by omega) ?_)); intro w2 h2 h3; have R2 := ak h2; have G2 := ak h3; clear h2 h3))
  all_goals go_ret
  all_goals first | exact ⟨rfl, R2.out, B1.out.grown G2.out (Nat.le_trans S0.out G1.out.size) (fun k hk => by injection hk with hk; subst hk; exact Kd.R_base R1.out _ rfl), keep_trans (keep_trans (keep_below (below_drew (Below.refl _ _)) _ _) (KeepBut.of_grown G1.out b)) (KeepBut.of_grown G2.out b)⟩ | (have hq : cap = i + 1 := (by assumption); subst hq; exact ⟨rfl, R2.out, B1.out.grown G2.out (Nat.le_trans S0.out G1.out.size) (fun k hk => by injection hk with hk; subst hk; exact Kd.R_base R1.out _ rfl), keep_trans (keep_trans (keep_below (below_drew (Below.refl _ _)) _ _) (KeepBut.of_grown G1.out b)) (KeepBut.of_grown G2.out b)⟩)
end Go.Proofs.Ytpmclhkednehhaa.Q
