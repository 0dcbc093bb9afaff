/- Which edges go out of a node, and which come into it: typed by hand. -/
import Derived.Test.YtpmclhkednehhaaNetF
set_option linter.unusedVariables false
set_option linter.unusedSimpArgs false
namespace Go.Proofs.Ytpmclhkednehhaa.Q
open Go.RowKit Go.Proofs.YtpmclhkednehhaaW.PrintWords Go.Proofs.YtpmclhkednehhaaW.PrintLast Go.Proofs.YtpmclhkednehhaaW.PrintMore
/-- The numbers of the edges of which something is so, rising. -/
def pick (p : S39 → Bool) (E : List S39) (i : Nat) : List Int := ((List.range i).filter fun (j : Nat) => p (rd_T39 E (j : Int))).map fun (j : Nat) => (j : Int)
theorem pick_yes {p : S39 → Bool} {E : List S39} {i : Nat} (h : p (rd_T39 E (i : Int)) = true) : pick p E (i + 1) = pick p E i ++ [(i : Int)] := by
  unfold pick
  rw [List.range_succ, List.filter_append, List.map_append, List.filter_cons, h]
  rfl
theorem pick_no {p : S39 → Bool} {E : List S39} {i : Nat} (h : p (rd_T39 E (i : Int)) = false) : pick p E (i + 1) = pick p E i := by
  unfold pick
  rw [List.range_succ, List.filter_append, List.map_append, List.filter_cons, h]
  simp
theorem pick_len (p : S39 → Bool) (E : List S39) (i : Nat) : (pick p E i).length ≤ i := by
  unfold pick
  rw [List.length_map]
  exact Nat.le_trans (List.length_filter_le _ _) (by rw [List.length_range]; exact Nat.le_refl _)

theorem Net_Out_1.calls (e : S39) (gv : Nat) (v : Int) (W : World) (k0 : W.cell? ⟨gv, 0, none⟩ = some (.int .i64 v)) :
    Calls Try.prog 35 #[.agg #[.int .i64 e.f0, .int .i64 e.f1, .int .i64 e.f2, .int .i64 e.f3], .pointer (some ⟨gv, 0, none⟩)] W fun x w' => x = .returned (.bool (e.f0 == v)) ∧ Below W.heap.size W w' := by
  have hu39 := Try.underlying39
  have KV := ak k0
  have HB := ak (Below.refl W.heap.size W)
  clear k0
  go_enter Try.func35, Try.ntmps35
  go_wp2_with (first
    | ((with_reducible refine gate_dst (N := 2) rfl ?_); refine box_event ?hg (N := 2) ?hd (cs := #[.int .i64 e.f0, .int .i64 e.f1, .int .i64 e.f2, .int .i64 e.f3]) (t := 39) ?hr ?_; (case hd => rfl); (case hg => rfl); (case hr => first | (go_simp; done) | (go_simp; rfl)); intro gg hg w1 bg hb; have HB1 := ak (below_step HB.out hb); have BG := ak bg; have k1 := bc0 BG; have k2 : w1.cell? ⟨gv, 0, none⟩ = some (.int .i64 v) := (hb.cell (World.block_lt_of_cell? W _ KV.out)).trans KV.out; clear hb bg hg))
  go_ret
  exact ⟨rfl, HB1.out⟩
def outs (v : Int) (E : List S39) : List Int := pick (fun e => e.f0 == v) E E.length
set_option maxHeartbeats 4000000 in
set_option maxRecDepth 100000 in
theorem shape_where.outs (p : Nat) (n v : Int) (gv : Nat) (A : Option Addr) (cap : Nat) (E : List S39) (W : World) (hp : W.heap[p]? = some (.cells #[.int .i64 n, .slice A E.length cap] 44 (0, 0))) (hr : Kd.C k39 W A E.length E) (hc : E.length ≤ cap) (hl : E.length < 4398046511104) (hv : W.cell? ⟨gv, 0, none⟩ = some (.int .i64 v)) :
    Calls Try.prog 34 #[.pointer (some ⟨p, 0, none⟩), .func (.func 35) #[] #[.pointer (some ⟨gv, 0, none⟩)]] W fun x w' => ∃ u : Value, x = .returned u ∧ Kd.R (Kd.int .i64) 3 w' W.heap.size (fun _ => True) u (outs v E) ∧ Below W.heap.size W w' := by
  have hu39 := Try.underlying39
  have hu42 := Try.underlying42
  have LN := ak hl
  have HR := ak hr
  have HC := ak hc
  have HV := ak hv
  have HB := ak (Below.refl W.heap.size W)
  have k0 : W.cell? ⟨p, 1, none⟩ = some (.slice A E.length cap) := (blk_cell hp 1).trans rfl
  clear hl hr hc hp hv
  go_enter Try.func34, Try.ntmps34
  go_wp2
  clear k0
  have R0 := ak (show Kd.R (Kd.int .i64) 3 W W.heap.size (fun _ => True) (.slice none 0 0) (pick (fun e => e.f0 == v) E 0) from Kd.R_nil _ _ _ _ _)
  go_loopg [13, 5] E.length (fun kq v13 v5 w' => ∃ i : Nat, v13 = .int .i64 (i : Int) ∧ Aside0 (kq + i = E.length) ∧ Aside0 (Kd.R (Kd.int .i64) 3 w' W.heap.size (fun _ => True) v5 (pick (fun e => e.f0 == v) E i)) ∧ Aside0 (Below W.heap.size W w'))
  case atStart => exact ⟨0, rfl, ⟨rfl⟩, R0, HB⟩
  case round =>
    clear R0 HB
    obtain ⟨i, rfl, HK, R1, HB1⟩ := hrel
    obtain ⟨Ao, co, eo⟩ := Kd.R_slice R1.out
    subst eo
    by_cases c1 : i < E.length
    · have c1a : decide (i < E.length) = true := decide_eq_true c1
      have c1b : decide ((i : Int) < (E.length : Int)) = true := decide_eq_true (by omega)
      have p0 : 0 ≤ (i : Int) := by omega
      have q0 : (i : Int) < (E.length : Int) := by omega
      obtain ⟨ad, e1, k1, k2, k3, k4⟩ := at_T39 HR.out (i : Int) p0 q0
      cases e1
      replace k1 := (HB1.out.cell (World.block_lt_of_cell? W _ k1)).trans k1
      replace k2 := (HB1.out.cell (World.block_lt_of_cell? W _ k2)).trans k2
      replace k3 := (HB1.out.cell (World.block_lt_of_cell? W _ k3)).trans k3
      replace k4 := (HB1.out.cell (World.block_lt_of_cell? W _ k4)).trans k4
      rw [Int.toNat_natCast] at k1 k2 k3 k4
      have hw1 : Go.RowKit.wrap64 ((i : Int) + 1) = ((i + 1 : Nat) : Int) := by have := LN.out; unfold Go.RowKit.wrap64; omega
      have aL0 : ((pick (fun e => e.f0 == v) E i).length + 1) * 8 ≤ 140737488355328 := by have := LN.out; have := pick_len (fun e => e.f0 == v) E i; omega
      have AL := ak aL0
      clear aL0
      have KB := ak (show Below wr.heap.size wr wr from Below.refl _ _)
      by_cases c2 : (rd_T39 E (i : Int)).f0 = v
      · have c2b : ((rd_T39 E (i : Int)).f0 == v) = true := beq_iff_eq.mpr c2
        have PY := ak (pick_yes (p := fun e => e.f0 == v) (E := E) (i := i) c2b)
        clear c2
        go_wp2_with (first
          | ((with_reducible refine gate_dst (N := 7) rfl ?_); refine box_event ?hg (N := 7) ?hd (cs := #[.int .i64 0, .int .i64 0, .int .i64 0, .int .i64 0]) (t := 39) ?hr ?_; (case hd => rfl); (case hg => rfl); (case hr => first | (go_simp; done) | (go_simp; rfl)); intro gb hg w2 bb hb; have HB2 := ak (below_step HB1.out hb); have R2 := ak (Kd.R_below R1.out hb); have NB := ak (show W.heap.size ≤ gb by rw [hg]; exact below_size HB1.out); have BB := ak bb; have k5 := bc0 BB; have k6 := bc1 BB; have k7 := bc2 BB; have k8 := bc3 BB; have k9 := bf BB 0; have k10 := bf BB 1; have k11 := bf BB 2; have k12 := bf BB 3; clear hb bb hg)
          | ((with_reducible refine gate_store (t := 39) (p := 7) rfl ?_); refine store_event (t := 39) (p := 7) (v := ?vs) (w1 := (((w2.setCell ⟨gb, 0, none⟩ (.int .i64 (rd_T39 E (i : Int)).f0)).setCell ⟨gb, 1, none⟩ (.int .i64 (rd_T39 E (i : Int)).f1)).setCell ⟨gb, 2, none⟩ (.int .i64 (rd_T39 E (i : Int)).f2)).setCell ⟨gb, 3, none⟩ (.int .i64 (rd_T39 E (i : Int)).f3)) ?hg ?ho ?hn ?hr ?_; (case ho => rfl); (case hg => rfl); (case hn => rfl); (case hr => first | (go_simp; done) | (go_simp; rfl)); intro w3 hw; have HB3 := ak (show Below W.heap.size W w3 by rw [hw]; exact below_set (below_set (below_set (below_set HB2.out NB.out) NB.out) NB.out) NB.out); have b1 := blk_put (blk_put (blk_put (blk_put BB.out 0 (.int .i64 (rd_T39 E (i : Int)).f0) rfl) 1 (.int .i64 (rd_T39 E (i : Int)).f1) rfl) 2 (.int .i64 (rd_T39 E (i : Int)).f2) rfl) 3 (.int .i64 (rd_T39 E (i : Int)).f3) rfl; have BB3 := ak (show w3.heap[gb]? = some (.cells #[.int .i64 (rd_T39 E (i : Int)).f0, .int .i64 (rd_T39 E (i : Int)).f1, .int .i64 (rd_T39 E (i : Int)).f2, .int .i64 (rd_T39 E (i : Int)).f3] 39 (0, 0)) by rw [hw]; exact b1); have R3 := ak (show Kd.R (Kd.int .i64) 3 w3 W.heap.size (fun _ => True) (.slice Ao (pick (fun e => e.f0 == v) E i).length co) (pick (fun e => e.f0 == v) E i) by rw [hw]; exact Kd.R_set (Kd.R_set (Kd.R_set (Kd.R_set R2.out BB.out (by decide) 0 _) (blk_put BB.out 0 _ rfl) (by decide) 1 _) (blk_put (blk_put BB.out 0 (.int .i64 (rd_T39 E (i : Int)).f0) rfl) 1 (.int .i64 (rd_T39 E (i : Int)).f1) rfl) (by decide) 2 _) (blk_put (blk_put (blk_put BB.out 0 (.int .i64 (rd_T39 E (i : Int)).f0) rfl) 1 (.int .i64 (rd_T39 E (i : Int)).f1) rfl) 2 (.int .i64 (rd_T39 E (i : Int)).f2) rfl) (by decide) 3 _); clear b1 hw; have k5 := bc0 BB3; have k6 := bc1 BB3; have k7 := bc2 BB3; have k8 := bc3 BB3; have hv3 : w3.cell? ⟨gv, 0, none⟩ = some (.int .i64 v) := (HB3.out.cell (World.block_lt_of_cell? W _ HV.out)).trans HV.out)
          | (go_at_call 35; (with_reducible refine (Net_Out_1.calls (rd_T39 E (i : Int)) gv v _ hv3).mono ?_); rintro e w4 ⟨rfl, hb⟩; have HB4 := ak (below_step HB3.out hb); have R4 := ak (Kd.R_below R3.out hb); clear hb)  
          | ((with_reducible refine gate_builtin (b := .append) (xs := #[.tmp 21, .tmp 23]) rfl ?_); at_builtin; refine Kd.R_append (Kd.int .i64) (w0 := W) W.heap.size rfl (.tmp 21) (.tmp 23) 45 3 (.int .i64 0) 8 rfl Try.underlying45 info3 rfl (by decide) (by omega) (.slice Ao (pick (fun e => e.f0 == v) E i).length co) (pick (fun e => e.f0 == v) E i) (i : Int) [.int .i64 (i : Int)] (fun _ => True) (fun _ => False) rfl (by first | (go_simp; done) | (go_simp; rfl)) ?aP (fun _ hk => hk.elim) (fun _ _ => trivial) ?aO ?aB ?aS ?aL ?_; (case aP => exact rfl); (case aB => exact HB4.out); (case aO => exact R4.out); (case aS => exact below_size HB4.out); (case aL => exact AL.out); intro v7 w7 ho7 hb7 hg7 hat7; obtain ⟨A7, c7, e7⟩ := Kd.R_slice ho7; subst e7; have R7 := ak ho7; have HB7 := ak hb7; clear ho7 hb7 hg7 hat7))
        go_roundg (E.length - (i + 1))
        case measure => have := HK.out; omega
        case rel => exact ⟨i + 1, by first | (rw [hw1]; done) | (simp only [i64_w, hw1]; done) | (go_num; done) | (go_num; rw [hw1]; done), ⟨by have := HK.out; omega⟩, ⟨by rw [PY.out]; have q := R7.out; simp only [List.length_append, List.length_singleton] at q ⊢; exact q⟩, HB7⟩
      · have c2b : ((rd_T39 E (i : Int)).f0 == v) = false := beq_eq_false_iff_ne.mpr c2
        have PN := ak (pick_no (p := fun e => e.f0 == v) (E := E) (i := i) c2b)
        clear c2
        go_wp2_with (first
          | ((with_reducible refine gate_dst (N := 7) rfl ?_); refine box_event ?hg (N := 7) ?hd (cs := #[.int .i64 0, .int .i64 0, .int .i64 0, .int .i64 0]) (t := 39) ?hr ?_; (case hd => rfl); (case hg => rfl); (case hr => first | (go_simp; done) | (go_simp; rfl)); intro gb hg w2 bb hb; have HB2 := ak (below_step HB1.out hb); have R2 := ak (Kd.R_below R1.out hb); have NB := ak (show W.heap.size ≤ gb by rw [hg]; exact below_size HB1.out); have BB := ak bb; have k5 := bc0 BB; have k6 := bc1 BB; have k7 := bc2 BB; have k8 := bc3 BB; have k9 := bf BB 0; have k10 := bf BB 1; have k11 := bf BB 2; have k12 := bf BB 3; clear hb bb hg)
          | ((with_reducible refine gate_store (t := 39) (p := 7) rfl ?_); refine store_event (t := 39) (p := 7) (v := ?vs) (w1 := (((w2.setCell ⟨gb, 0, none⟩ (.int .i64 (rd_T39 E (i : Int)).f0)).setCell ⟨gb, 1, none⟩ (.int .i64 (rd_T39 E (i : Int)).f1)).setCell ⟨gb, 2, none⟩ (.int .i64 (rd_T39 E (i : Int)).f2)).setCell ⟨gb, 3, none⟩ (.int .i64 (rd_T39 E (i : Int)).f3)) ?hg ?ho ?hn ?hr ?_; (case ho => rfl); (case hg => rfl); (case hn => rfl); (case hr => first | (go_simp; done) | (go_simp; rfl)); intro w3 hw; have HB3 := ak (show Below W.heap.size W w3 by rw [hw]; exact below_set (below_set (below_set (below_set HB2.out NB.out) NB.out) NB.out) NB.out); have b1 := blk_put (blk_put (blk_put (blk_put BB.out 0 (.int .i64 (rd_T39 E (i : Int)).f0) rfl) 1 (.int .i64 (rd_T39 E (i : Int)).f1) rfl) 2 (.int .i64 (rd_T39 E (i : Int)).f2) rfl) 3 (.int .i64 (rd_T39 E (i : Int)).f3) rfl; have BB3 := ak (show w3.heap[gb]? = some (.cells #[.int .i64 (rd_T39 E (i : Int)).f0, .int .i64 (rd_T39 E (i : Int)).f1, .int .i64 (rd_T39 E (i : Int)).f2, .int .i64 (rd_T39 E (i : Int)).f3] 39 (0, 0)) by rw [hw]; exact b1); have R3 := ak (show Kd.R (Kd.int .i64) 3 w3 W.heap.size (fun _ => True) (.slice Ao (pick (fun e => e.f0 == v) E i).length co) (pick (fun e => e.f0 == v) E i) by rw [hw]; exact Kd.R_set (Kd.R_set (Kd.R_set (Kd.R_set R2.out BB.out (by decide) 0 _) (blk_put BB.out 0 _ rfl) (by decide) 1 _) (blk_put (blk_put BB.out 0 (.int .i64 (rd_T39 E (i : Int)).f0) rfl) 1 (.int .i64 (rd_T39 E (i : Int)).f1) rfl) (by decide) 2 _) (blk_put (blk_put (blk_put BB.out 0 (.int .i64 (rd_T39 E (i : Int)).f0) rfl) 1 (.int .i64 (rd_T39 E (i : Int)).f1) rfl) 2 (.int .i64 (rd_T39 E (i : Int)).f2) rfl) (by decide) 3 _); clear b1 hw; have k5 := bc0 BB3; have k6 := bc1 BB3; have k7 := bc2 BB3; have k8 := bc3 BB3; have hv3 : w3.cell? ⟨gv, 0, none⟩ = some (.int .i64 v) := (HB3.out.cell (World.block_lt_of_cell? W _ HV.out)).trans HV.out)
          | (go_at_call 35; (with_reducible refine (Net_Out_1.calls (rd_T39 E (i : Int)) gv v _ hv3).mono ?_); rintro e w4 ⟨rfl, hb⟩; have HB4 := ak (below_step HB3.out hb); have R4 := ak (Kd.R_below R3.out hb); clear hb))
        go_roundg (E.length - (i + 1))
        case measure => have := HK.out; omega
        case rel => exact ⟨i + 1, by first | (rw [hw1]; done) | (simp only [i64_w, hw1]; done) | (go_num; done) | (go_num; rw [hw1]; done), ⟨by have := HK.out; omega⟩, ⟨by rw [PN.out]; exact R4.out⟩, HB4⟩
    · have c1a : decide (i < E.length) = false := decide_eq_false c1
      have c1b : decide ((i : Int) < (E.length : Int)) = false := decide_eq_false (by omega)
      have ei : i = E.length := by have := HK.out; omega
      have EI := ak ei
      clear c1 ei
      go_wp2
      go_ret
      exact ⟨_, rfl, by have q := R1.out; rw [EI.out] at q ⊢; exact q, HB1.out⟩

set_option maxHeartbeats 4000000 in
set_option maxRecDepth 100000 in
theorem Net_Out.good (p : Nat) (n v : Int) (A : Option Addr) (cap : Nat) (E : List S39) (W : World) (hp : W.heap[p]? = some (.cells #[.int .i64 n, .slice A E.length cap] 44 (0, 0))) (hr : Kd.C k39 W A E.length E) (hc : E.length ≤ cap) (hl : E.length < 4398046511104) (h0 : 0 ≤ v) (h1 : v < n) :
    Calls Try.prog 17 #[.pointer (some ⟨p, 0, none⟩), .int .i64 v] W fun x w' => ∃ u : Value, x = .returned (.tuple #[u, .int .i64 0]) ∧ Kd.R (Kd.int .i64) 3 w' W.heap.size (fun _ => True) u (outs v E) ∧ Below W.heap.size W w' := by
  have hu44 := Try.underlying44
  have d0 : decide (0 ≤ v) = true := decide_eq_true h0
  have d1 : decide (v < n) = true := decide_eq_true h1
  have hmf : ∀ (fn : Fn) (first cap : Array Value) (w : World), (Instr.makeFunc fn first cap).run Try.prog w = .ok (.func fn first cap) w := fun _ _ _ _ => rfl
  clear h0 h1
  have HP := ak hp
  have HR := ak hr
  have HC := ak hc
  have LN := ak hl
  have HB := ak (Below.refl W.heap.size W)
  clear hp hr hc hl
  go_enter Try.func17, Try.ntmps17
  go_wp2_with (first
    | ((with_reducible refine gate_dst (N := 3) rfl ?_); refine box_event ?hg (N := 3) ?hd (cs := #[.int .i64 v]) (t := 3) ?hr ?_; (case hd => rfl); (case hg => rfl); (case hr => first | (go_simp; done) | (go_simp; rfl)); intro gv hg w1 bv hb; have HB1 := ak (below_step HB.out hb); have BV := ak bv; have BP := ak (blk_below HP.out hb); clear hb bv hg))
  go_region_held3 (fun w' => w'.cell? ⟨gv, 0, none⟩ = some (.int .i64 v)) (exact bc0 (ak (bx BV.out)))
    (first | (go_at_call 33; (with_reducible refine (shape_node.calls p n v _ (bc0 (ak (bx BP.out)))).mono ?_); rintro e w' ⟨rfl, rfl⟩))
  go_wp2_with (first
    | (go_at_call 34; (with_reducible refine (shape_where.outs p n v gv A cap E _ (bx BP.out) (Kd.C_below HR.out (by first | exact HB1.out | exact below_drew HB1.out)) HC.out LN.out (bc0 (ak (bx BV.out)))).mono ?_); rintro e w3 ⟨u, rfl, ru, hb⟩; have RU := ak ru; have HB3 := ak (below_step (show Below W.heap.size W _ from by first | exact HB1.out | exact below_drew HB1.out) hb); have UB := ak (show W.heap.size ≤ w1.heap.size from below_size HB1.out); clear hb ru))
  go_ret2
  exact ⟨_, rfl, Kd.R_lower RU.out UB.out, HB3.out⟩
set_option maxHeartbeats 4000000 in
set_option maxRecDepth 100000 in
theorem Net_Out.bad (p : Nat) (n v : Int) (A : Option Addr) (cap : Nat) (E : List S39) (W : World) (hp : W.heap[p]? = some (.cells #[.int .i64 n, .slice A E.length cap] 44 (0, 0))) (h0 : ¬ (0 ≤ v ∧ v < n)) :
    Calls Try.prog 17 #[.pointer (some ⟨p, 0, none⟩), .int .i64 v] W fun x w' => x = .returned (.tuple #[.slice none 0 0, .int .i64 30]) ∧ Below W.heap.size W w' := by
  have hu44 := Try.underlying44
  have d0 : (decide (0 ≤ v) && decide (v < n)) = false := by rw [Bool.and_eq_false_iff, decide_eq_false_iff_not, decide_eq_false_iff_not]; omega
  have D0 := ak d0
  clear h0 d0
  have HP := ak hp
  have HB := ak (Below.refl W.heap.size W)
  clear hp
  go_enter Try.func17, Try.ntmps17
  go_wp2_with (first
    | ((with_reducible refine gate_dst (N := 3) rfl ?_); refine box_event ?hg (N := 3) ?hd (cs := #[.int .i64 v]) (t := 3) ?hr ?_; (case hd => rfl); (case hg => rfl); (case hr => first | (go_simp; done) | (go_simp; rfl)); intro gv hg w1 bv hb; have HB1 := ak (below_step HB.out hb); have BV := ak bv; have BP := ak (blk_below HP.out hb); clear hb bv hg))
  go_region_held3 (fun w' => w'.cell? ⟨gv, 0, none⟩ = some (.int .i64 v)) (exact bc0 (ak (bx BV.out)))
    (first | (go_at_call 33; (with_reducible refine (shape_node.calls p n v _ (bc0 (ak (bx BP.out)))).mono ?_); rintro e w' ⟨rfl, rfl⟩; rw [D0.out]))
  go_wp2
  go_ret2
  exact ⟨rfl, below_drew HB1.out⟩

theorem Net_In_1.calls (e : S39) (gv : Nat) (v : Int) (W : World) (k0 : W.cell? ⟨gv, 0, none⟩ = some (.int .i64 v)) :
    Calls Try.prog 36 #[.agg #[.int .i64 e.f0, .int .i64 e.f1, .int .i64 e.f2, .int .i64 e.f3], .pointer (some ⟨gv, 0, none⟩)] W fun x w' => x = .returned (.bool (e.f1 == v)) ∧ Below W.heap.size W w' := by
  have hu39 := Try.underlying39
  have KV := ak k0
  have HB := ak (Below.refl W.heap.size W)
  clear k0
  go_enter Try.func36, Try.ntmps36
  go_wp2_with (first
    | ((with_reducible refine gate_dst (N := 2) rfl ?_); refine box_event ?hg (N := 2) ?hd (cs := #[.int .i64 e.f0, .int .i64 e.f1, .int .i64 e.f2, .int .i64 e.f3]) (t := 39) ?hr ?_; (case hd => rfl); (case hg => rfl); (case hr => first | (go_simp; done) | (go_simp; rfl)); intro gg hg w1 bg hb; have HB1 := ak (below_step HB.out hb); have BG := ak bg; have k1 := bc1 BG; have k2 : w1.cell? ⟨gv, 0, none⟩ = some (.int .i64 v) := (hb.cell (World.block_lt_of_cell? W _ KV.out)).trans KV.out; clear hb bg hg))
  go_ret
  exact ⟨rfl, HB1.out⟩
def ins (v : Int) (E : List S39) : List Int := pick (fun e => e.f1 == v) E E.length
set_option maxHeartbeats 4000000 in
set_option maxRecDepth 100000 in
theorem shape_where.ins (p : Nat) (n v : Int) (gv : Nat) (A : Option Addr) (cap : Nat) (E : List S39) (W : World) (hp : W.heap[p]? = some (.cells #[.int .i64 n, .slice A E.length cap] 44 (0, 0))) (hr : Kd.C k39 W A E.length E) (hc : E.length ≤ cap) (hl : E.length < 4398046511104) (hv : W.cell? ⟨gv, 0, none⟩ = some (.int .i64 v)) :
    Calls Try.prog 34 #[.pointer (some ⟨p, 0, none⟩), .func (.func 36) #[] #[.pointer (some ⟨gv, 0, none⟩)]] W fun x w' => ∃ u : Value, x = .returned u ∧ Kd.R (Kd.int .i64) 3 w' W.heap.size (fun _ => True) u (ins v E) ∧ Below W.heap.size W w' := by
  have hu39 := Try.underlying39
  have hu42 := Try.underlying42
  have LN := ak hl
  have HR := ak hr
  have HC := ak hc
  have HV := ak hv
  have HB := ak (Below.refl W.heap.size W)
  have k0 : W.cell? ⟨p, 1, none⟩ = some (.slice A E.length cap) := (blk_cell hp 1).trans rfl
  clear hl hr hc hp hv
  go_enter Try.func34, Try.ntmps34
  go_wp2
  clear k0
  have R0 := ak (show Kd.R (Kd.int .i64) 3 W W.heap.size (fun _ => True) (.slice none 0 0) (pick (fun e => e.f1 == v) E 0) from Kd.R_nil _ _ _ _ _)
  go_loopg [13, 5] E.length (fun kq v13 v5 w' => ∃ i : Nat, v13 = .int .i64 (i : Int) ∧ Aside0 (kq + i = E.length) ∧ Aside0 (Kd.R (Kd.int .i64) 3 w' W.heap.size (fun _ => True) v5 (pick (fun e => e.f1 == v) E i)) ∧ Aside0 (Below W.heap.size W w'))
  case atStart => exact ⟨0, rfl, ⟨rfl⟩, R0, HB⟩
  case round =>
    clear R0 HB
    obtain ⟨i, rfl, HK, R1, HB1⟩ := hrel
    obtain ⟨Ao, co, eo⟩ := Kd.R_slice R1.out
    subst eo
    by_cases c1 : i < E.length
    · have c1a : decide (i < E.length) = true := decide_eq_true c1
      have c1b : decide ((i : Int) < (E.length : Int)) = true := decide_eq_true (by omega)
      have p0 : 0 ≤ (i : Int) := by omega
      have q0 : (i : Int) < (E.length : Int) := by omega
      obtain ⟨ad, e1, k1, k2, k3, k4⟩ := at_T39 HR.out (i : Int) p0 q0
      cases e1
      replace k1 := (HB1.out.cell (World.block_lt_of_cell? W _ k1)).trans k1
      replace k2 := (HB1.out.cell (World.block_lt_of_cell? W _ k2)).trans k2
      replace k3 := (HB1.out.cell (World.block_lt_of_cell? W _ k3)).trans k3
      replace k4 := (HB1.out.cell (World.block_lt_of_cell? W _ k4)).trans k4
      rw [Int.toNat_natCast] at k1 k2 k3 k4
      have hw1 : Go.RowKit.wrap64 ((i : Int) + 1) = ((i + 1 : Nat) : Int) := by have := LN.out; unfold Go.RowKit.wrap64; omega
      have aL0 : ((pick (fun e => e.f1 == v) E i).length + 1) * 8 ≤ 140737488355328 := by have := LN.out; have := pick_len (fun e => e.f1 == v) E i; omega
      have AL := ak aL0
      clear aL0
      have KB := ak (show Below wr.heap.size wr wr from Below.refl _ _)
      by_cases c2 : (rd_T39 E (i : Int)).f1 = v
      · have c2b : ((rd_T39 E (i : Int)).f1 == v) = true := beq_iff_eq.mpr c2
        have PY := ak (pick_yes (p := fun e => e.f1 == v) (E := E) (i := i) c2b)
        clear c2
        go_wp2_with (first
          | ((with_reducible refine gate_dst (N := 7) rfl ?_); refine box_event ?hg (N := 7) ?hd (cs := #[.int .i64 0, .int .i64 0, .int .i64 0, .int .i64 0]) (t := 39) ?hr ?_; (case hd => rfl); (case hg => rfl); (case hr => first | (go_simp; done) | (go_simp; rfl)); intro gb hg w2 bb hb; have HB2 := ak (below_step HB1.out hb); have R2 := ak (Kd.R_below R1.out hb); have NB := ak (show W.heap.size ≤ gb by rw [hg]; exact below_size HB1.out); have BB := ak bb; have k5 := bc0 BB; have k6 := bc1 BB; have k7 := bc2 BB; have k8 := bc3 BB; have k9 := bf BB 0; have k10 := bf BB 1; have k11 := bf BB 2; have k12 := bf BB 3; clear hb bb hg)
          | ((with_reducible refine gate_store (t := 39) (p := 7) rfl ?_); refine store_event (t := 39) (p := 7) (v := ?vs) (w1 := (((w2.setCell ⟨gb, 0, none⟩ (.int .i64 (rd_T39 E (i : Int)).f0)).setCell ⟨gb, 1, none⟩ (.int .i64 (rd_T39 E (i : Int)).f1)).setCell ⟨gb, 2, none⟩ (.int .i64 (rd_T39 E (i : Int)).f2)).setCell ⟨gb, 3, none⟩ (.int .i64 (rd_T39 E (i : Int)).f3)) ?hg ?ho ?hn ?hr ?_; (case ho => rfl); (case hg => rfl); (case hn => rfl); (case hr => first | (go_simp; done) | (go_simp; rfl)); intro w3 hw; have HB3 := ak (show Below W.heap.size W w3 by rw [hw]; exact below_set (below_set (below_set (below_set HB2.out NB.out) NB.out) NB.out) NB.out); have b1 := blk_put (blk_put (blk_put (blk_put BB.out 0 (.int .i64 (rd_T39 E (i : Int)).f0) rfl) 1 (.int .i64 (rd_T39 E (i : Int)).f1) rfl) 2 (.int .i64 (rd_T39 E (i : Int)).f2) rfl) 3 (.int .i64 (rd_T39 E (i : Int)).f3) rfl; have BB3 := ak (show w3.heap[gb]? = some (.cells #[.int .i64 (rd_T39 E (i : Int)).f0, .int .i64 (rd_T39 E (i : Int)).f1, .int .i64 (rd_T39 E (i : Int)).f2, .int .i64 (rd_T39 E (i : Int)).f3] 39 (0, 0)) by rw [hw]; exact b1); have R3 := ak (show Kd.R (Kd.int .i64) 3 w3 W.heap.size (fun _ => True) (.slice Ao (pick (fun e => e.f1 == v) E i).length co) (pick (fun e => e.f1 == v) E i) by rw [hw]; exact Kd.R_set (Kd.R_set (Kd.R_set (Kd.R_set R2.out BB.out (by decide) 0 _) (blk_put BB.out 0 _ rfl) (by decide) 1 _) (blk_put (blk_put BB.out 0 (.int .i64 (rd_T39 E (i : Int)).f0) rfl) 1 (.int .i64 (rd_T39 E (i : Int)).f1) rfl) (by decide) 2 _) (blk_put (blk_put (blk_put BB.out 0 (.int .i64 (rd_T39 E (i : Int)).f0) rfl) 1 (.int .i64 (rd_T39 E (i : Int)).f1) rfl) 2 (.int .i64 (rd_T39 E (i : Int)).f2) rfl) (by decide) 3 _); clear b1 hw; have k5 := bc0 BB3; have k6 := bc1 BB3; have k7 := bc2 BB3; have k8 := bc3 BB3; have hv3 : w3.cell? ⟨gv, 0, none⟩ = some (.int .i64 v) := (HB3.out.cell (World.block_lt_of_cell? W _ HV.out)).trans HV.out)
          | (go_at_call 36; (with_reducible refine (Net_In_1.calls (rd_T39 E (i : Int)) gv v _ hv3).mono ?_); rintro e w4 ⟨rfl, hb⟩; have HB4 := ak (below_step HB3.out hb); have R4 := ak (Kd.R_below R3.out hb); clear hb)  
          | ((with_reducible refine gate_builtin (b := .append) (xs := #[.tmp 21, .tmp 23]) rfl ?_); at_builtin; refine Kd.R_append (Kd.int .i64) (w0 := W) W.heap.size rfl (.tmp 21) (.tmp 23) 45 3 (.int .i64 0) 8 rfl Try.underlying45 info3 rfl (by decide) (by omega) (.slice Ao (pick (fun e => e.f1 == v) E i).length co) (pick (fun e => e.f1 == v) E i) (i : Int) [.int .i64 (i : Int)] (fun _ => True) (fun _ => False) rfl (by first | (go_simp; done) | (go_simp; rfl)) ?aP (fun _ hk => hk.elim) (fun _ _ => trivial) ?aO ?aB ?aS ?aL ?_; (case aP => exact rfl); (case aB => exact HB4.out); (case aO => exact R4.out); (case aS => exact below_size HB4.out); (case aL => exact AL.out); intro v7 w7 ho7 hb7 hg7 hat7; obtain ⟨A7, c7, e7⟩ := Kd.R_slice ho7; subst e7; have R7 := ak ho7; have HB7 := ak hb7; clear ho7 hb7 hg7 hat7))
        go_roundg (E.length - (i + 1))
        case measure => have := HK.out; omega
        case rel => exact ⟨i + 1, by first | (rw [hw1]; done) | (simp only [i64_w, hw1]; done) | (go_num; done) | (go_num; rw [hw1]; done), ⟨by have := HK.out; omega⟩, ⟨by rw [PY.out]; have q := R7.out; simp only [List.length_append, List.length_singleton] at q ⊢; exact q⟩, HB7⟩
      · have c2b : ((rd_T39 E (i : Int)).f1 == v) = false := beq_eq_false_iff_ne.mpr c2
        have PN := ak (pick_no (p := fun e => e.f1 == v) (E := E) (i := i) c2b)
        clear c2
        go_wp2_with (first
          | ((with_reducible refine gate_dst (N := 7) rfl ?_); refine box_event ?hg (N := 7) ?hd (cs := #[.int .i64 0, .int .i64 0, .int .i64 0, .int .i64 0]) (t := 39) ?hr ?_; (case hd => rfl); (case hg => rfl); (case hr => first | (go_simp; done) | (go_simp; rfl)); intro gb hg w2 bb hb; have HB2 := ak (below_step HB1.out hb); have R2 := ak (Kd.R_below R1.out hb); have NB := ak (show W.heap.size ≤ gb by rw [hg]; exact below_size HB1.out); have BB := ak bb; have k5 := bc0 BB; have k6 := bc1 BB; have k7 := bc2 BB; have k8 := bc3 BB; have k9 := bf BB 0; have k10 := bf BB 1; have k11 := bf BB 2; have k12 := bf BB 3; clear hb bb hg)
          | ((with_reducible refine gate_store (t := 39) (p := 7) rfl ?_); refine store_event (t := 39) (p := 7) (v := ?vs) (w1 := (((w2.setCell ⟨gb, 0, none⟩ (.int .i64 (rd_T39 E (i : Int)).f0)).setCell ⟨gb, 1, none⟩ (.int .i64 (rd_T39 E (i : Int)).f1)).setCell ⟨gb, 2, none⟩ (.int .i64 (rd_T39 E (i : Int)).f2)).setCell ⟨gb, 3, none⟩ (.int .i64 (rd_T39 E (i : Int)).f3)) ?hg ?ho ?hn ?hr ?_; (case ho => rfl); (case hg => rfl); (case hn => rfl); (case hr => first | (go_simp; done) | (go_simp; rfl)); intro w3 hw; have HB3 := ak (show Below W.heap.size W w3 by rw [hw]; exact below_set (below_set (below_set (below_set HB2.out NB.out) NB.out) NB.out) NB.out); have b1 := blk_put (blk_put (blk_put (blk_put BB.out 0 (.int .i64 (rd_T39 E (i : Int)).f0) rfl) 1 (.int .i64 (rd_T39 E (i : Int)).f1) rfl) 2 (.int .i64 (rd_T39 E (i : Int)).f2) rfl) 3 (.int .i64 (rd_T39 E (i : Int)).f3) rfl; have BB3 := ak (show w3.heap[gb]? = some (.cells #[.int .i64 (rd_T39 E (i : Int)).f0, .int .i64 (rd_T39 E (i : Int)).f1, .int .i64 (rd_T39 E (i : Int)).f2, .int .i64 (rd_T39 E (i : Int)).f3] 39 (0, 0)) by rw [hw]; exact b1); have R3 := ak (show Kd.R (Kd.int .i64) 3 w3 W.heap.size (fun _ => True) (.slice Ao (pick (fun e => e.f1 == v) E i).length co) (pick (fun e => e.f1 == v) E i) by rw [hw]; exact Kd.R_set (Kd.R_set (Kd.R_set (Kd.R_set R2.out BB.out (by decide) 0 _) (blk_put BB.out 0 _ rfl) (by decide) 1 _) (blk_put (blk_put BB.out 0 (.int .i64 (rd_T39 E (i : Int)).f0) rfl) 1 (.int .i64 (rd_T39 E (i : Int)).f1) rfl) (by decide) 2 _) (blk_put (blk_put (blk_put BB.out 0 (.int .i64 (rd_T39 E (i : Int)).f0) rfl) 1 (.int .i64 (rd_T39 E (i : Int)).f1) rfl) 2 (.int .i64 (rd_T39 E (i : Int)).f2) rfl) (by decide) 3 _); clear b1 hw; have k5 := bc0 BB3; have k6 := bc1 BB3; have k7 := bc2 BB3; have k8 := bc3 BB3; have hv3 : w3.cell? ⟨gv, 0, none⟩ = some (.int .i64 v) := (HB3.out.cell (World.block_lt_of_cell? W _ HV.out)).trans HV.out)
          | (go_at_call 36; (with_reducible refine (Net_In_1.calls (rd_T39 E (i : Int)) gv v _ hv3).mono ?_); rintro e w4 ⟨rfl, hb⟩; have HB4 := ak (below_step HB3.out hb); have R4 := ak (Kd.R_below R3.out hb); clear hb))
        go_roundg (E.length - (i + 1))
        case measure => have := HK.out; omega
        case rel => exact ⟨i + 1, by first | (rw [hw1]; done) | (simp only [i64_w, hw1]; done) | (go_num; done) | (go_num; rw [hw1]; done), ⟨by have := HK.out; omega⟩, ⟨by rw [PN.out]; exact R4.out⟩, HB4⟩
    · have c1a : decide (i < E.length) = false := decide_eq_false c1
      have c1b : decide ((i : Int) < (E.length : Int)) = false := decide_eq_false (by omega)
      have ei : i = E.length := by have := HK.out; omega
      have EI := ak ei
      clear c1 ei
      go_wp2
      go_ret
      exact ⟨_, rfl, by have q := R1.out; rw [EI.out] at q ⊢; exact q, HB1.out⟩

set_option maxHeartbeats 4000000 in
set_option maxRecDepth 100000 in
theorem Net_In.good (p : Nat) (n v : Int) (A : Option Addr) (cap : Nat) (E : List S39) (W : World) (hp : W.heap[p]? = some (.cells #[.int .i64 n, .slice A E.length cap] 44 (0, 0))) (hr : Kd.C k39 W A E.length E) (hc : E.length ≤ cap) (hl : E.length < 4398046511104) (h0 : 0 ≤ v) (h1 : v < n) :
    Calls Try.prog 18 #[.pointer (some ⟨p, 0, none⟩), .int .i64 v] W fun x w' => ∃ u : Value, x = .returned (.tuple #[u, .int .i64 0]) ∧ Kd.R (Kd.int .i64) 3 w' W.heap.size (fun _ => True) u (ins v E) ∧ Below W.heap.size W w' := by
  have hu44 := Try.underlying44
  have d0 : decide (0 ≤ v) = true := decide_eq_true h0
  have d1 : decide (v < n) = true := decide_eq_true h1
  have hmf : ∀ (fn : Fn) (first cap : Array Value) (w : World), (Instr.makeFunc fn first cap).run Try.prog w = .ok (.func fn first cap) w := fun _ _ _ _ => rfl
  clear h0 h1
  have HP := ak hp
  have HR := ak hr
  have HC := ak hc
  have LN := ak hl
  have HB := ak (Below.refl W.heap.size W)
  clear hp hr hc hl
  go_enter Try.func18, Try.ntmps18
  go_wp2_with (first
    | ((with_reducible refine gate_dst (N := 3) rfl ?_); refine box_event ?hg (N := 3) ?hd (cs := #[.int .i64 v]) (t := 3) ?hr ?_; (case hd => rfl); (case hg => rfl); (case hr => first | (go_simp; done) | (go_simp; rfl)); intro gv hg w1 bv hb; have HB1 := ak (below_step HB.out hb); have BV := ak bv; have BP := ak (blk_below HP.out hb); clear hb bv hg))
  go_region_held3 (fun w' => w'.cell? ⟨gv, 0, none⟩ = some (.int .i64 v)) (exact bc0 (ak (bx BV.out)))
    (first | (go_at_call 33; (with_reducible refine (shape_node.calls p n v _ (bc0 (ak (bx BP.out)))).mono ?_); rintro e w' ⟨rfl, rfl⟩))
  go_wp2_with (first
    | (go_at_call 34; (with_reducible refine (shape_where.ins p n v gv A cap E _ (bx BP.out) (Kd.C_below HR.out (by first | exact HB1.out | exact below_drew HB1.out)) HC.out LN.out (bc0 (ak (bx BV.out)))).mono ?_); rintro e w3 ⟨u, rfl, ru, hb⟩; have RU := ak ru; have HB3 := ak (below_step (show Below W.heap.size W _ from by first | exact HB1.out | exact below_drew HB1.out) hb); have UB := ak (show W.heap.size ≤ w1.heap.size from below_size HB1.out); clear hb ru))
  go_ret2
  exact ⟨_, rfl, Kd.R_lower RU.out UB.out, HB3.out⟩
set_option maxHeartbeats 4000000 in
set_option maxRecDepth 100000 in
theorem Net_In.bad (p : Nat) (n v : Int) (A : Option Addr) (cap : Nat) (E : List S39) (W : World) (hp : W.heap[p]? = some (.cells #[.int .i64 n, .slice A E.length cap] 44 (0, 0))) (h0 : ¬ (0 ≤ v ∧ v < n)) :
    Calls Try.prog 18 #[.pointer (some ⟨p, 0, none⟩), .int .i64 v] W fun x w' => x = .returned (.tuple #[.slice none 0 0, .int .i64 30]) ∧ Below W.heap.size W w' := by
  have hu44 := Try.underlying44
  have d0 : (decide (0 ≤ v) && decide (v < n)) = false := by rw [Bool.and_eq_false_iff, decide_eq_false_iff_not, decide_eq_false_iff_not]; omega
  have D0 := ak d0
  clear h0 d0
  have HP := ak hp
  have HB := ak (Below.refl W.heap.size W)
  clear hp
  go_enter Try.func18, Try.ntmps18
  go_wp2_with (first
    | ((with_reducible refine gate_dst (N := 3) rfl ?_); refine box_event ?hg (N := 3) ?hd (cs := #[.int .i64 v]) (t := 3) ?hr ?_; (case hd => rfl); (case hg => rfl); (case hr => first | (go_simp; done) | (go_simp; rfl)); intro gv hg w1 bv hb; have HB1 := ak (below_step HB.out hb); have BV := ak bv; have BP := ak (blk_below HP.out hb); clear hb bv hg))
  go_region_held3 (fun w' => w'.cell? ⟨gv, 0, none⟩ = some (.int .i64 v)) (exact bc0 (ak (bx BV.out)))
    (first | (go_at_call 33; (with_reducible refine (shape_node.calls p n v _ (bc0 (ak (bx BP.out)))).mono ?_); rintro e w' ⟨rfl, rfl⟩; rw [D0.out]))
  go_wp2
  go_ret2
  exact ⟨rfl, below_drew HB1.out⟩
end Go.Proofs.Ytpmclhkednehhaa.Q
