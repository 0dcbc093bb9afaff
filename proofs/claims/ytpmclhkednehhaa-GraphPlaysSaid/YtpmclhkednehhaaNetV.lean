/- The document's CutNode: written by genV.py. -/
import Derived.Test.YtpmclhkednehhaaQ10
import Derived.Test.YtpmclhkednehhaaQ26
import Derived.Test.YtpmclhkednehhaaNetZ
set_option linter.unusedVariables false
set_option linter.unusedSimpArgs false
namespace Go.Proofs.Ytpmclhkednehhaa.Q
open Go.RowKit Go.Proofs.YtpmclhkednehhaaW.PrintWords Go.Proofs.YtpmclhkednehhaaW.PrintLast Go.Proofs.YtpmclhkednehhaaW.PrintMore
theorem refMoved.calls (x v : Int) (W : World) (x0 : 0 ≤ x) (x1 : x ≤ 1024) :
    Calls Try.prog 49 #[.int .i64 x, .int .i64 v] W fun e w' => e = .returned (.int .i64 (decv v x)) ∧ w' = W := by
  unfold decv
  by_cases c : x > v
  · have c1 : decide (x > v) = true := decide_eq_true c
    have c2 : decide (v < x) = true := decide_eq_true c
    have s1 : Go.RowKit.wrap64 (x - 1) = x - 1 := by unfold Go.RowKit.wrap64; omega
    have s2 : IntKind.i64.wrap (x - 1) = x - 1 := by rw [i64_w]; exact s1
    rw [if_pos c]
    clear c x0 x1
    go_enter Try.func49, Try.ntmps49
    go_wp2
    go_ret
    exact ⟨rfl, rfl⟩
  · have c1 : decide (x > v) = false := decide_eq_false c
    have c2 : decide (v < x) = false := decide_eq_false c
    rw [if_neg c]
    clear c x0 x1
    go_enter Try.func49, Try.ntmps49
    go_wp2
    go_ret
    exact ⟨rfl, rfl⟩
/-- What is kept of the first m edges. -/
def rem (E : List S39) (v : Int) (m : Nat) : List S39 := ((E.take m).filter (stays v)).map (decE v)
theorem rem_zero (E : List S39) (v : Int) : rem E v 0 = [] := by unfold rem; rw [List.take_zero]; rfl
theorem rem_all (E : List S39) (v : Int) : rem E v E.length = (E.filter (stays v)).map (decE v) := by unfold rem; rw [List.take_length]
theorem rem_yes (E : List S39) (v : Int) (m : Nat) (h : m < E.length) (s : stays v (rd_T39 E (m : Int)) = true) : rem E v (m + 1) = rem E v m ++ [decE v (rd_T39 E (m : Int))] := by
  unfold rem
  rw [take_more E m h, List.filter_append, List.map_append]
  simp [s]
theorem rem_no (E : List S39) (v : Int) (m : Nat) (h : m < E.length) (s : stays v (rd_T39 E (m : Int)) = false) : rem E v (m + 1) = rem E v m := by
  unfold rem
  rw [take_more E m h, List.filter_append, List.map_append]
  simp [s]
theorem rem_len (E : List S39) (v : Int) (m : Nat) : (rem E v m).length ≤ E.length := by
  unfold rem
  rw [List.length_map]
  have := List.length_filter_le (stays v) (E.take m)
  rw [List.length_take] at this
  omega
theorem rd_mem (E : List S39) (m : Nat) (h : m < E.length) : rd_T39 E (m : Int) ∈ E := by
  have e : rd_T39 E (m : Int) = E[m] := by unfold rd_T39; rw [Int.toNat_natCast]; simp [List.getD, h]
  rw [e]
  exact List.getElem_mem h
set_option maxHeartbeats 4000000 in
set_option maxRecDepth 100000 in
theorem refCutNode.out (n : Int) (A : Option Addr) (c : Nat) (E : List S39) (v : Int) (W : World) (h : ¬ (0 ≤ v ∧ v < n)) :
    Calls Try.prog 46 #[.agg #[.int .i64 n, .slice A E.length c], .int .i64 v] W fun e w' => e = .returned (.tuple #[.agg #[.int .i64 n, .slice A E.length c], .int .i64 30]) ∧ Below W.heap.size W w' := by
  have hu24 := Try.underlying24
  have hu39 := Try.underlying39
  have hu22 := Try.underlying22
  have HB := ak (Below.refl W.heap.size W)
  rcases (by omega : v < 0 ∨ (0 ≤ v ∧ n ≤ v)) with h1 | ⟨h1, h2⟩
  · have i1 : decide (v < 0) = true := decide_eq_true h1
    go_enter Try.func46, Try.ntmps46
    go_wp2_with (first
      | ((with_reducible refine gate_dst (N := 2) rfl ?_); refine box_event ?hg (N := 2) ?hd (cs := #[.int .i64 n, .slice A E.length c]) (t := 24) ?hr ?_; (case hd => rfl); (case hg => rfl); (case hr => first | (go_simp; done) | (go_simp; rfl)); intro gg hg w1 bg hb; have HB1 := ak (below_step HB.out hb); have BG := ak bg; clear hb bg hg)
      | ((with_reducible refine gate_dst (N := 4) rfl ?_); refine box_event ?hg (N := 4) ?hd (cs := #[.int .i64 0, .slice none 0 0]) (t := 24) ?hr ?_; (case hd => rfl); (case hg => rfl); (case hr => first | (go_simp; done) | (go_simp; rfl)); intro gr hg w2 br hb; have HB2 := ak (below_step HB1.out hb); have BR := ak br; have GR := ak (show W.heap.size ≤ gr by rw [hg]; exact below_size HB1.out); have NR := ak (show gg ≠ gr by rw [hg]; exact Nat.ne_of_lt (blk_lt BG.out)); have BG2 := ak (blk_below BG.out hb); clear hb br hg; have k0 := bc0 BG2; have k1 := bc1 BG2; have k2 := bc0 BR; have k3 := bc1 BR; have k4 := bf BR 0; have k5 := bf BR 1)
      | ((with_reducible refine gate_store (t := 24) (p := 4) rfl ?_); refine store_event (t := 24) (p := 4) (v := ?vb1) (w1 := (w2.setCell ⟨gr, 0, none⟩ (.int .i64 n)).setCell ⟨gr, 1, none⟩ (.slice A E.length c)) ?hg ?ho ?hn ?hr ?_; (case ho => rfl); (case hg => rfl); (case hn => rfl); (case hr => first | (go_simp; done) | (go_simp; rfl)); intro w3 hw; have HBz := ak (show Below W.heap.size W w3 by rw [hw]; exact below_set (below_set HB2.out GR.out) GR.out); have BRz := ak (show w3.heap[gr]? = some (.cells #[.int .i64 n, .slice A E.length c] 24 (0, 0)) by rw [hw]; exact blk_put (blk_put BR.out 0 _ rfl) 1 _ rfl); have y0 := bc0 BRz; have y1 := bc1 BRz; clear hw))
    exact bodyPost_ret (v := .tuple #[.agg #[.int .i64 n, .slice A E.length c], .int .i64 30]) (by simp [results, Try.results46, go_sem, y0, y1]) rfl ⟨rfl, HBz.out⟩
  · have i1 : decide (v < 0) = false := decide_eq_false (by omega)
    have i2 : decide (v ≥ n) = true := decide_eq_true h2
    have i3 : decide (n ≤ v) = true := decide_eq_true h2
    go_enter Try.func46, Try.ntmps46
    go_wp2_with (first
      | ((with_reducible refine gate_dst (N := 2) rfl ?_); refine box_event ?hg (N := 2) ?hd (cs := #[.int .i64 n, .slice A E.length c]) (t := 24) ?hr ?_; (case hd => rfl); (case hg => rfl); (case hr => first | (go_simp; done) | (go_simp; rfl)); intro gg hg w1 bg hb; have HB1 := ak (below_step HB.out hb); have BG := ak bg; clear hb bg hg)
      | ((with_reducible refine gate_dst (N := 4) rfl ?_); refine box_event ?hg (N := 4) ?hd (cs := #[.int .i64 0, .slice none 0 0]) (t := 24) ?hr ?_; (case hd => rfl); (case hg => rfl); (case hr => first | (go_simp; done) | (go_simp; rfl)); intro gr hg w2 br hb; have HB2 := ak (below_step HB1.out hb); have BR := ak br; have GR := ak (show W.heap.size ≤ gr by rw [hg]; exact below_size HB1.out); have NR := ak (show gg ≠ gr by rw [hg]; exact Nat.ne_of_lt (blk_lt BG.out)); have BG2 := ak (blk_below BG.out hb); clear hb br hg; have k0 := bc0 BG2; have k1 := bc1 BG2; have k2 := bc0 BR; have k3 := bc1 BR; have k4 := bf BR 0; have k5 := bf BR 1)
      | ((with_reducible refine gate_store (t := 24) (p := 4) rfl ?_); refine store_event (t := 24) (p := 4) (v := ?vb2) (w1 := (w2.setCell ⟨gr, 0, none⟩ (.int .i64 n)).setCell ⟨gr, 1, none⟩ (.slice A E.length c)) ?hg ?ho ?hn ?hr ?_; (case ho => rfl); (case hg => rfl); (case hn => rfl); (case hr => first | (go_simp; done) | (go_simp; rfl)); intro w3 hw; have HBz := ak (show Below W.heap.size W w3 by rw [hw]; exact below_set (below_set HB2.out GR.out) GR.out); have BRz := ak (show w3.heap[gr]? = some (.cells #[.int .i64 n, .slice A E.length c] 24 (0, 0)) by rw [hw]; exact blk_put (blk_put BR.out 0 _ rfl) 1 _ rfl); have y0 := bc0 BRz; have y1 := bc1 BRz; clear hw))
    exact bodyPost_ret (v := .tuple #[.agg #[.int .i64 n, .slice A E.length c], .int .i64 30]) (by simp [results, Try.results46, go_sem, y0, y1]) rfl ⟨rfl, HBz.out⟩
set_option maxHeartbeats 4000000 in
set_option maxRecDepth 100000 in
theorem refCutNode.did (n : Int) (A : Option Addr) (c : Nat) (E : List S39) (v : Int) (W : World) (hr : Kd.C k39 W A E.length E) (hc : E.length ≤ c) (h0 : 0 ≤ v) (h1 : v < n) (hn : n ≤ 1024) (hl : E.length ≤ 4096) (he : ∀ e ∈ E, 0 ≤ e.f0 ∧ e.f0 < n ∧ 0 ≤ e.f1 ∧ e.f1 < n) :
    Calls Try.prog 46 #[.agg #[.int .i64 n, .slice A E.length c], .int .i64 v] W fun e w' => ∃ (A' : Option Addr) (c' : Nat), e = .returned (.tuple #[.agg #[.int .i64 (n - 1), .slice A' ((E.filter (stays v)).map (decE v)).length c'], .int .i64 0]) ∧ Below W.heap.size W w' ∧ Kd.R k39 39 w' W.heap.size (fun _ => True) (.slice A' ((E.filter (stays v)).map (decE v)).length c') ((E.filter (stays v)).map (decE v)) := by
  have hu24 := Try.underlying24
  have hu39 := Try.underlying39
  have hu22 := Try.underlying22
  have HB := ak (Below.refl W.heap.size W)
  have HR := ak hr
  have HC := ak hc
  have HL := ak hl
  have HE := ak he
  have HN := ak hn
  have i1 : decide (v < 0) = false := decide_eq_false (by omega)
  have i2 : decide (v ≥ n) = false := decide_eq_false (by omega)
  have i3 : decide (n ≤ v) = false := decide_eq_false (by omega)
  have s1 : Go.RowKit.wrap64 (n - 1) = n - 1 := by unfold Go.RowKit.wrap64; omega
  have s2 : IntKind.i64.wrap (n - 1) = n - 1 := by rw [i64_w]; exact s1
  clear hr hc hl he hn h0 h1
  go_enter Try.func46, Try.ntmps46
  go_wp2_with (first
    | ((with_reducible refine gate_dst (N := 2) rfl ?_); refine box_event ?hg (N := 2) ?hd (cs := #[.int .i64 n, .slice A E.length c]) (t := 24) ?hr ?_; (case hd => rfl); (case hg => rfl); (case hr => first | (go_simp; done) | (go_simp; rfl)); intro gg hg w1 bg hb; have HB1 := ak (below_step HB.out hb); have BG := ak bg; clear hb bg hg)
    | ((with_reducible refine gate_dst (N := 4) rfl ?_); refine box_event ?hg (N := 4) ?hd (cs := #[.int .i64 0, .slice none 0 0]) (t := 24) ?hr ?_; (case hd => rfl); (case hg => rfl); (case hr => first | (go_simp; done) | (go_simp; rfl)); intro gr hg w2 br hb; have HB2 := ak (below_step HB1.out hb); have BR := ak br; have GR := ak (show W.heap.size ≤ gr by rw [hg]; exact below_size HB1.out); have NR := ak (show gg ≠ gr by rw [hg]; exact Nat.ne_of_lt (blk_lt BG.out)); have BG2 := ak (blk_below BG.out hb); clear hb br hg; have k0 := bc0 BG2; have k1 := bc1 BG2; have k2 := bc0 BR; have k3 := bc1 BR; have k4 := bf BR 0; have k5 := bf BR 1)
    | ((with_reducible refine gate_dst (N := 6) rfl ?_); refine box_event ?hg (N := 6) ?hd (cs := #[.int .i64 0, .slice none 0 0]) (t := 24) ?hr ?_; (case hd => rfl); (case hg => rfl); (case hr => first | (go_simp; done) | (go_simp; rfl)); intro go hg w3 bo hb; have HB3 := ak (below_step HB2.out hb); have BO := ak bo; have GO := ak (show W.heap.size ≤ go by rw [hg]; exact below_size HB2.out); have NO1 := ak (show gr ≠ go by rw [hg]; exact Nat.ne_of_lt (blk_lt BR.out)); have NO2 := ak (show gg ≠ go by rw [hg]; exact Nat.ne_of_lt (blk_lt BG2.out)); have BR3 := ak (blk_below BR.out hb); have BG3 := ak (blk_below BG2.out hb); clear hb bo hg; have u0 := bc0 BO; have u1 := bc1 BO; have u2 := bf BO 0; have u3 := bf BO 1)
    | ((with_reducible refine gate_store (t := 24) (p := 6) rfl ?_); refine store_event (t := 24) (p := 6) (v := ?vo) (w1 := (w3.setCell ⟨go, 0, none⟩ (.int .i64 (n - 1))).setCell ⟨go, 1, none⟩ (.slice none 0 0)) ?hg ?ho ?hn ?hr ?_; (case ho => rfl); (case hg => rfl); (case hn => rfl); (case hr => first | (go_simp; done) | (go_simp; rfl)); intro w4 hw; have HB4 := ak (show Below W.heap.size W w4 by rw [hw]; exact below_set (below_set HB3.out GO.out) GO.out); have BO4 := ak (show w4.heap[go]? = some (.cells #[.int .i64 (n - 1), .slice none 0 0] 24 (0, 0)) by rw [hw]; exact blk_put (blk_put BO.out 0 _ rfl) 1 _ rfl); have BR4 := ak (show w4.heap[gr]? = some (.cells #[.int .i64 0, .slice none 0 0] 24 (0, 0)) by rw [hw]; exact blk_far (blk_far BR3.out NO1.out _) NO1.out _); have BG4 := ak (show w4.heap[gg]? = some (.cells #[.int .i64 n, .slice A E.length c] 24 (0, 0)) by rw [hw]; exact blk_far (blk_far BG3.out NO2.out _) NO2.out _); clear hw))
  clear k0 k1 k2 k3 k4 k5 u0 u1 u2 u3 HB1 HB2 HB3 BG BG2 BR BR3 BG3 BO i1 i2 i3 s1 s2
  have R0 := ak (show Kd.R k39 39 w4 W.heap.size (fun _ => True) (.slice none 0 0) (rem E v 0) by rw [rem_zero]; exact Kd.R_nil _ _ _ _ _)
  go_loopg [7] E.length (fun kq v7 w' => ∃ (m : Nat) (u : Value), v7 = .int .i64 (m : Int) ∧ Aside0 (kq + m = E.length) ∧ Aside0 (Kd.R k39 39 w' W.heap.size (fun _ => True) u (rem E v m)) ∧ Aside0 (w'.heap[gg]? = some (.cells #[.int .i64 n, .slice A E.length c] 24 (0, 0))) ∧ Aside0 (w'.heap[gr]? = some (.cells #[.int .i64 0, .slice none 0 0] 24 (0, 0))) ∧ Aside0 (w'.heap[go]? = some (.cells #[.int .i64 (n - 1), u] 24 (0, 0))) ∧ Aside0 (Below W.heap.size W w'))
  case atStart => exact ⟨0, _, rfl, ⟨rfl⟩, R0, BG4, BR4, BO4, HB4⟩
  case round =>
    clear R0 BG4 BR4 BO4 HB4 HB
    obtain ⟨m, u, rfl, HK, R1, BG1, BR1, BO1, HB1⟩ := hrel
    obtain ⟨Ao, co, eo⟩ := Kd.R_slice R1.out
    subst eo
    have kg := bc1 BG1
    by_cases c1 : m < E.length
    · have c1a : decide (m < E.length) = true := decide_eq_true c1
      have c1b : decide ((m : Int) < (E.length : Int)) = true := decide_eq_true (by omega)
      have hw1 : Go.RowKit.wrap64 ((m : Int) + 1) = ((m + 1 : Nat) : Int) := by have := HL.out; unfold Go.RowKit.wrap64; omega
      have M1 := ak c1
      have AL := ak (show ((rem E v m).length + 1) * 32 ≤ 140737488355328 by have := HL.out; have := rem_len E v m; omega)
      have p0 : 0 ≤ (m : Int) := by omega
      have p1 : (m : Int) < (E.length : Int) := by omega
      obtain ⟨ad, ea, e1, e2, e3, e4⟩ := at_T39 HR.out (m : Int) p0 p1
      cases ea
      rw [Int.toNat_natCast] at e1 e2 e3 e4
      replace e1 := (HB1.out.cell (World.block_lt_of_cell? W _ e1)).trans e1
      replace e2 := (HB1.out.cell (World.block_lt_of_cell? W _ e2)).trans e2
      replace e3 := (HB1.out.cell (World.block_lt_of_cell? W _ e3)).trans e3
      replace e4 := (HB1.out.cell (World.block_lt_of_cell? W _ e4)).trans e4
      obtain ⟨f0, f1, f2, f3⟩ := HE.out _ (rd_mem E m c1)
      have F00 := ak f0
      have F01 := ak (show (rd_T39 E (m : Int)).f0 ≤ 1024 by have := HN.out; omega)
      have F10 := ak f2
      have F11 := ak (show (rd_T39 E (m : Int)).f1 ≤ 1024 by have := HN.out; omega)
      clear f0 f1 f2 f3 c1
      by_cases c2 : (rd_T39 E (m : Int)).f0 = v
      · have ST := ak (show stays v (rd_T39 E (m : Int)) = false by unfold stays ends; rw [c2]; simp)
        have d0 : ((rd_T39 E (m : Int)).f0 != v) = false := by rw [c2]; simp
        have d1 : ((rd_T39 E (m : Int)).f0 == v) = true := by rw [c2]; simp
        clear c2
        go_wp2_with (first
          | ((with_reducible refine gate_dst (N := 8) rfl ?_); refine box_event ?hg (N := 8) ?hd (cs := #[.int .i64 0, .int .i64 0, .int .i64 0, .int .i64 0]) (t := 39) ?hr ?_; (case hd => rfl); (case hg => rfl); (case hr => first | (go_simp; done) | (go_simp; rfl)); intro ge hg w2 be hb; have HB2 := ak (below_step HB1.out hb); have BE := ak be; have GE := ak (show W.heap.size ≤ ge by rw [hg]; exact below_size HB1.out); have NE1 := ak (show go ≠ ge by rw [hg]; exact Nat.ne_of_lt (blk_lt BO1.out)); have NE2 := ak (show gr ≠ ge by rw [hg]; exact Nat.ne_of_lt (blk_lt BR1.out)); have NE3 := ak (show gg ≠ ge by rw [hg]; exact Nat.ne_of_lt (blk_lt BG1.out)); have R2 := ak (Kd.R_below (Kd.R_elderB R1.out ge (Nat.le_of_eq hg.symm)) hb); have BO2 := ak (blk_below BO1.out hb); have BR2 := ak (blk_below BR1.out hb); have BG2 := ak (blk_below BG1.out hb); clear hb be hg; have k0 := bc0 BE; have k1 := bc1 BE; have k2 := bc2 BE; have k3 := bc3 BE; have k4 := bf BE 0; have k5 := bf BE 1; have k6 := bf BE 2; have k7 := bf BE 3)
          | ((with_reducible refine gate_store (t := 39) (p := 8) rfl ?_); refine store_event (t := 39) (p := 8) (v := ?vs1) (w1 := (((w2.setCell ⟨ge, 0, none⟩ (.int .i64 (rd_T39 E (m : Int)).f0)).setCell ⟨ge, 1, none⟩ (.int .i64 (rd_T39 E (m : Int)).f1)).setCell ⟨ge, 2, none⟩ (.int .i64 (rd_T39 E (m : Int)).f2)).setCell ⟨ge, 3, none⟩ (.int .i64 (rd_T39 E (m : Int)).f3)) ?hg ?ho ?hn ?hr ?_; (case ho => rfl); (case hg => rfl); (case hn => rfl); (case hr => first | (go_simp; done) | (go_simp; rfl)); intro w3 hw; have HB3 := ak (show Below W.heap.size W w3 by rw [hw]; exact below_set (below_set (below_set (below_set (HB2.out) GE.out) GE.out) GE.out) GE.out); have BO3 := ak (show w3.heap[go]? = some (.cells #[.int .i64 (n - 1), .slice Ao (rem E v m).length co] 24 (0, 0)) by rw [hw]; exact blk_far (blk_far (blk_far (blk_far (BO2.out) NE1.out _) NE1.out _) NE1.out _) NE1.out _); have BR3 := ak (show w3.heap[gr]? = some (.cells #[.int .i64 0, .slice none 0 0] 24 (0, 0)) by rw [hw]; exact blk_far (blk_far (blk_far (blk_far (BR2.out) NE2.out _) NE2.out _) NE2.out _) NE2.out _); have BG3 := ak (show w3.heap[gg]? = some (.cells #[.int .i64 n, .slice (some ad) E.length c] 24 (0, 0)) by rw [hw]; exact blk_far (blk_far (blk_far (blk_far (BG2.out) NE3.out _) NE3.out _) NE3.out _) NE3.out _); have R3 := ak (show Kd.R k39 39 w3 W.heap.size (fun k => True ∧ k ≠ ge) (.slice Ao (rem E v m).length co) (rem E v m) by rw [hw]; exact Kd.R_far (Kd.R_far (Kd.R_far (Kd.R_far (R2.out) (fun _ hk => hk.2) _) (fun _ hk => hk.2) _) (fun _ hk => hk.2) _) (fun _ hk => hk.2) _); have BE3 := ak (show w3.heap[ge]? = some (.cells #[.int .i64 (rd_T39 E (m : Int)).f0, .int .i64 (rd_T39 E (m : Int)).f1, .int .i64 (rd_T39 E (m : Int)).f2, .int .i64 (rd_T39 E (m : Int)).f3] 39 (0, 0)) by rw [hw]; exact blk_put (blk_put (blk_put (blk_put (BE.out) 0 (.int .i64 (rd_T39 E (m : Int)).f0) rfl) 1 (.int .i64 (rd_T39 E (m : Int)).f1) rfl) 2 (.int .i64 (rd_T39 E (m : Int)).f2) rfl) 3 (.int .i64 (rd_T39 E (m : Int)).f3) rfl); clear hw; have j0 := bc0 BE3; have j1 := bc1 BE3; have j2 := bc2 BE3; have j3 := bc3 BE3; have j4 := bf BE3 0; have j5 := bf BE3 1))
        go_roundg (E.length - (m + 1))
        case measure => have := HK.out; have := M1.out; omega
        case rel => exact ⟨m + 1, _, by first | (rw [hw1]; done) | (simp only [i64_w, hw1]; done) | (go_num; done) | (go_num; rw [hw1]; done), ⟨by have := HK.out; have := M1.out; omega⟩, ⟨by rw [rem_no E v m M1.out ST.out]; exact Kd.R_mono R3.out (fun _ _ => trivial)⟩, BG3, BR3, BO3, HB3⟩
      · have d0 : ((rd_T39 E (m : Int)).f0 != v) = true := bne_iff_ne.mpr c2
        have d1 : ((rd_T39 E (m : Int)).f0 == v) = false := beq_eq_false_iff_ne.mpr c2
        by_cases c3 : (rd_T39 E (m : Int)).f1 = v
        · have ST := ak (show stays v (rd_T39 E (m : Int)) = false by unfold stays ends; rw [c3]; simp)
          have d2 : ((rd_T39 E (m : Int)).f1 != v) = false := by rw [c3]; simp
          have d3 : ((rd_T39 E (m : Int)).f1 == v) = true := by rw [c3]; simp
          clear c2 c3
          go_wp2_with (first
            | ((with_reducible refine gate_dst (N := 8) rfl ?_); refine box_event ?hg (N := 8) ?hd (cs := #[.int .i64 0, .int .i64 0, .int .i64 0, .int .i64 0]) (t := 39) ?hr ?_; (case hd => rfl); (case hg => rfl); (case hr => first | (go_simp; done) | (go_simp; rfl)); intro ge hg w2 be hb; have HB2 := ak (below_step HB1.out hb); have BE := ak be; have GE := ak (show W.heap.size ≤ ge by rw [hg]; exact below_size HB1.out); have NE1 := ak (show go ≠ ge by rw [hg]; exact Nat.ne_of_lt (blk_lt BO1.out)); have NE2 := ak (show gr ≠ ge by rw [hg]; exact Nat.ne_of_lt (blk_lt BR1.out)); have NE3 := ak (show gg ≠ ge by rw [hg]; exact Nat.ne_of_lt (blk_lt BG1.out)); have R2 := ak (Kd.R_below (Kd.R_elderB R1.out ge (Nat.le_of_eq hg.symm)) hb); have BO2 := ak (blk_below BO1.out hb); have BR2 := ak (blk_below BR1.out hb); have BG2 := ak (blk_below BG1.out hb); clear hb be hg; have k0 := bc0 BE; have k1 := bc1 BE; have k2 := bc2 BE; have k3 := bc3 BE; have k4 := bf BE 0; have k5 := bf BE 1; have k6 := bf BE 2; have k7 := bf BE 3)
            | ((with_reducible refine gate_store (t := 39) (p := 8) rfl ?_); refine store_event (t := 39) (p := 8) (v := ?vs2) (w1 := (((w2.setCell ⟨ge, 0, none⟩ (.int .i64 (rd_T39 E (m : Int)).f0)).setCell ⟨ge, 1, none⟩ (.int .i64 (rd_T39 E (m : Int)).f1)).setCell ⟨ge, 2, none⟩ (.int .i64 (rd_T39 E (m : Int)).f2)).setCell ⟨ge, 3, none⟩ (.int .i64 (rd_T39 E (m : Int)).f3)) ?hg ?ho ?hn ?hr ?_; (case ho => rfl); (case hg => rfl); (case hn => rfl); (case hr => first | (go_simp; done) | (go_simp; rfl)); intro w3 hw; have HB3 := ak (show Below W.heap.size W w3 by rw [hw]; exact below_set (below_set (below_set (below_set (HB2.out) GE.out) GE.out) GE.out) GE.out); have BO3 := ak (show w3.heap[go]? = some (.cells #[.int .i64 (n - 1), .slice Ao (rem E v m).length co] 24 (0, 0)) by rw [hw]; exact blk_far (blk_far (blk_far (blk_far (BO2.out) NE1.out _) NE1.out _) NE1.out _) NE1.out _); have BR3 := ak (show w3.heap[gr]? = some (.cells #[.int .i64 0, .slice none 0 0] 24 (0, 0)) by rw [hw]; exact blk_far (blk_far (blk_far (blk_far (BR2.out) NE2.out _) NE2.out _) NE2.out _) NE2.out _); have BG3 := ak (show w3.heap[gg]? = some (.cells #[.int .i64 n, .slice (some ad) E.length c] 24 (0, 0)) by rw [hw]; exact blk_far (blk_far (blk_far (blk_far (BG2.out) NE3.out _) NE3.out _) NE3.out _) NE3.out _); have R3 := ak (show Kd.R k39 39 w3 W.heap.size (fun k => True ∧ k ≠ ge) (.slice Ao (rem E v m).length co) (rem E v m) by rw [hw]; exact Kd.R_far (Kd.R_far (Kd.R_far (Kd.R_far (R2.out) (fun _ hk => hk.2) _) (fun _ hk => hk.2) _) (fun _ hk => hk.2) _) (fun _ hk => hk.2) _); have BE3 := ak (show w3.heap[ge]? = some (.cells #[.int .i64 (rd_T39 E (m : Int)).f0, .int .i64 (rd_T39 E (m : Int)).f1, .int .i64 (rd_T39 E (m : Int)).f2, .int .i64 (rd_T39 E (m : Int)).f3] 39 (0, 0)) by rw [hw]; exact blk_put (blk_put (blk_put (blk_put (BE.out) 0 (.int .i64 (rd_T39 E (m : Int)).f0) rfl) 1 (.int .i64 (rd_T39 E (m : Int)).f1) rfl) 2 (.int .i64 (rd_T39 E (m : Int)).f2) rfl) 3 (.int .i64 (rd_T39 E (m : Int)).f3) rfl); clear hw; have j0 := bc0 BE3; have j1 := bc1 BE3; have j2 := bc2 BE3; have j3 := bc3 BE3; have j4 := bf BE3 0; have j5 := bf BE3 1))
          go_roundg (E.length - (m + 1))
          case measure => have := HK.out; have := M1.out; omega
          case rel => exact ⟨m + 1, _, by first | (rw [hw1]; done) | (simp only [i64_w, hw1]; done) | (go_num; done) | (go_num; rw [hw1]; done), ⟨by have := HK.out; have := M1.out; omega⟩, ⟨by rw [rem_no E v m M1.out ST.out]; exact Kd.R_mono R3.out (fun _ _ => trivial)⟩, BG3, BR3, BO3, HB3⟩
        · have ST := ak (show stays v (rd_T39 E (m : Int)) = true by unfold stays ends; rw [beq_eq_false_iff_ne.mpr c2, beq_eq_false_iff_ne.mpr c3]; rfl)
          have d2 : ((rd_T39 E (m : Int)).f1 != v) = true := bne_iff_ne.mpr c3
          have d3 : ((rd_T39 E (m : Int)).f1 == v) = false := beq_eq_false_iff_ne.mpr c3
          clear c2 c3
          go_wp2_with (first
            | ((with_reducible refine gate_dst (N := 8) rfl ?_); refine box_event ?hg (N := 8) ?hd (cs := #[.int .i64 0, .int .i64 0, .int .i64 0, .int .i64 0]) (t := 39) ?hr ?_; (case hd => rfl); (case hg => rfl); (case hr => first | (go_simp; done) | (go_simp; rfl)); intro ge hg w2 be hb; have HB2 := ak (below_step HB1.out hb); have BE := ak be; have GE := ak (show W.heap.size ≤ ge by rw [hg]; exact below_size HB1.out); have NE1 := ak (show go ≠ ge by rw [hg]; exact Nat.ne_of_lt (blk_lt BO1.out)); have NE2 := ak (show gr ≠ ge by rw [hg]; exact Nat.ne_of_lt (blk_lt BR1.out)); have NE3 := ak (show gg ≠ ge by rw [hg]; exact Nat.ne_of_lt (blk_lt BG1.out)); have R2 := ak (Kd.R_below (Kd.R_elderB R1.out ge (Nat.le_of_eq hg.symm)) hb); have BO2 := ak (blk_below BO1.out hb); have BR2 := ak (blk_below BR1.out hb); have BG2 := ak (blk_below BG1.out hb); clear hb be hg; have k0 := bc0 BE; have k1 := bc1 BE; have k2 := bc2 BE; have k3 := bc3 BE; have k4 := bf BE 0; have k5 := bf BE 1; have k6 := bf BE 2; have k7 := bf BE 3)
            | ((with_reducible refine gate_store (t := 39) (p := 8) rfl ?_); refine store_event (t := 39) (p := 8) (v := ?vs3) (w1 := (((w2.setCell ⟨ge, 0, none⟩ (.int .i64 (rd_T39 E (m : Int)).f0)).setCell ⟨ge, 1, none⟩ (.int .i64 (rd_T39 E (m : Int)).f1)).setCell ⟨ge, 2, none⟩ (.int .i64 (rd_T39 E (m : Int)).f2)).setCell ⟨ge, 3, none⟩ (.int .i64 (rd_T39 E (m : Int)).f3)) ?hg ?ho ?hn ?hr ?_; (case ho => rfl); (case hg => rfl); (case hn => rfl); (case hr => first | (go_simp; done) | (go_simp; rfl)); intro w3 hw; have HB3 := ak (show Below W.heap.size W w3 by rw [hw]; exact below_set (below_set (below_set (below_set (HB2.out) GE.out) GE.out) GE.out) GE.out); have BO3 := ak (show w3.heap[go]? = some (.cells #[.int .i64 (n - 1), .slice Ao (rem E v m).length co] 24 (0, 0)) by rw [hw]; exact blk_far (blk_far (blk_far (blk_far (BO2.out) NE1.out _) NE1.out _) NE1.out _) NE1.out _); have BR3 := ak (show w3.heap[gr]? = some (.cells #[.int .i64 0, .slice none 0 0] 24 (0, 0)) by rw [hw]; exact blk_far (blk_far (blk_far (blk_far (BR2.out) NE2.out _) NE2.out _) NE2.out _) NE2.out _); have BG3 := ak (show w3.heap[gg]? = some (.cells #[.int .i64 n, .slice (some ad) E.length c] 24 (0, 0)) by rw [hw]; exact blk_far (blk_far (blk_far (blk_far (BG2.out) NE3.out _) NE3.out _) NE3.out _) NE3.out _); have R3 := ak (show Kd.R k39 39 w3 W.heap.size (fun k => True ∧ k ≠ ge) (.slice Ao (rem E v m).length co) (rem E v m) by rw [hw]; exact Kd.R_far (Kd.R_far (Kd.R_far (Kd.R_far (R2.out) (fun _ hk => hk.2) _) (fun _ hk => hk.2) _) (fun _ hk => hk.2) _) (fun _ hk => hk.2) _); have BE3 := ak (show w3.heap[ge]? = some (.cells #[.int .i64 (rd_T39 E (m : Int)).f0, .int .i64 (rd_T39 E (m : Int)).f1, .int .i64 (rd_T39 E (m : Int)).f2, .int .i64 (rd_T39 E (m : Int)).f3] 39 (0, 0)) by rw [hw]; exact blk_put (blk_put (blk_put (blk_put (BE.out) 0 (.int .i64 (rd_T39 E (m : Int)).f0) rfl) 1 (.int .i64 (rd_T39 E (m : Int)).f1) rfl) 2 (.int .i64 (rd_T39 E (m : Int)).f2) rfl) 3 (.int .i64 (rd_T39 E (m : Int)).f3) rfl); clear hw; have j0 := bc0 BE3; have j1 := bc1 BE3; have j2 := bc2 BE3; have j3 := bc3 BE3; have j4 := bf BE3 0; have j5 := bf BE3 1)
            | (go_at_call 49; (with_reducible refine (refMoved.calls (rd_T39 E (m : Int)).f0 v _ F00.out F01.out).mono ?_); rintro e w' ⟨rfl, hh⟩; rw [hh]; clear hh w')
            | (go_at_call 49; (with_reducible refine (refMoved.calls (rd_T39 E (m : Int)).f1 v _ F10.out F11.out).mono ?_); rintro e w' ⟨rfl, hh⟩; rw [hh]; clear hh w')
            | ((with_reducible refine gate_store (t := 3) (p := 48) rfl ?_); refine store_event (t := 3) (p := 48) (v := ?vt) (w1 := w3.setCell ⟨ge, 0, none⟩ (.int .i64 (decv v (rd_T39 E (m : Int)).f0))) ?hg ?ho ?hn ?hr ?_; (case ho => rfl); (case hg => rfl); (case hn => rfl); (case hr => first | (go_simp; done) | (go_simp; rfl)); intro w4 hw; have HB4 := ak (show Below W.heap.size W w4 by rw [hw]; exact below_set (HB3.out) GE.out); have BO4 := ak (show w4.heap[go]? = some (.cells #[.int .i64 (n - 1), .slice Ao (rem E v m).length co] 24 (0, 0)) by rw [hw]; exact blk_far (BO3.out) NE1.out _); have BR4 := ak (show w4.heap[gr]? = some (.cells #[.int .i64 0, .slice none 0 0] 24 (0, 0)) by rw [hw]; exact blk_far (BR3.out) NE2.out _); have BG4 := ak (show w4.heap[gg]? = some (.cells #[.int .i64 n, .slice (some ad) E.length c] 24 (0, 0)) by rw [hw]; exact blk_far (BG3.out) NE3.out _); have R4 := ak (show Kd.R k39 39 w4 W.heap.size (fun k => True ∧ k ≠ ge) (.slice Ao (rem E v m).length co) (rem E v m) by rw [hw]; exact Kd.R_far (R3.out) (fun _ hk => hk.2) _); have BE4 := ak (show w4.heap[ge]? = some (.cells #[.int .i64 (decv v (rd_T39 E (m : Int)).f0), .int .i64 (rd_T39 E (m : Int)).f1, .int .i64 (rd_T39 E (m : Int)).f2, .int .i64 (rd_T39 E (m : Int)).f3] 39 (0, 0)) by rw [hw]; exact blk_put BE3.out 0 _ rfl); clear hw; have l0 := bc0 BE4; have l1 := bc1 BE4; have l5 := bf BE4 1)
            | ((with_reducible refine gate_store (t := 3) (p := 53) rfl ?_); refine store_event (t := 3) (p := 53) (v := ?vu) (w1 := w4.setCell ⟨ge, 1, none⟩ (.int .i64 (decv v (rd_T39 E (m : Int)).f1))) ?hg ?ho ?hn ?hr ?_; (case ho => rfl); (case hg => rfl); (case hn => rfl); (case hr => first | (go_simp; done) | (go_simp; rfl)); intro w5 hw; have HB5 := ak (show Below W.heap.size W w5 by rw [hw]; exact below_set (HB4.out) GE.out); have BO5 := ak (show w5.heap[go]? = some (.cells #[.int .i64 (n - 1), .slice Ao (rem E v m).length co] 24 (0, 0)) by rw [hw]; exact blk_far (BO4.out) NE1.out _); have BR5 := ak (show w5.heap[gr]? = some (.cells #[.int .i64 0, .slice none 0 0] 24 (0, 0)) by rw [hw]; exact blk_far (BR4.out) NE2.out _); have BG5 := ak (show w5.heap[gg]? = some (.cells #[.int .i64 n, .slice (some ad) E.length c] 24 (0, 0)) by rw [hw]; exact blk_far (BG4.out) NE3.out _); have R5 := ak (show Kd.R k39 39 w5 W.heap.size (fun k => True ∧ k ≠ ge) (.slice Ao (rem E v m).length co) (rem E v m) by rw [hw]; exact Kd.R_far (R4.out) (fun _ hk => hk.2) _); have BE5 := ak (show w5.heap[ge]? = some (.cells #[.int .i64 (decv v (rd_T39 E (m : Int)).f0), .int .i64 (decv v (rd_T39 E (m : Int)).f1), .int .i64 (rd_T39 E (m : Int)).f2, .int .i64 (rd_T39 E (m : Int)).f3] 39 (0, 0)) by rw [hw]; exact blk_put BE4.out 1 _ rfl); clear hw; have o0 := bc0 BE5; have o1 := bc1 BE5; have o2 := bc2 BE5; have o3 := bc3 BE5; have o4 := bc1 BO5; have o5 := bf BO5 1)
            | ((with_reducible refine gate_builtin (b := .append) (xs := #[.tmp 55, .tmp 57]) rfl ?_); at_builtin; refine Kd.R_append k39 (w0 := W) W.heap.size rfl (.tmp 55) (.tmp 57) 22 39 (.agg #[(.int .i64 0), (.int .i64 0), (.int .i64 0), (.int .i64 0)]) 32 rfl Try.underlying22 info39 rfl (by decide) (by omega) (.slice Ao (rem E v m).length co) (rem E v m) (decE v (rd_T39 E (m : Int))) [.int .i64 (decv v (rd_T39 E (m : Int)).f0), .int .i64 (decv v (rd_T39 E (m : Int)).f1), .int .i64 (rd_T39 E (m : Int)).f2, .int .i64 (rd_T39 E (m : Int)).f3] (fun _ => True) (fun _ => False) rfl (by first | (go_simp; done) | (go_simp; rfl)) ?aP (fun _ hk => hk.elim) (fun _ _ => trivial) ?aO ?aB ?aS ?aL ?_; (case aP => exact k39_mkM _ _ _ (decE v (rd_T39 E (m : Int)))); (case aB => exact HB5.out); (case aO => exact Kd.R_mono R5.out (fun _ _ => trivial)); (case aS => exact below_size HB5.out); (case aL => exact AL.out); intro v7 w7 ho hb hg hat; obtain ⟨A7, c7, e7⟩ := Kd.R_slice ho; rw [List.length_append, List.length_singleton] at e7; subst e7; have R7 := ak ho; have HB7 := ak hb; have BO7 := ak (blk_grown BO5.out hg (Kd.R_ne R5.out BO5.out (by decide))); have BR7 := ak (blk_grown BR5.out hg (Kd.R_ne R5.out BR5.out (by decide))); have BG7 := ak (blk_grown BG5.out hg (Kd.R_ne R5.out BG5.out (by decide))); clear ho hb hg hat; have q0 := bc1 BO7; have q1 := bf BO7 1)
            | ((with_reducible refine gate_store (t := 22) (p := 59) rfl ?_); refine store_event (t := 22) (p := 59) (v := ?vp) (w1 := w7.setCell ⟨go, 1, none⟩ (.slice A7 ((rem E v m).length + 1) c7)) ?hg ?ho ?hn ?hr ?_; (case ho => rfl); (case hg => rfl); (case hn => rfl); (case hr => first | (go_simp; done) | (go_simp; rfl)); intro w8 hw; have HB8 := ak (show Below W.heap.size W w8 by rw [hw]; exact below_set HB7.out GO.out); have BO8 := ak (show w8.heap[go]? = some (.cells #[.int .i64 (n - 1), .slice A7 ((rem E v m).length + 1) c7] 24 (0, 0)) by rw [hw]; exact blk_put BO7.out 1 _ rfl); have BR8 := ak (show w8.heap[gr]? = some (.cells #[.int .i64 0, .slice none 0 0] 24 (0, 0)) by rw [hw]; exact blk_far BR7.out NO1.out _); have BG8 := ak (show w8.heap[gg]? = some (.cells #[.int .i64 n, .slice (some ad) E.length c] 24 (0, 0)) by rw [hw]; exact blk_far BG7.out NO2.out _); have R8 := ak (show Kd.R k39 39 w8 W.heap.size (fun _ => True) (.slice A7 ((rem E v m).length + 1) c7) (rem E v m ++ [decE v (rd_T39 E (m : Int))]) by rw [hw]; exact Kd.R_set R7.out BO7.out (by decide) 1 _); clear hw))
          --HERE
          go_roundg (E.length - (m + 1))
          case measure => have := HK.out; have := M1.out; omega
          case rel => exact ⟨m + 1, _, by first | (rw [hw1]; done) | (simp only [i64_w, hw1]; done) | (go_num; done) | (go_num; rw [hw1]; done), ⟨by have := HK.out; have := M1.out; omega⟩, ⟨by rw [rem_yes E v m M1.out ST.out]; exact R8.out⟩, BG8, BR8, BO8, HB8⟩
    · have c1a : decide (m < E.length) = false := decide_eq_false c1
      have c1b : decide ((m : Int) < (E.length : Int)) = false := decide_eq_false (by omega)
      have EI := ak (show rem E v m = (E.filter (stays v)).map (decE v) by rw [show m = E.length by have := HK.out; omega]; exact rem_all E v)
      clear c1
      have z0 := bc0 BO1
      have z1 := bc1 BO1
      have z2 := bc0 BR1
      have z3 := bc1 BR1
      have z4 := bf BR1 0
      have z5 := bf BR1 1
      go_wp2_with (first
        | ((with_reducible refine gate_store (t := 24) (p := 4) rfl ?_); refine store_event (t := 24) (p := 4) (v := ?vf) (w1 := (wr.setCell ⟨gr, 0, none⟩ (.int .i64 (n - 1))).setCell ⟨gr, 1, none⟩ (.slice Ao (rem E v m).length co)) ?hg ?ho ?hn ?hr ?_; (case ho => rfl); (case hg => rfl); (case hn => rfl); (case hr => first | (go_simp; done) | (go_simp; rfl)); intro w9 hw; have HB9 := ak (show Below W.heap.size W w9 by rw [hw]; exact below_set (below_set HB1.out GR.out) GR.out); have BR9 := ak (show w9.heap[gr]? = some (.cells #[.int .i64 (n - 1), .slice Ao (rem E v m).length co] 24 (0, 0)) by rw [hw]; exact blk_put (blk_put BR1.out 0 _ rfl) 1 _ rfl); have R9 := ak (show Kd.R k39 39 w9 W.heap.size (fun _ => True) (.slice Ao (rem E v m).length co) (rem E v m) by rw [hw]; exact Kd.R_set (Kd.R_set R1.out BR1.out (by decide) 0 _) (blk_put BR1.out 0 _ rfl) (by decide) 1 _); clear hw; have y0 := bc0 BR9; have y1 := bc1 BR9))
      rw [← EI.out]
      exact bodyPost_ret (v := .tuple #[.agg #[.int .i64 (n - 1), .slice Ao (rem E v m).length co], .int .i64 0]) (by simp [results, Try.results46, go_sem, y0, y1]) rfl ⟨_, _, rfl, HB9.out, R9.out⟩
theorem refCutNode.calls (n : Int) (A : Option Addr) (c : Nat) (E : List S39) (v : Int) (W : World) (hr : Kd.C k39 W A E.length E) (hc : E.length ≤ c) (hn : n ≤ 1024) (hl : E.length ≤ 4096) (he : ∀ e ∈ E, 0 ≤ e.f0 ∧ e.f0 < n ∧ 0 ≤ e.f1 ∧ e.f1 < n) :
    Calls Try.prog 46 #[.agg #[.int .i64 n, .slice A E.length c], .int .i64 v] W fun e w' => ∃ (A' : Option Addr) (c' : Nat), e = .returned (.tuple #[.agg #[.int .i64 (cutN n E v).2.1, .slice A' (cutN n E v).2.2.length c'], .int .i64 (cutN n E v).1]) ∧ Below W.heap.size W w' ∧ Res W w' A c E A' c' (cutN n E v).2.2 := by
  unfold cutN
  by_cases h : 0 ≤ v ∧ v < n
  · rw [if_pos h]
    refine (refCutNode.did n A c E v W hr hc h.1 h.2 hn hl he).mono ?_
    rintro e w' ⟨A', c', rfl, hb, r⟩
    exact ⟨A', c', rfl, hb, .inr r⟩
  · rw [if_neg h]
    refine (refCutNode.out n A c E v W h).mono ?_
    rintro e w' ⟨rfl, hb⟩
    exact ⟨A, c, rfl, hb, .inl ⟨rfl, rfl, rfl⟩⟩
end Go.Proofs.Ytpmclhkednehhaa.Q
