import Derived.Test.YtpmclhkednehhaaQ2
import Derived.Test.YtpmclhkednehhaaNetT
/- An edge is cut from a net; the edges of which something is so, deleted: typed by hand. -/
set_option linter.unusedVariables false
set_option linter.unusedSimpArgs false
namespace Go.Proofs.Ytpmclhkednehhaa.Q
open Go.RowKit Go.Proofs.YtpmclhkednehhaaW.PrintWords Go.Proofs.YtpmclhkednehhaaW.PrintLast Go.Proofs.YtpmclhkednehhaaW.PrintMore
set_option maxHeartbeats 8000000 in
set_option maxRecDepth 100000 in
theorem Net_CutEdge.out (p : Nat) (n : Int) (A : Option Addr) (cap : Nat) (E : List S39) (i : Int) (W : World) (h : W.heap[p]? = some (.cells #[.int .i64 n, .slice A E.length cap] 44 (0, 0))) (hi : (decide (0 ≤ i) && decide (i < (E.length : Int))) = false) :
    Calls Try.prog 25 #[.pointer (some ⟨p, 0, none⟩), .int .i64 i] W fun e w' => e = .returned (.int .i64 32) ∧ Below W.heap.size W w' := by
  have hu44 := Try.underlying44
  have hu42 := Try.underlying42
  have HI := ak hi
  have HP := ak h
  have HB := ak (Below.refl W.heap.size W)
  clear h hi
  go_enter Try.func25, Try.ntmps25
  go_wp2_with (first
    | (go_at_call 38; (with_reducible refine (shape_edge.tell p A E.length cap i _ (bc1 HP) false HI.out).mono ?_); rintro e w' ⟨rfl, rfl⟩))
  go_ret
  exact ⟨rfl, HB.out⟩
set_option maxHeartbeats 8000000 in
set_option maxRecDepth 100000 in
theorem Net_CutEdge.did (w0 : World) (p : Nat) (n : Int) (A : Option Addr) (cap : Nat) (E : List S39) (i : Int) (W : World) (h : NS w0 p n (.slice A E.length cap) E W) (i0 : 0 ≤ i) (i1 : i < (E.length : Int)) (hl : E.length ≤ 4096) :
    Calls Try.prog 25 #[.pointer (some ⟨p, 0, none⟩), .int .i64 i] W fun e w' => e = .returned (.int .i64 0) ∧ Did w0 W w' p (.slice A E.length cap) n (E.eraseIdx i.toNat) := by
  have hu44 := Try.underlying44
  have hu42 := Try.underlying42
  have hu22 := Try.underlying22
  obtain ⟨j, rfl⟩ := Int.eq_ofNat_of_zero_le i0
  obtain ⟨b, cp, ea, -⟩ := Kd.R_form h.row (by omega)
  injection ea with e1 e2 e3
  subst e1
  clear e2 e3
  have N0 := ak h
  have HI := ak (show (decide (0 ≤ (j : Int)) && decide ((j : Int) < (E.length : Int))) = true by rw [decide_eq_true i0, decide_eq_true i1]; rfl)
  have hj : j < E.length := by omega
  have HJ := ak hj
  have HL := ak hl
  have NB := ak (show some p ≠ some b from Kd.R_ne h.row h.bp (by decide))
  have k0 : W.cell? ⟨p, 1, none⟩ = some (.slice (some ⟨b, 0, none⟩) E.length cap) := h.c1
  have s1 : Go.RowKit.wrap64 ((j : Int) + 1) = (j : Int) + 1 := by unfold Go.RowKit.wrap64; omega
  have s2 : IntKind.i64.wrap ((j : Int) + 1) = (j : Int) + 1 := by rw [i64_w]; exact s1
  clear h hl hj
  go_enter Try.func25, Try.ntmps25
  go_wp2_with (first
    | (go_at_call 38; (with_reducible refine (shape_edge.tell p _ E.length cap (j : Int) _ N0.out.c1 true HI.out).mono ?_); rintro e w' ⟨rfl, rfl⟩)
    | (go_at_call 39; refine ((slices_Delete.one w0 w0.heap.size b cap j E (fun _ => True) _ N0.out.row N0.out.below (below_size N0.out.below) HJ.out HL.out).mono ?_); rintro e w2 ⟨rfl, h1, h2, h3⟩; have R2 := ak h1; have B2 := ak h2; have K2 := ak h3; clear h1 h2 h3; have BP2 := ak (Did.blk (v := .slice (some ⟨b, 0, none⟩) E.length cap) (p := b) K2.out N0.out.bp (fun e => NB.out (by rw [e])) NB.out); have k1 := bc1 BP2; have k2 := bf BP2 1))
  go_ret
  have BS := ak (show w0.heap.size ≤ b from Kd.R_base N0.out.row b rfl)
  refine ⟨rfl, some ⟨b, 0, none⟩, cap, ?_, ?_, .inl rfl⟩
  · rw [Int.toNat_natCast, List.length_eraseIdx_of_lt HJ.out]
    exact ⟨below_set B2.out N0.out.p0, blk_put BP2.out 1 _ rfl, N0.out.p0, Kd.R_set R2.out BP2.out (by decide) 1 _⟩
  · exact keep_trans ⟨K2.out.1, fun k hk h1 h2 => K2.out.2 k hk (fun e => h2 (by rw [e]; rfl)) h2⟩ (keep_set _ _ _ _ _)
/-- What CutEdge answers, and the edges then. -/
def cutI (E : List S39) (i : Int) : Int × List S39 := if 0 ≤ i ∧ i < (E.length : Int) then (0, E.eraseIdx i.toNat) else (32, E)
theorem Net_CutEdge.calls (w0 : World) (p : Nat) (n : Int) (A : Option Addr) (cap : Nat) (E : List S39) (i : Int) (W : World) (h : NS w0 p n (.slice A E.length cap) E W) (hl : E.length ≤ 4096) :
    Calls Try.prog 25 #[.pointer (some ⟨p, 0, none⟩), .int .i64 i] W fun e w' => e = .returned (.int .i64 (cutI E i).1) ∧ Did w0 W w' p (.slice A E.length cap) n (cutI E i).2 := by
  unfold cutI
  by_cases a : 0 ≤ i ∧ i < (E.length : Int)
  · rw [if_pos a]
    exact Net_CutEdge.did w0 p n A cap E i W h a.1 a.2 hl
  · rw [if_neg a]
    refine (Net_CutEdge.out p n A cap E i W h.bp (by rw [Bool.and_eq_false_iff, decide_eq_false_iff_not, decide_eq_false_iff_not]; omega)).mono ?_
    rintro e w' ⟨rfl, hb⟩
    exact ⟨rfl, Did.same h hb⟩
end Go.Proofs.Ytpmclhkednehhaa.Q
/- The edges at a node, found and deleted: typed by hand. -/
set_option linter.unusedVariables false
set_option linter.unusedSimpArgs false
namespace Go.Proofs.Ytpmclhkednehhaa.Q
open Go.RowKit Go.Proofs.YtpmclhkednehhaaW.PrintWords Go.Proofs.YtpmclhkednehhaaW.PrintLast Go.Proofs.YtpmclhkednehhaaW.PrintMore
/-- Is a node at an end of an edge? -/
def ends (v : Int) (e : S39) : Bool := e.f0 == v || e.f1 == v
theorem Net_CutNode_1.calls (e : S39) (gv : Nat) (v : Int) (W : World) (k0 : W.cell? ⟨gv, 0, none⟩ = some (.int .i64 v)) :
    Calls Try.prog 41 #[.agg #[.int .i64 e.f0, .int .i64 e.f1, .int .i64 e.f2, .int .i64 e.f3], .pointer (some ⟨gv, 0, none⟩)] W fun x w' => x = .returned (.bool (ends v e)) ∧ Below W.heap.size W w' := by
  have hu39 := Try.underlying39
  have KV := ak k0
  have HB := ak (Below.refl W.heap.size W)
  clear k0
  unfold ends
  by_cases c : e.f0 = v
  · have c1 : (e.f0 == v) = true := beq_iff_eq.mpr c
    rw [c1, Bool.true_or]
    clear c
    go_enter Try.func41, Try.ntmps41
    go_wp2_with (first
      | ((with_reducible refine gate_dst (N := 2) rfl ?_); refine box_event ?hg (N := 2) ?hd (cs := #[.int .i64 e.f0, .int .i64 e.f1, .int .i64 e.f2, .int .i64 e.f3]) (t := 39) ?hr ?_; (case hd => rfl); (case hg => rfl); (case hr => first | (go_simp; done) | (go_simp; rfl)); intro gg hg w1 bg hb; have HB1 := ak (below_step HB.out hb); have BG := ak bg; have k1 := bc0 BG; have k3 := bc1 BG; have k2 : w1.cell? ⟨gv, 0, none⟩ = some (.int .i64 v) := (hb.cell (World.block_lt_of_cell? W _ KV.out)).trans KV.out; clear hb bg hg))
    go_ret
    exact ⟨rfl, HB1.out⟩
  · have c1 : (e.f0 == v) = false := beq_eq_false_iff_ne.mpr c
    rw [c1, Bool.false_or]
    clear c
    go_enter Try.func41, Try.ntmps41
    go_wp2_with (first
      | ((with_reducible refine gate_dst (N := 2) rfl ?_); refine box_event ?hg (N := 2) ?hd (cs := #[.int .i64 e.f0, .int .i64 e.f1, .int .i64 e.f2, .int .i64 e.f3]) (t := 39) ?hr ?_; (case hd => rfl); (case hg => rfl); (case hr => first | (go_simp; done) | (go_simp; rfl)); intro gg hg w1 bg hb; have HB1 := ak (below_step HB.out hb); have BG := ak bg; have k1 := bc0 BG; have k3 := bc1 BG; have k2 : w1.cell? ⟨gv, 0, none⟩ = some (.int .i64 v) := (hb.cell (World.block_lt_of_cell? W _ KV.out)).trans KV.out; clear hb bg hg))
    go_ret
    exact ⟨rfl, HB1.out⟩
/-- Where the first edge stands of which something is so; -1: nowhere. -/
def First (p : S39 → Bool) (E : List S39) (r : Int) : Prop := (r = -1 ∧ ∀ i : Nat, i < E.length → p (rd_T39 E (i : Int)) = false) ∨ ∃ i : Nat, i < E.length ∧ r = (i : Int) ∧ p (rd_T39 E (i : Int)) = true ∧ ∀ j : Nat, j < i → p (rd_T39 E (j : Int)) = false
set_option maxHeartbeats 4000000 in
set_option maxRecDepth 100000 in
theorem slices_IndexFunc.ends (gv : Nat) (v : Int) (A : Option Addr) (cap : Nat) (E : List S39) (W : World) (hr : Kd.C k39 W A E.length E) (hl : E.length ≤ 4096) (hv : W.cell? ⟨gv, 0, none⟩ = some (.int .i64 v)) :
    Calls Try.prog 48 #[.slice A E.length cap, .func (.func 41) #[] #[.pointer (some ⟨gv, 0, none⟩)]] W fun x w' => ∃ r, x = .returned (.int .i64 r) ∧ First (Q.ends v) E r ∧ Below W.heap.size W w' := by
  have hu39 := Try.underlying39
  have LN := ak hl
  have HR := ak hr
  have HV := ak hv
  have HB := ak (Below.refl W.heap.size W)
  clear hl hr hv
  go_enter Try.func48, Try.ntmps48
  go_wp2
  go_loopg [8] E.length (fun kq v8 w' => ∃ i : Nat, v8 = .int .i64 (i : Int) ∧ Aside0 (kq + i = E.length) ∧ Aside0 (∀ j : Nat, j < i → Q.ends v (rd_T39 E (j : Int)) = false) ∧ Aside0 (Below W.heap.size W w'))
  case atStart => exact ⟨0, rfl, ⟨rfl⟩, ⟨fun j hj => absurd hj (by omega)⟩, HB⟩
  case round =>
    clear HB
    obtain ⟨i, rfl, HK, HN, HB1⟩ := hrel
    by_cases c1 : i < E.length
    · have c1a : decide (i < E.length) = true := decide_eq_true c1
      have c1b : decide ((i : Int) < (E.length : Int)) = true := decide_eq_true (by omega)
      have C1 := ak c1
      have p0 : 0 ≤ (i : Int) := by omega
      have q0 : (i : Int) < (E.length : Int) := by omega
      obtain ⟨ad, e1, k1, k2, k3, k4⟩ := at_T39 HR.out (i : Int) p0 q0
      cases e1
      replace k1 := (HB1.out.cell (World.block_lt_of_cell? W _ k1)).trans k1
      replace k2 := (HB1.out.cell (World.block_lt_of_cell? W _ k2)).trans k2
      replace k3 := (HB1.out.cell (World.block_lt_of_cell? W _ k3)).trans k3
      replace k4 := (HB1.out.cell (World.block_lt_of_cell? W _ k4)).trans k4
      rw [Int.toNat_natCast] at k1 k2 k3 k4
      have hw1 : Go.RowKit.wrap64 ((i : Int) + 1) = ((i + 1 : Nat) : Int) := by have := LN.out; unfold Go.RowKit.wrap64; omega
      have hv3 : wr.cell? ⟨gv, 0, none⟩ = some (.int .i64 v) := (HB1.out.cell (World.block_lt_of_cell? W _ HV.out)).trans HV.out
      have HV3 := ak hv3
      clear hv3
      by_cases c2 : Q.ends v (rd_T39 E (i : Int)) = true
      · have C2 := ak c2
        clear c2
        go_wp2_with (first
          | (go_at_call 41; (with_reducible refine (Net_CutNode_1.calls (rd_T39 E (i : Int)) gv v _ HV3.out).mono ?_); rintro e w4 ⟨rfl, hb⟩; rw [C2.out]; have HB4 := ak (below_step HB1.out hb); clear hb))
        go_ret
        exact ⟨_, rfl, .inr ⟨i, C1.out, rfl, C2.out, HN.out⟩, HB4.out⟩
      · have C2 := ak (show Q.ends v (rd_T39 E (i : Int)) = false by simpa using c2)
        clear c2
        go_wp2_with (first
          | (go_at_call 41; (with_reducible refine (Net_CutNode_1.calls (rd_T39 E (i : Int)) gv v _ HV3.out).mono ?_); rintro e w4 ⟨rfl, hb⟩; rw [C2.out]; have HB4 := ak (below_step HB1.out hb); clear hb))
        go_roundg (E.length - (i + 1))
        case measure => have := HK.out; omega
        case rel =>
          refine ⟨i + 1, by first | (rw [hw1]; done) | (simp only [i64_w, hw1]; done) | (go_num; done) | (go_num; rw [hw1]; done), ⟨by have := HK.out; omega⟩, ⟨fun j hj => ?_⟩, HB4⟩
          by_cases e : j = i
          · subst e; exact C2.out
          · exact HN.out j (by omega)
    · have c1a : decide (i < E.length) = false := decide_eq_false c1
      have c1b : decide ((i : Int) < (E.length : Int)) = false := decide_eq_false (by omega)
      have ei : i = E.length := by have := HK.out; omega
      have EI := ak ei
      clear c1 ei
      go_wp2
      go_ret
      exact ⟨_, rfl, .inl ⟨rfl, fun j hj => HN.out j (by rw [EI.out]; exact hj)⟩, HB1.out⟩
end Go.Proofs.Ytpmclhkednehhaa.Q
/- The edges at a node are deleted from a row: typed by hand. -/
set_option linter.unusedVariables false
set_option linter.unusedSimpArgs false
namespace Go.Proofs.Ytpmclhkednehhaa.Q
open Go.RowKit Go.Proofs.YtpmclhkednehhaaW.PrintWords Go.Proofs.YtpmclhkednehhaaW.PrintLast Go.Proofs.YtpmclhkednehhaaW.PrintMore
section
variable {W : World} {base b m cap : Nat} {ok : Nat → Prop} {X : List S39}
theorem row_cells (h : Kd.R k39 39 W base ok (.slice (some ⟨b, 0, none⟩) m cap) X) (i : Nat) (h1 : i < m) :
    (W.cell? ⟨b, i * 4, none⟩ = some (.int .i64 (rd_T39 X (i : Int)).f0) ∧ W.cell? ⟨b, i * 4 + 1, none⟩ = some (.int .i64 (rd_T39 X (i : Int)).f1) ∧ W.cell? ⟨b, i * 4 + 2, none⟩ = some (.int .i64 (rd_T39 X (i : Int)).f2) ∧ W.cell? ⟨b, i * 4 + 3, none⟩ = some (.int .i64 (rd_T39 X (i : Int)).f3)) ∧ W.frozen? ⟨b, i * 4, none⟩ = false ∧ W.frozen? ⟨b, i * 4 + 1, none⟩ = false ∧ W.frozen? ⟨b, i * 4 + 2, none⟩ = false ∧ W.frozen? ⟨b, i * 4 + 3, none⟩ = false := by
  obtain ⟨c, hl, hM, hc, hf⟩ := Kd.R_elem h z39 (i : Int) (by omega) (by omega)
  obtain rfl := k39_openM hM
  rw [Int.toNat_natCast] at hc hf
  exact ⟨⟨hc 0 _ rfl, hc 1 _ rfl, hc 2 _ rfl, hc 3 _ rfl⟩, hf 0, hf 1, hf 2, hf 3⟩
theorem row_put (h : Kd.R k39 39 W base ok (.slice (some ⟨b, 0, none⟩) m cap) X) (i : Nat) (h1 : i < m) (x : S39) :
    Kd.R k39 39 ((((W.setCell ⟨b, i * 4, none⟩ (.int .i64 x.f0)).setCell ⟨b, i * 4 + 1, none⟩ (.int .i64 x.f1)).setCell ⟨b, i * 4 + 2, none⟩ (.int .i64 x.f2)).setCell ⟨b, i * 4 + 3, none⟩ (.int .i64 x.f3)) base ok (.slice (some ⟨b, 0, none⟩) m cap) (X.set i x) ∧
    W.grownBy ((((W.setCell ⟨b, i * 4, none⟩ (.int .i64 x.f0)).setCell ⟨b, i * 4 + 1, none⟩ (.int .i64 x.f1)).setCell ⟨b, i * 4 + 2, none⟩ (.int .i64 x.f2)).setCell ⟨b, i * 4 + 3, none⟩ (.int .i64 x.f3)) (some b) := by
  obtain ⟨c, hl, hM, hc, hf⟩ := Kd.R_elem h z39 (i : Int) (by omega) (by omega)
  obtain ⟨a, g⟩ := Kd.R_seg h (i : Int) (by omega) (by omega) (seg := [.int .i64 x.f0, .int .i64 x.f1, .int .i64 x.f2, .int .i64 x.f3]) (j := 0) (okp := fun k => ok k ∧ k ≠ b) (x' := x) hl hc (by show 0 + 4 ≤ 4; omega) (by obtain rfl := k39_openM hM; exact k39_mkM _ _ _ x) (fun k hk => hk)
  rw [Int.toNat_natCast] at a g
  exact ⟨a, g⟩
end
theorem rd_nat (X : List S39) (i : Nat) (h : i < X.length) : rd_T39 X (i : Int) = X[i] := by
  unfold rd_T39
  rw [List.getD_eq_getElem?_getD, Int.toNat_natCast, List.getElem?_eq_getElem h]; rfl
theorem filter_step (q : S39 → Bool) (E : List S39) (j : Nat) (h : j < E.length) : (E.take (j + 1)).filter q = (E.take j).filter q ++ (if q (rd_T39 E (j : Int)) = true then [rd_T39 E (j : Int)] else []) := by
  rw [List.take_succ_eq_append_getElem h, List.filter_append, rd_nat E j h, List.filter_cons, List.filter_nil]
theorem filter_all (q : S39 → Bool) (E : List S39) (j : Nat) (hj : j ≤ E.length) (h : ∀ i : Nat, i < j → q (rd_T39 E (i : Int)) = true) : (E.take j).filter q = E.take j := by
  rw [List.filter_eq_self]
  intro e he
  obtain ⟨i, hi, rfl⟩ := List.mem_iff_getElem.mp he
  rw [List.length_take] at hi
  rw [List.getElem_take, ← rd_nat E i (by omega)]
  exact h i (by omega)
/-- What a loop of deletions has done so far. -/
structure Del (q : S39 → Bool) (E X : List S39) (i j : Nat) : Prop where
  lt : i < j
  le : j ≤ E.length
  len : X.length = E.length
  front : X.take i = (E.take j).filter q
  back : X.drop j = E.drop j
theorem Del.at {q : S39 → Bool} {E X : List S39} {i j : Nat} (h : Del q E X i j) (hj : j < E.length) : rd_T39 X (j : Int) = rd_T39 E (j : Int) := by
  rw [rd_nat X j (by rw [h.len]; exact hj), rd_nat E j hj]
  have e := congrArg (fun l => l[0]?) h.back
  simp only [List.getElem?_drop, Nat.add_zero] at e
  rw [List.getElem?_eq_getElem (by rw [h.len]; exact hj), List.getElem?_eq_getElem hj] at e
  exact Option.some.inj e
theorem Del.drop {q : S39 → Bool} {E X : List S39} {i j : Nat} (h : Del q E X i j) (hj : j < E.length) (hq : q (rd_T39 E (j : Int)) = false) : Del q E X i (j + 1) := by
  refine ⟨by have := h.lt; omega, hj, h.len, ?_, ?_⟩
  · rw [h.front, filter_step q E j hj, if_neg (by rw [hq]; decide), List.append_nil]
  · have e := congrArg (List.drop 1) h.back
    rw [List.drop_drop, List.drop_drop] at e
    exact e
theorem Del.keep {q : S39 → Bool} {E X : List S39} {i j : Nat} (h : Del q E X i j) (hj : j < E.length) (hq : q (rd_T39 E (j : Int)) = true) : Del q E (X.set i (rd_T39 E (j : Int))) (i + 1) (j + 1) := by
  have hl := h.lt
  have hx : i < X.length := by rw [h.len]; omega
  refine ⟨by omega, hj, by rw [List.length_set]; exact h.len, ?_, ?_⟩
  · rw [filter_step q E j hj, if_pos hq, ← h.front, List.take_succ_eq_append_getElem (by rw [List.length_set]; exact hx), List.getElem_set_self, List.take_set_of_le (Nat.le_refl i)]
  · rw [List.drop_set_of_lt (by omega)]
    have e := congrArg (List.drop 1) h.back
    rw [List.drop_drop, List.drop_drop] at e
    exact e
theorem Del.start {q : S39 → Bool} {E : List S39} {i : Nat} (hi : i < E.length) (h0 : q (rd_T39 E (i : Int)) = false) (h : ∀ j : Nat, j < i → q (rd_T39 E (j : Int)) = true) : Del q E E i (i + 1) := by
  refine ⟨by omega, hi, rfl, ?_, rfl⟩
  rw [filter_step q E i hi, if_neg (by rw [h0]; decide), List.append_nil, filter_all q E i (by omega) h]
theorem Del.done {q : S39 → Bool} {E X : List S39} {i j : Nat} (h : Del q E X i j) (hj : ¬ j < E.length) : X.take i = E.filter q ∧ (E.filter q).length = i ∧ i < E.length := by
  have e : j = E.length := by have := h.le; omega
  have f := h.front
  rw [e, List.take_of_length_le (Nat.le_refl _)] at f
  have hl := h.lt
  exact ⟨f, by rw [← f, List.length_take, h.len]; omega, by omega⟩
end Go.Proofs.Ytpmclhkednehhaa.Q
/- The walk of the deletion of the edges at a node: typed by hand. -/
set_option linter.unusedVariables false
set_option linter.unusedSimpArgs false
namespace Go.Proofs.Ytpmclhkednehhaa.Q
open Go.RowKit Go.Proofs.YtpmclhkednehhaaW.PrintWords Go.Proofs.YtpmclhkednehhaaW.PrintLast Go.Proofs.YtpmclhkednehhaaW.PrintMore
/-- The edges that stay. -/
def stays (v : Int) (e : S39) : Bool := !ends v e
theorem First.not {p : S39 → Bool} {E : List S39} {r : Int} (h : First p E r) (hn : ∀ i : Nat, i < E.length → p (rd_T39 E (i : Int)) = false) : r = -1 := by
  rcases h with ⟨h, _⟩ | ⟨i, hi, _, h, _⟩
  · exact h
  · rw [hn i hi] at h
    exact absurd h (by decide)
theorem First.yes {p : S39 → Bool} {E : List S39} {r : Int} (h : First p E r) (hn : ∃ i : Nat, i < E.length ∧ p (rd_T39 E (i : Int)) = true) : ∃ i : Nat, i < E.length ∧ r = (i : Int) ∧ p (rd_T39 E (i : Int)) = true ∧ ∀ j : Nat, j < i → p (rd_T39 E (j : Int)) = false := by
  rcases h with ⟨_, h⟩ | h
  · obtain ⟨i, a, c⟩ := hn
    rw [h i a] at c
    exact absurd c (by decide)
  · exact h
theorem slices_DeleteFunc.none_ (gv : Nat) (v : Int) (A : Option Addr) (cap : Nat) (E : List S39) (W : World) (hr : Kd.C k39 W A E.length E) (hl : E.length ≤ 4096) (hv : W.cell? ⟨gv, 0, none⟩ = some (.int .i64 v)) (hn : ∀ i : Nat, i < E.length → ends v (rd_T39 E (i : Int)) = false) :
    Calls Try.prog 40 #[.slice A E.length cap, .func (.func 41) #[] #[.pointer (some ⟨gv, 0, none⟩)]] W fun x w' => x = .returned (.slice A E.length cap) ∧ Below W.heap.size W w' := by
  have HR := ak hr
  have HL := ak hl
  have HV := ak hv
  have HN := ak hn
  clear hr hl hv hn
  go_enter Try.func40, Try.ntmps40
  go_wp2_with (first
    | (go_at_call 48; (with_reducible refine (slices_IndexFunc.ends gv v A cap E _ HR.out HL.out HV.out).mono ?_); rintro e w1 ⟨r, rfl, hf, hb⟩; obtain rfl := hf.not HN.out; have HB1 := ak hb; clear hf hb))
  go_ret
  exact ⟨rfl, HB1.out⟩
theorem row_far4 {W : World} {base b m cap g : Nat} {ok : Nat → Prop} {X : List S39} (h : Kd.R k39 39 W base ok (.slice (some ⟨b, 0, none⟩) m cap) X) (hg : g ≠ b) (x0 x1 x2 x3 : Value) :
    Kd.R k39 39 ((((W.setCell ⟨g, 0, none⟩ x0).setCell ⟨g, 1, none⟩ x1).setCell ⟨g, 2, none⟩ x2).setCell ⟨g, 3, none⟩ x3) base ok (.slice (some ⟨b, 0, none⟩) m cap) X := by
  obtain ⟨h0, inner, hown, hr⟩ := h
  have mv : ∀ k, k ≠ g → ((((W.setCell ⟨g, 0, none⟩ x0).setCell ⟨g, 1, none⟩ x1).setCell ⟨g, 2, none⟩ x2).setCell ⟨g, 3, none⟩ x3).heap[k]? = W.heap[k]? := fun k hk =>
    (Below.heap_setCell _ _ _ k hk).trans ((Below.heap_setCell _ _ _ k hk).trans ((Below.heap_setCell _ _ _ k hk).trans (Below.heap_setCell _ _ _ k hk)))
  exact ⟨h0, inner, own_move hown (fun k hk => mv k (fun e => by
    have hk' : b = k := by simpa [Value.ownBlock] using hk
    exact hg (by rw [hk', e]))), hr⟩
theorem keep_far4 {U W : World} {b g : Nat} {row : Option Nat} (h : KeepBut U W b row) (hg : U.heap.size ≤ g) (x0 x1 x2 x3 : Value) :
    KeepBut U ((((W.setCell ⟨g, 0, none⟩ x0).setCell ⟨g, 1, none⟩ x1).setCell ⟨g, 2, none⟩ x2).setCell ⟨g, 3, none⟩ x3) b row := by
  have mv : ∀ k, k ≠ g → ((((W.setCell ⟨g, 0, none⟩ x0).setCell ⟨g, 1, none⟩ x1).setCell ⟨g, 2, none⟩ x2).setCell ⟨g, 3, none⟩ x3).heap[k]? = W.heap[k]? := fun k hk =>
    (Below.heap_setCell _ _ _ k hk).trans ((Below.heap_setCell _ _ _ k hk).trans ((Below.heap_setCell _ _ _ k hk).trans (Below.heap_setCell _ _ _ k hk)))
  refine ⟨?_, fun k hk h1 h2 => (mv k (by omega)).trans (h.2 k hk h1 h2)⟩
  have : ((((W.setCell ⟨g, 0, none⟩ x0).setCell ⟨g, 1, none⟩ x1).setCell ⟨g, 2, none⟩ x2).setCell ⟨g, 3, none⟩ x3).heap.size = W.heap.size := by simp only [World.size_setCell]
  rw [this]
  exact h.1
theorem keep_gv {U W : World} {b g : Nat} {x : Value} (h : KeepBut U W b (some b)) (hv : U.cell? ⟨g, 0, none⟩ = some x) (hne : g ≠ b) : W.cell? ⟨g, 0, none⟩ = some x := by
  have hlt := World.block_lt_of_cell? U _ hv
  have e := h.2 g hlt hne (fun e => hne (by injection e))
  rw [← hv]
  unfold World.cell?
  rw [e]
set_option maxHeartbeats 8000000 in
set_option maxRecDepth 100000 in
theorem slices_DeleteFunc.some_ (w0 : World) (gv : Nat) (v : Int) (base b cap : Nat) (E : List S39) (ok : Nat → Prop) (W : World) (hr : Kd.R k39 39 W base ok (.slice (some ⟨b, 0, none⟩) E.length cap) E) (hB : Below base w0 W) (hbase : base ≤ W.heap.size) (hl : E.length ≤ 4096) (hv : W.cell? ⟨gv, 0, none⟩ = some (.int .i64 v)) (hne : gv ≠ b) (hn : ∃ i : Nat, i < E.length ∧ ends v (rd_T39 E (i : Int)) = true) :
    Calls Try.prog 40 #[.slice (some ⟨b, 0, none⟩) E.length cap, .func (.func 41) #[] #[.pointer (some ⟨gv, 0, none⟩)]] W fun x w' => x = .returned (.slice (some ⟨b, 0, none⟩) (E.filter (stays v)).length cap) ∧ Kd.R k39 39 w' base ok (.slice (some ⟨b, 0, none⟩) (E.filter (stays v)).length cap) (E.filter (stays v)) ∧ Below base w0 w' ∧ KeepBut W w' b (some b) := by
  have hu39 := Try.underlying39
  have R0 := ak hr
  have B0 := ak hB
  have S0 := ak hbase
  have LC := ak (Kd.R_reads' hr).2.1
  have HL := ak hl
  have HV := ak hv
  have HN := ak hn
  have NE := ak hne
  have BB := ak (show base ≤ b from Kd.R_base hr b rfl)
  clear hr hB hbase hl hv hn hne
  go_enter Try.func40, Try.ntmps40
  go_wp2_with (first
    | (go_at_call 48; (with_reducible refine (slices_IndexFunc.ends gv v _ cap E _ (Kd.R_reads' R0.out).2.2 HL.out HV.out).mono ?_); rintro e w1 ⟨r, rfl, hf, hb⟩; obtain ⟨i0, hi0, rfl, hi1, hi2⟩ := hf.yes HN.out; have D0 := ak (Del.start (q := stays v) hi0 (by unfold stays; rw [hi1]; rfl) (fun j hj => by unfold stays; rw [hi2 j hj]; rfl)); have c0 : ((i0 : Int) == -1) = false := beq_eq_false_iff_ne.mpr (by omega); have c9 : Go.RowKit.wrap64 ((i0 : Int) + 1) = ((i0 + 1 : Nat) : Int) := (by have := HL.out; unfold Go.RowKit.wrap64; omega); have R1 := ak (Kd.R_below R0.out hb); have B1 := ak (Below.trans B0.out (hb.mono S0.out)); have K1 := ak (keep_below hb b (some b)); clear hf hb hi0 hi1 hi2))
  clear R0 B0
  go_loopg [5, 6] (E.length - (i0 + 1)) (fun kq v5 v6 w' => ∃ (i j : Nat) (X : List S39), v5 = .int .i64 (i : Int) ∧ v6 = .int .i64 (j : Int) ∧ Aside0 (kq + j = E.length) ∧ Aside0 (Del (stays v) E X i j) ∧ Aside0 (Kd.R k39 39 w' base ok (.slice (some ⟨b, 0, none⟩) E.length cap) X) ∧ Aside0 (Below base w0 w') ∧ Aside0 (KeepBut W w' b (some b)))
  case atStart => exact ⟨i0, i0 + 1, E, rfl, by first | (rw [c9]; done) | (simp only [i64_w, c9]; done) | (go_num; done) | (go_num; rw [c9]; done), ⟨by have := D0.out.le; omega⟩, D0, R1, B1, K1⟩
  case round =>
    clear R1 B1 K1 D0 c0 c9
    obtain ⟨i, j, X, rfl, rfl, HK, DX, R2, B2, K2⟩ := hrel
    have WS := ak (show base ≤ wr.heap.size from Nat.le_trans S0.out K2.out.1)
    by_cases c1 : j < E.length
    · have c1a : decide (j < E.length) = true := decide_eq_true c1
      have c1b : decide ((j : Int) < (E.length : Int)) = true := decide_eq_true (by omega)
      have C1 := ak c1
      have p0 : 0 ≤ (j : Int) := by omega
      have q0 : (j : Int) < (E.length : Int) := by omega
      obtain ⟨⟨k1, k2, k3, k4⟩, -, -, -, -⟩ := row_cells R2.out j c1
      rw [DX.out.at c1] at k1 k2 k3 k4
      have hw1 : Go.RowKit.wrap64 ((j : Int) + 1) = ((j + 1 : Nat) : Int) := by have := HL.out; unfold Go.RowKit.wrap64; omega
      by_cases c2 : ends v (rd_T39 E (j : Int)) = true
      · have C2 := ak c2
        clear c2
        go_wp2_with (first
          | ((with_reducible refine gate_dst (N := 7) rfl ?_); refine box_event ?hg (N := 7) ?hd (cs := #[.int .i64 0, .int .i64 0, .int .i64 0, .int .i64 0]) (t := 39) ?hr ?_; (case hd => rfl); (case hg => rfl); (case hr => first | (go_simp; done) | (go_simp; rfl)); intro gb hg w2 bb hb; have B3 := ak (Below.trans B2.out (hb.mono WS.out)); have K3 := ak (keep_trans K2.out (keep_below hb b (some b))); have R3 := ak (Kd.R_below R2.out hb); have NB := ak (show base ≤ gb by rw [hg]; exact WS.out); have NW := ak (show W.heap.size ≤ gb by rw [hg]; exact K2.out.1); have NG := ak (show gb ≠ b from fun he => by have := Kd.R_lt R2.out b rfl; omega); have BK := ak bb; have k5 := bc0 BK; have k6 := bc1 BK; have k7 := bc2 BK; have k8 := bc3 BK; have k9 := bf BK 0; have k10 := bf BK 1; have k11 := bf BK 2; have k12 := bf BK 3; clear hb bb hg)
          | ((with_reducible refine gate_store (t := 39) (p := 7) rfl ?_); refine store_event (t := 39) (p := 7) (v := ?vs1) (w1 := ((((w2.setCell ⟨gb, 0, none⟩ (.int .i64 (rd_T39 E (j : Int)).f0)).setCell ⟨gb, 1, none⟩ (.int .i64 (rd_T39 E (j : Int)).f1)).setCell ⟨gb, 2, none⟩ (.int .i64 (rd_T39 E (j : Int)).f2)).setCell ⟨gb, 3, none⟩ (.int .i64 (rd_T39 E (j : Int)).f3))) ?hg ?ho ?hn ?hr ?_; (case ho => rfl); (case hg => rfl); (case hn => rfl); (case hr => first | (go_simp; done) | (go_simp; rfl)); intro w3 hw; have B4 := ak (show Below base w0 w3 by rw [hw]; exact (((B3.out.setCell NB.out _).setCell NB.out _).setCell NB.out _).setCell NB.out _); have bq := blk_put (blk_put (blk_put (blk_put BK.out 0 (.int .i64 (rd_T39 E (j : Int)).f0) rfl) 1 (.int .i64 (rd_T39 E (j : Int)).f1) rfl) 2 (.int .i64 (rd_T39 E (j : Int)).f2) rfl) 3 (.int .i64 (rd_T39 E (j : Int)).f3) rfl; have BK4 := ak (show w3.heap[gb]? = some (.cells #[.int .i64 (rd_T39 E (j : Int)).f0, .int .i64 (rd_T39 E (j : Int)).f1, .int .i64 (rd_T39 E (j : Int)).f2, .int .i64 (rd_T39 E (j : Int)).f3] 39 (0, 0)) by rw [hw]; exact bq); have R4 := ak (show Kd.R k39 39 w3 base ok (.slice (some ⟨b, 0, none⟩) E.length cap) X by rw [hw]; exact row_far4 R3.out NG.out _ _ _ _); have K4 := ak (show KeepBut W w3 b (some b) by rw [hw]; exact keep_far4 K3.out NW.out _ _ _ _); clear bq hw; have q5 := bc0 BK4; have q6 := bc1 BK4; have q7 := bc2 BK4; have q8 := bc3 BK4; have hv3 : w3.cell? ⟨gv, 0, none⟩ = some (.int .i64 v) := keep_gv K4.out HV.out NE.out)
          | (go_at_call 41; (with_reducible refine (Net_CutNode_1.calls (rd_T39 E (j : Int)) gv v _ hv3).mono ?_); rintro e w4 ⟨rfl, hb⟩; rw [C2.out]; have B5 := ak (Below.trans B4.out (hb.mono (Nat.le_trans S0.out K4.out.1))); have R5 := ak (Kd.R_below R4.out hb); have K5 := ak (keep_trans K4.out (keep_below hb b (some b))); have BK5 := ak (blk_below BK4.out hb); clear hb))
        go_roundg (E.length - (j + 1))
        case measure => have := HK.out; omega
        case rel => exact ⟨i, j + 1, X, rfl, by first | (rw [hw1]; done) | (simp only [i64_w, hw1]; done) | (go_num; done) | (go_num; rw [hw1]; done), ⟨by have := HK.out; omega⟩, ⟨DX.out.drop C1.out (by unfold stays; rw [C2.out]; rfl)⟩, R5, B5, K5⟩
      · have C2 := ak (show ends v (rd_T39 E (j : Int)) = false by simpa using c2)
        clear c2
        have ij : i < E.length := by have := DX.out.lt; omega
        have IJ := ak ij
        have p1 : 0 ≤ (i : Int) := by omega
        have q1 : (i : Int) < (E.length : Int) := by omega
        have hw2 : Go.RowKit.wrap64 ((i : Int) + 1) = ((i + 1 : Nat) : Int) := by have := HL.out; unfold Go.RowKit.wrap64; omega
        clear ij
        go_wp2_with (first
          | ((with_reducible refine gate_dst (N := 7) rfl ?_); refine box_event ?hg (N := 7) ?hd (cs := #[.int .i64 0, .int .i64 0, .int .i64 0, .int .i64 0]) (t := 39) ?hr ?_; (case hd => rfl); (case hg => rfl); (case hr => first | (go_simp; done) | (go_simp; rfl)); intro gb hg w2 bb hb; have B3 := ak (Below.trans B2.out (hb.mono WS.out)); have K3 := ak (keep_trans K2.out (keep_below hb b (some b))); have R3 := ak (Kd.R_below R2.out hb); have NB := ak (show base ≤ gb by rw [hg]; exact WS.out); have NW := ak (show W.heap.size ≤ gb by rw [hg]; exact K2.out.1); have NG := ak (show gb ≠ b from fun he => by have := Kd.R_lt R2.out b rfl; omega); have BK := ak bb; have k5 := bc0 BK; have k6 := bc1 BK; have k7 := bc2 BK; have k8 := bc3 BK; have k9 := bf BK 0; have k10 := bf BK 1; have k11 := bf BK 2; have k12 := bf BK 3; clear hb bb hg)
          | ((with_reducible refine gate_store (t := 39) (p := 7) rfl ?_); refine store_event (t := 39) (p := 7) (v := ?vs2) (w1 := ((((w2.setCell ⟨gb, 0, none⟩ (.int .i64 (rd_T39 E (j : Int)).f0)).setCell ⟨gb, 1, none⟩ (.int .i64 (rd_T39 E (j : Int)).f1)).setCell ⟨gb, 2, none⟩ (.int .i64 (rd_T39 E (j : Int)).f2)).setCell ⟨gb, 3, none⟩ (.int .i64 (rd_T39 E (j : Int)).f3))) ?hg ?ho ?hn ?hr ?_; (case ho => rfl); (case hg => rfl); (case hn => rfl); (case hr => first | (go_simp; done) | (go_simp; rfl)); intro w3 hw; have B4 := ak (show Below base w0 w3 by rw [hw]; exact (((B3.out.setCell NB.out _).setCell NB.out _).setCell NB.out _).setCell NB.out _); have bq := blk_put (blk_put (blk_put (blk_put BK.out 0 (.int .i64 (rd_T39 E (j : Int)).f0) rfl) 1 (.int .i64 (rd_T39 E (j : Int)).f1) rfl) 2 (.int .i64 (rd_T39 E (j : Int)).f2) rfl) 3 (.int .i64 (rd_T39 E (j : Int)).f3) rfl; have BK4 := ak (show w3.heap[gb]? = some (.cells #[.int .i64 (rd_T39 E (j : Int)).f0, .int .i64 (rd_T39 E (j : Int)).f1, .int .i64 (rd_T39 E (j : Int)).f2, .int .i64 (rd_T39 E (j : Int)).f3] 39 (0, 0)) by rw [hw]; exact bq); have R4 := ak (show Kd.R k39 39 w3 base ok (.slice (some ⟨b, 0, none⟩) E.length cap) X by rw [hw]; exact row_far4 R3.out NG.out _ _ _ _); have K4 := ak (show KeepBut W w3 b (some b) by rw [hw]; exact keep_far4 K3.out NW.out _ _ _ _); clear bq hw; have q5 := bc0 BK4; have q6 := bc1 BK4; have q7 := bc2 BK4; have q8 := bc3 BK4; have hv3 : w3.cell? ⟨gv, 0, none⟩ = some (.int .i64 v) := keep_gv K4.out HV.out NE.out)
          | (go_at_call 41; (with_reducible refine (Net_CutNode_1.calls (rd_T39 E (j : Int)) gv v _ hv3).mono ?_); rintro e w4 ⟨rfl, hb⟩; rw [C2.out]; have B5 := ak (Below.trans B4.out (hb.mono (Nat.le_trans S0.out K4.out.1))); have R5 := ak (Kd.R_below R4.out hb); have K5 := ak (keep_trans K4.out (keep_below hb b (some b))); have BK5 := ak (blk_below BK4.out hb); have u5 := bc0 BK5; have u6 := bc1 BK5; have u7 := bc2 BK5; have u8 := bc3 BK5; obtain ⟨⟨z1, z2, z3, z4⟩, z5, z6, z7, z8⟩ := row_cells R5.out i IJ.out; obtain ⟨R6_, G6_⟩ := row_put R5.out i IJ.out (rd_T39 E (j : Int)); have R6 := ak R6_; have G6 := ak G6_; clear R6_ G6_; have nb1 := NG.out; have nb2 : b ≠ gb := fun h => nb1 h.symm; clear hb))
        go_roundg (E.length - (j + 1))
        case measure => have := HK.out; omega
        case rel => exact ⟨i + 1, j + 1, X.set i (rd_T39 E (j : Int)), by first | (rw [hw2]; done) | (simp only [i64_w, hw2]; done) | (go_num; done) | (go_num; rw [hw2]; done), by first | (rw [hw1]; done) | (simp only [i64_w, hw1]; done) | (go_num; done) | (go_num; rw [hw1]; done), ⟨by have := HK.out; omega⟩, ⟨DX.out.keep C1.out (by unfold stays; rw [C2.out]; rfl)⟩, R6, ⟨B5.out.grown G6.out (Nat.le_trans S0.out K5.out.1) (fun k hk => by injection hk with hk; subst hk; exact BB.out)⟩, ⟨keep_trans K5.out (KeepBut.of_grown G6.out b)⟩⟩
    · have c1a : decide (j < E.length) = false := decide_eq_false c1
      have c1b : decide ((j : Int) < (E.length : Int)) = false := decide_eq_false (by omega)
      obtain ⟨d1, d2, d3⟩ := DX.out.done c1
      clear c1
      have d4 : ¬ cap = i := by have := LC.out; omega
      have d5 : 0 ≤ (i : Int) := by omega
      have d6 : (i : Int) ≤ (E.length : Int) := by omega
      have d7 : (i : Int) ≤ (cap : Int) := by have := LC.out; omega
      have RT := ak (Kd.R_take (m := i) R2.out (by have := DX.out.len; omega))
      have D1 := ak d1
      have D2 := ak d2
      have D3 := ak d3
      clear d1 d2
      go_wp2_with (first
        | ((with_reducible refine gate_builtin (b := .clear) (xs := #[.tmp 38]) rfl ?_); refine clear_event rfl (.tmp 38) rfl (g := b) (m := i) (cnt := E.length - i) (c2 := cap - i) (xs := X.take i) (by first | rfl | (go_simp; done)) RT.out (by have := D3.out; omega) (by have := D3.out; have := LC.out; omega) ?_; intro w5 h5 h6; have R9 := ak h5; have G9 := ak h6; clear h5 h6))
      go_ret
      rw [D2.out, ← D1.out]
      exact ⟨rfl, R9.out, B2.out.grown G9.out WS.out (fun k hk => by injection hk with hk; subst hk; exact BB.out), keep_trans K2.out (KeepBut.of_grown G9.out b)⟩
end Go.Proofs.Ytpmclhkednehhaa.Q
/- A node is cut: what its walk needs; typed by hand. -/
set_option linter.unusedVariables false
set_option linter.unusedSimpArgs false
namespace Go.Proofs.Ytpmclhkednehhaa.Q
open Go.RowKit Go.Proofs.YtpmclhkednehhaaW.PrintWords Go.Proofs.YtpmclhkednehhaaW.PrintLast Go.Proofs.YtpmclhkednehhaaW.PrintMore
theorem filter_none (v : Int) (E : List S39) (h : ∀ i : Nat, i < E.length → ends v (rd_T39 E (i : Int)) = false) : E.filter (stays v) = E := by
  have := filter_all (stays v) E E.length (Nat.le_refl _) (fun i hi => by unfold stays; rw [h i hi]; rfl)
  rwa [List.take_of_length_le (Nat.le_refl _)] at this
/-- The edges at a node are deleted from a net's row. -/
theorem slices_DeleteFunc.calls (w0 : World) (p : Nat) (n : Int) (gv : Nat) (v : Int) (A : Option Addr) (cap : Nat) (E : List S39) (W : World) (h : NS w0 p n (.slice A E.length cap) E W) (hl : E.length ≤ 4096) (hv : W.heap[gv]? = some (.cells #[.int .i64 v] 3 (0, 0))) :
    Calls Try.prog 40 #[.slice A E.length cap, .func (.func 41) #[] #[.pointer (some ⟨gv, 0, none⟩)]] W fun x w' => x = .returned (.slice A (E.filter (stays v)).length cap) ∧ NS w0 p n (.slice A E.length cap) E W ∧ w'.heap[p]? = some (.cells #[.int .i64 n, .slice A E.length cap] 44 (0, 0)) ∧ w'.heap[gv]? = some (.cells #[.int .i64 v] 3 (0, 0)) ∧ Below w0.heap.size w0 w' ∧ Kd.R k39 39 w' w0.heap.size (fun _ => True) (.slice A (E.filter (stays v)).length cap) (E.filter (stays v)) ∧ KeepBut W w' p (Value.slice A E.length cap).ownBlock := by
  have hc : W.cell? ⟨gv, 0, none⟩ = some (.int .i64 v) := (blk_cell hv 0).trans rfl
  by_cases hn : ∃ i : Nat, i < E.length ∧ ends v (rd_T39 E (i : Int)) = true
  · have hn0 := hn
    obtain ⟨i, hi, -⟩ := hn
    obtain ⟨b, cp, ea, -⟩ := Kd.R_form h.row (by omega)
    injection ea with e1 e2 e3
    subst e1
    have nv : some gv ≠ some b := Kd.R_ne h.row hv (by decide)
    have np : some p ≠ some b := Kd.R_ne h.row h.bp (by decide)
    refine (slices_DeleteFunc.some_ w0 gv v w0.heap.size b cap E (fun _ => True) W h.row h.below (below_size h.below) hl hc (fun e => nv (by rw [e])) hn0).mono ?_
    rintro x w' ⟨rfl, h1, h2, h3⟩
    exact ⟨rfl, h, (h3.2 p (blk_lt h.bp) (fun e => np (by rw [e])) np).trans h.bp, (h3.2 gv (blk_lt hv) (fun e => nv (by rw [e])) nv).trans hv, h2, h1, ⟨h3.1, fun k hk _ h5 => h3.2 k hk (fun e => h5 (by rw [e]; rfl)) h5⟩⟩
  · have hn0 : ∀ i : Nat, i < E.length → ends v (rd_T39 E (i : Int)) = false := fun i hi => by
      rcases hb : ends v (rd_T39 E (i : Int)) with _ | _
      · rfl
      · exact absurd ⟨i, hi, hb⟩ hn
    rw [filter_none v E hn0]
    refine (slices_DeleteFunc.none_ gv v A cap E W (Kd.R_reads' h.row).2.2 hl hc hn0).mono ?_
    rintro x w' ⟨rfl, hb⟩
    have q := h.later hb
    exact ⟨rfl, h, q.bp, blk_below hv hb, q.below, q.row, keep_below hb _ _⟩
/-- A number behind a node that is gone. -/
def decv (v x : Int) : Int := if x > v then x - 1 else x
def decE (v : Int) (e : S39) : S39 := ⟨decv v e.f0, decv v e.f1, e.f2, e.f3⟩
section
variable {W : World} {base b m cap : Nat} {ok : Nat → Prop} {X : List S39}
theorem row_put0 (h : Kd.R k39 39 W base ok (.slice (some ⟨b, 0, none⟩) m cap) X) (i : Nat) (h1 : i < m) (x : Int) :
    Kd.R k39 39 (W.setCell ⟨b, i * 4, none⟩ (.int .i64 x)) base ok (.slice (some ⟨b, 0, none⟩) m cap) (X.set i ⟨x, (rd_T39 X (i : Int)).f1, (rd_T39 X (i : Int)).f2, (rd_T39 X (i : Int)).f3⟩) ∧ W.grownBy (W.setCell ⟨b, i * 4, none⟩ (.int .i64 x)) (some b) := by
  obtain ⟨c, hl, hM, hc, hf⟩ := Kd.R_elem h z39 (i : Int) (by omega) (by omega)
  obtain ⟨a, g⟩ := Kd.R_seg h (i : Int) (by omega) (by omega) (seg := [.int .i64 x]) (j := 0) (okp := fun k => ok k ∧ k ≠ b) (x' := (⟨x, (rd_T39 X (i : Int)).f1, (rd_T39 X (i : Int)).f2, (rd_T39 X (i : Int)).f3⟩ : S39)) hl hc (by show 0 + 1 ≤ 4; omega) (by obtain rfl := k39_openM hM; exact k39_mkM _ _ _ (⟨x, (rd_T39 X (i : Int)).f1, (rd_T39 X (i : Int)).f2, (rd_T39 X (i : Int)).f3⟩ : S39)) (fun k hk => hk)
  rw [Int.toNat_natCast] at a g
  exact ⟨a, g⟩
theorem row_put1 (h : Kd.R k39 39 W base ok (.slice (some ⟨b, 0, none⟩) m cap) X) (i : Nat) (h1 : i < m) (x : Int) :
    Kd.R k39 39 (W.setCell ⟨b, i * 4 + 1, none⟩ (.int .i64 x)) base ok (.slice (some ⟨b, 0, none⟩) m cap) (X.set i ⟨(rd_T39 X (i : Int)).f0, x, (rd_T39 X (i : Int)).f2, (rd_T39 X (i : Int)).f3⟩) ∧ W.grownBy (W.setCell ⟨b, i * 4 + 1, none⟩ (.int .i64 x)) (some b) := by
  obtain ⟨c, hl, hM, hc, hf⟩ := Kd.R_elem h z39 (i : Int) (by omega) (by omega)
  obtain ⟨a, g⟩ := Kd.R_seg h (i : Int) (by omega) (by omega) (seg := [.int .i64 x]) (j := 1) (okp := fun k => ok k ∧ k ≠ b) (x' := (⟨(rd_T39 X (i : Int)).f0, x, (rd_T39 X (i : Int)).f2, (rd_T39 X (i : Int)).f3⟩ : S39)) hl hc (by show 1 + 1 ≤ 4; omega) (by obtain rfl := k39_openM hM; exact k39_mkM _ _ _ (⟨(rd_T39 X (i : Int)).f0, x, (rd_T39 X (i : Int)).f2, (rd_T39 X (i : Int)).f3⟩ : S39)) (fun k hk => hk)
  rw [Int.toNat_natCast] at a g
  exact ⟨a, g⟩
end
/-- The states of the loop that lowers the numbers. -/
structure CN (w0 W0 : World) (p : Nat) (n : Int) (A : Option Addr) (m cap gv : Nat) (v : Int) (Y : List S39) (W : World) : Prop where
  ns : NS w0 p n (.slice A m cap) Y W
  keep : KeepBut W0 W p (Value.slice A m cap).ownBlock
  gvb : W.heap[gv]? = some (.cells #[.int .i64 v] 3 (0, 0))
section
variable {w0 W0 W : World} {p b m cap gv : Nat} {n v : Int} {Y : List S39} {A : Option Addr}
theorem CN.later (h : CN w0 W0 p n A m cap gv v Y W) {W' : World} (hb : Below W.heap.size W W') : CN w0 W0 p n A m cap gv v Y W' := ⟨h.ns.later hb, keep_trans h.keep (keep_below hb _ _), blk_below h.gvb hb⟩
theorem CN.v0 (h : CN w0 W0 p n A m cap gv v Y W) : W.cell? ⟨gv, 0, none⟩ = some (.int .i64 v) := (blk_cell h.gvb 0).trans rfl
theorem CN.grown (h : CN w0 W0 p n (some ⟨b, 0, none⟩) m cap gv v Y W) {W' : World} {Y' : List S39} (a : Kd.R k39 39 W' w0.heap.size (fun _ => True) (.slice (some ⟨b, 0, none⟩) m cap) Y') (g : W.grownBy W' (some b)) : CN w0 W0 p n (some ⟨b, 0, none⟩) m cap gv v Y' W' :=
  ⟨⟨h.ns.below.grown g (below_size h.ns.below) (fun k hk => by injection hk with hk; subst hk; exact Kd.R_base h.ns.row _ rfl), blk_grown h.ns.bp g (Kd.R_ne h.ns.row h.ns.bp (by decide)), h.ns.p0, a⟩, keep_trans h.keep (KeepBut.of_grown g p), blk_grown h.gvb g (Kd.R_ne h.ns.row h.gvb (by decide))⟩
theorem CN.put0 (h : CN w0 W0 p n (some ⟨b, 0, none⟩) m cap gv v Y W) (i : Nat) (h1 : i < m) (x : Int) : CN w0 W0 p n (some ⟨b, 0, none⟩) m cap gv v (Y.set i ⟨x, (rd_T39 Y (i : Int)).f1, (rd_T39 Y (i : Int)).f2, (rd_T39 Y (i : Int)).f3⟩) (W.setCell ⟨b, i * 4, none⟩ (.int .i64 x)) := by
  obtain ⟨a, g⟩ := row_put0 h.ns.row i h1 x
  exact h.grown a g
theorem CN.put1 (h : CN w0 W0 p n (some ⟨b, 0, none⟩) m cap gv v Y W) (i : Nat) (h1 : i < m) (x : Int) : CN w0 W0 p n (some ⟨b, 0, none⟩) m cap gv v (Y.set i ⟨(rd_T39 Y (i : Int)).f0, x, (rd_T39 Y (i : Int)).f2, (rd_T39 Y (i : Int)).f3⟩) (W.setCell ⟨b, i * 4 + 1, none⟩ (.int .i64 x)) := by
  obtain ⟨a, g⟩ := row_put1 h.ns.row i h1 x
  exact h.grown a g
end
/-- The numbers are lowered in the first edges. -/
structure Low (v : Int) (E Y : List S39) (i : Nat) : Prop where
  len : Y.length = E.length
  front : ∀ k : Nat, k < i → k < E.length → rd_T39 Y (k : Int) = decE v (rd_T39 E (k : Int))
  back : ∀ k : Nat, i ≤ k → k < E.length → rd_T39 Y (k : Int) = rd_T39 E (k : Int)
theorem rd_set (Y : List S39) (i k : Nat) (x : S39) (h : k < Y.length) : rd_T39 (Y.set i x) (k : Int) = if i = k then x else rd_T39 Y (k : Int) := by
  rw [rd_nat _ k (by rw [List.length_set]; exact h), rd_nat Y k h, List.getElem_set]
theorem Low.start (v : Int) (E : List S39) : Low v E E 0 := ⟨rfl, fun k hk _ => absurd hk (Nat.not_lt_zero k), fun _ _ _ => rfl⟩
theorem Low.step {v : Int} {E Y : List S39} {i : Nat} (h : Low v E Y i) (hi : i < E.length) {x : S39} (hx : x = decE v (rd_T39 E (i : Int))) : Low v E (Y.set i x) (i + 1) := by
  subst hx
  refine ⟨by rw [List.length_set]; exact h.len, fun k hk hk2 => ?_, fun k hk hk2 => ?_⟩
  · rw [rd_set Y i k _ (by rw [h.len]; exact hk2)]
    by_cases e : i = k
    · rw [if_pos e, e]
    · rw [if_neg e]; exact h.front k (by omega) hk2
  · rw [rd_set Y i k _ (by rw [h.len]; exact hk2), if_neg (by omega)]
    exact h.back k (by omega) hk2
theorem Low.stay {v : Int} {E Y : List S39} {i : Nat} (h : Low v E Y i) (hi : i < E.length) (hx : rd_T39 E (i : Int) = decE v (rd_T39 E (i : Int))) : Low v E Y (i + 1) := by
  refine ⟨h.len, fun k hk hk2 => ?_, fun k hk hk2 => h.back k (by omega) hk2⟩
  by_cases e : k = i
  · subst e
    rw [h.back k (Nat.le_refl _) hk2]
    exact hx
  · exact h.front k (by omega) hk2
theorem Low.done {v : Int} {E Y : List S39} {i : Nat} (h : Low v E Y i) (hi : ¬ i < E.length) : Y = E.map (decE v) := by
  refine List.ext_getElem (by rw [List.length_map]; exact h.len) fun k h1 h2 => ?_
  have hk : k < E.length := by rw [← h.len]; exact h1
  rw [← rd_nat Y k h1, h.front k (by omega) hk, List.getElem_map, rd_nat E k hk]
end Go.Proofs.Ytpmclhkednehhaa.Q
