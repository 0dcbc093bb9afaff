import Derived.Test.YtpmclhkednehhaaQ2
import Derived.Test.YtpmclhkednehhaaNetU
import Derived.Test.YtpmclhkednehhaaQ27
import Derived.Test.YtpmclhkednehhaaQ3
/- The edges at a node, found and deleted: typed by hand. -/
set_option linter.unusedVariables false
set_option linter.unusedSimpArgs false
namespace Go.Proofs.Ytpmclhkednehhaa.Q
open Go.RowKit Go.Proofs.YtpmclhkednehhaaW.PrintWords Go.Proofs.YtpmclhkednehhaaW.PrintLast Go.Proofs.YtpmclhkednehhaaW.PrintMore
/-- Is a node at an end of an edge? -/
def ends (v : Int) (e : S39) : Bool := e.f0 == v || e.f1 == v
theorem Net_CutNode_1.calls (e : S39) (gv : Nat) (v : Int) (W : World) (k0 : W.cell? ⟨gv, 0, none⟩ = some (.int .i64 v)) :
    Calls Try.prog 41 #[.agg #[.int .i64 e.f0, .int .i64 e.f1, .int .i64 e.f2, .int .i64 e.f3], .pointer (some ⟨gv, 0, none⟩)] W fun x w' => x = .returned (.bool (ends v e)) ∧ Below W.heap.size W w' := by
  have hu39 := Try.underlying39
  have KV := ak k0
  have HB := ak (Below.refl W.heap.size W)
  clear k0
  unfold ends
  by_cases c : e.f0 = v
  · have c1 : (e.f0 == v) = true := beq_iff_eq.mpr c
    rw [c1, Bool.true_or]
    clear c
    go_enter Try.func41, Try.ntmps41
    go_wp2_with (first
      | ((with_reducible refine gate_dst (N := 2) rfl ?_); refine box_event ?hg (N := 2) ?hd (cs := #[.int .i64 e.f0, .int .i64 e.f1, .int .i64 e.f2, .int .i64 e.f3]) (t := 39) ?hr ?_; (case hd => rfl); (case hg => rfl); (case hr => first | (go_simp; done) | (go_simp; rfl)); intro gg hg w1 bg hb; have HB1 := ak (below_step HB.out hb); have BG := ak bg; have k1 := bc0 BG; have k3 := bc1 BG; have k2 : w1.cell? ⟨gv, 0, none⟩ = some (.int .i64 v) := (hb.cell (World.block_lt_of_cell? W _ KV.out)).trans KV.out; clear hb bg hg))
    go_ret
    exact ⟨rfl, HB1.out⟩
  · have c1 : (e.f0 == v) = false := beq_eq_false_iff_ne.mpr c
    rw [c1, Bool.false_or]
    clear c
    go_enter Try.func41, Try.ntmps41
    go_wp2_with (first
      | ((with_reducible refine gate_dst (N := 2) rfl ?_); refine box_event ?hg (N := 2) ?hd (cs := #[.int .i64 e.f0, .int .i64 e.f1, .int .i64 e.f2, .int .i64 e.f3]) (t := 39) ?hr ?_; (case hd => rfl); (case hg => rfl); (case hr => first | (go_simp; done) | (go_simp; rfl)); intro gg hg w1 bg hb; have HB1 := ak (below_step HB.out hb); have BG := ak bg; have k1 := bc0 BG; have k3 := bc1 BG; have k2 : w1.cell? ⟨gv, 0, none⟩ = some (.int .i64 v) := (hb.cell (World.block_lt_of_cell? W _ KV.out)).trans KV.out; clear hb bg hg))
    go_ret
    exact ⟨rfl, HB1.out⟩
/-- Where the first edge stands of which something is so; -1: nowhere. -/
def First (p : S39 → Bool) (E : List S39) (r : Int) : Prop := (r = -1 ∧ ∀ i : Nat, i < E.length → p (rd_T39 E (i : Int)) = false) ∨ ∃ i : Nat, i < E.length ∧ r = (i : Int) ∧ p (rd_T39 E (i : Int)) = true ∧ ∀ j : Nat, j < i → p (rd_T39 E (j : Int)) = false
set_option maxHeartbeats 4000000 in
set_option maxRecDepth 100000 in
theorem slices_IndexFunc.ends (gv : Nat) (v : Int) (A : Option Addr) (cap : Nat) (E : List S39) (W : World) (hr : Kd.C k39 W A E.length E) (hl : E.length ≤ 4096) (hv : W.cell? ⟨gv, 0, none⟩ = some (.int .i64 v)) :
    Calls Try.prog 48 #[.slice A E.length cap, .func (.func 41) #[] #[.pointer (some ⟨gv, 0, none⟩)]] W fun x w' => ∃ r, x = .returned (.int .i64 r) ∧ First (Q.ends v) E r ∧ Below W.heap.size W w' := by
  have hu39 := Try.underlying39
  have LN := ak hl
  have HR := ak hr
  have HV := ak hv
  have HB := ak (Below.refl W.heap.size W)
  clear hl hr hv
  go_enter Try.func48, Try.ntmps48
  go_wp2
  go_loopg [8] E.length (fun kq v8 w' => ∃ i : Nat, v8 = .int .i64 (i : Int) ∧ Aside0 (kq + i = E.length) ∧ Aside0 (∀ j : Nat, j < i → Q.ends v (rd_T39 E (j : Int)) = false) ∧ Aside0 (Below W.heap.size W w'))
  case atStart => exact ⟨0, rfl, ⟨rfl⟩, ⟨fun j hj => absurd hj (by omega)⟩, HB⟩
  case round =>
    clear HB
    obtain ⟨i, rfl, HK, HN, HB1⟩ := hrel
    by_cases c1 : i < E.length
    · have c1a : decide (i < E.length) = true := decide_eq_true c1
      have c1b : decide ((i : Int) < (E.length : Int)) = true := decide_eq_true (by omega)
      have C1 := ak c1
      have p0 : 0 ≤ (i : Int) := by omega
      have q0 : (i : Int) < (E.length : Int) := by omega
      obtain ⟨ad, e1, k1, k2, k3, k4⟩ := at_T39 HR.out (i : Int) p0 q0
      cases e1
      replace k1 := (HB1.out.cell (World.block_lt_of_cell? W _ k1)).trans k1
      replace k2 := (HB1.out.cell (World.block_lt_of_cell? W _ k2)).trans k2
      replace k3 := (HB1.out.cell (World.block_lt_of_cell? W _ k3)).trans k3
      replace k4 := (HB1.out.cell (World.block_lt_of_cell? W _ k4)).trans k4
      rw [Int.toNat_natCast] at k1 k2 k3 k4
      have hw1 : Go.RowKit.wrap64 ((i : Int) + 1) = ((i + 1 : Nat) : Int) := by have := LN.out; unfold Go.RowKit.wrap64; omega
      have hv3 : wr.cell? ⟨gv, 0, none⟩ = some (.int .i64 v) := (HB1.out.cell (World.block_lt_of_cell? W _ HV.out)).trans HV.out
      have HV3 := ak hv3
      clear hv3
      by_cases c2 : Q.ends v (rd_T39 E (i : Int)) = true
      · have C2 := ak c2
        clear c2
        go_wp2_with (first
          | (go_at_call 41; (with_reducible refine (Net_CutNode_1.calls (rd_T39 E (i : Int)) gv v _ HV3.out).mono ?_); rintro e w4 ⟨rfl, hb⟩; rw [C2.out]; have HB4 := ak (below_step HB1.out hb); clear hb))
        go_ret
        exact ⟨_, rfl, .inr ⟨i, C1.out, rfl, C2.out, HN.out⟩, HB4.out⟩
      · have C2 := ak (show Q.ends v (rd_T39 E (i : Int)) = false by simpa using c2)
        clear c2
        go_wp2_with (first
          | (go_at_call 41; (with_reducible refine (Net_CutNode_1.calls (rd_T39 E (i : Int)) gv v _ HV3.out).mono ?_); rintro e w4 ⟨rfl, hb⟩; rw [C2.out]; have HB4 := ak (below_step HB1.out hb); clear hb))
        go_roundg (E.length - (i + 1))
        case measure => have := HK.out; omega
        case rel =>
          refine ⟨i + 1, by first | (rw [hw1]; done) | (simp only [i64_w, hw1]; done) | (go_num; done) | (go_num; rw [hw1]; done), ⟨by have := HK.out; omega⟩, ⟨fun j hj => ?_⟩, HB4⟩
          by_cases e : j = i
          · subst e; exact C2.out
          · exact HN.out j (by omega)
    · have c1a : decide (i < E.length) = false := decide_eq_false c1
      have c1b : decide ((i : Int) < (E.length : Int)) = false := decide_eq_false (by omega)
      have ei : i = E.length := by have := HK.out; omega
      have EI := ak ei
      clear c1 ei
      go_wp2
      go_ret
      exact ⟨_, rfl, .inl ⟨rfl, fun j hj => HN.out j (by rw [EI.out]; exact hj)⟩, HB1.out⟩
end Go.Proofs.Ytpmclhkednehhaa.Q
/- The edges at a node are deleted from a row: typed by hand. -/
set_option linter.unusedVariables false
set_option linter.unusedSimpArgs false
namespace Go.Proofs.Ytpmclhkednehhaa.Q
open Go.RowKit Go.Proofs.YtpmclhkednehhaaW.PrintWords Go.Proofs.YtpmclhkednehhaaW.PrintLast Go.Proofs.YtpmclhkednehhaaW.PrintMore
section
variable {W : World} {base b m cap : Nat} {ok : Nat → Prop} {X : List S39}
theorem row_cells (h : Kd.R k39 39 W base ok (.slice (some ⟨b, 0, none⟩) m cap) X) (i : Nat) (h1 : i < m) :
    (W.cell? ⟨b, i * 4, none⟩ = some (.int .i64 (rd_T39 X (i : Int)).f0) ∧ W.cell? ⟨b, i * 4 + 1, none⟩ = some (.int .i64 (rd_T39 X (i : Int)).f1) ∧ W.cell? ⟨b, i * 4 + 2, none⟩ = some (.int .i64 (rd_T39 X (i : Int)).f2) ∧ W.cell? ⟨b, i * 4 + 3, none⟩ = some (.int .i64 (rd_T39 X (i : Int)).f3)) ∧ W.frozen? ⟨b, i * 4, none⟩ = false ∧ W.frozen? ⟨b, i * 4 + 1, none⟩ = false ∧ W.frozen? ⟨b, i * 4 + 2, none⟩ = false ∧ W.frozen? ⟨b, i * 4 + 3, none⟩ = false := by
  obtain ⟨c, hl, hM, hc, hf⟩ := Kd.R_elem h z39 (i : Int) (by omega) (by omega)
  obtain rfl := k39_openM hM
  rw [Int.toNat_natCast] at hc hf
  exact ⟨⟨hc 0 _ rfl, hc 1 _ rfl, hc 2 _ rfl, hc 3 _ rfl⟩, hf 0, hf 1, hf 2, hf 3⟩
theorem row_put (h : Kd.R k39 39 W base ok (.slice (some ⟨b, 0, none⟩) m cap) X) (i : Nat) (h1 : i < m) (x : S39) :
    Kd.R k39 39 ((((W.setCell ⟨b, i * 4, none⟩ (.int .i64 x.f0)).setCell ⟨b, i * 4 + 1, none⟩ (.int .i64 x.f1)).setCell ⟨b, i * 4 + 2, none⟩ (.int .i64 x.f2)).setCell ⟨b, i * 4 + 3, none⟩ (.int .i64 x.f3)) base ok (.slice (some ⟨b, 0, none⟩) m cap) (X.set i x) ∧
    W.grownBy ((((W.setCell ⟨b, i * 4, none⟩ (.int .i64 x.f0)).setCell ⟨b, i * 4 + 1, none⟩ (.int .i64 x.f1)).setCell ⟨b, i * 4 + 2, none⟩ (.int .i64 x.f2)).setCell ⟨b, i * 4 + 3, none⟩ (.int .i64 x.f3)) (some b) := by
  obtain ⟨c, hl, hM, hc, hf⟩ := Kd.R_elem h z39 (i : Int) (by omega) (by omega)
  obtain ⟨a, g⟩ := Kd.R_seg h (i : Int) (by omega) (by omega) (seg := [.int .i64 x.f0, .int .i64 x.f1, .int .i64 x.f2, .int .i64 x.f3]) (j := 0) (okp := fun k => ok k ∧ k ≠ b) (x' := x) hl hc (by show 0 + 4 ≤ 4; omega) (by obtain rfl := k39_openM hM; exact k39_mkM _ _ _ x) (fun k hk => hk)
  rw [Int.toNat_natCast] at a g
  exact ⟨a, g⟩
end
theorem rd_nat (X : List S39) (i : Nat) (h : i < X.length) : rd_T39 X (i : Int) = X[i] := by
  unfold rd_T39
  rw [List.getD_eq_getElem?_getD, Int.toNat_natCast, List.getElem?_eq_getElem h]; rfl
theorem filter_step (q : S39 → Bool) (E : List S39) (j : Nat) (h : j < E.length) : (E.take (j + 1)).filter q = (E.take j).filter q ++ (if q (rd_T39 E (j : Int)) = true then [rd_T39 E (j : Int)] else []) := by
  rw [List.take_succ_eq_append_getElem h, List.filter_append, rd_nat E j h, List.filter_cons, List.filter_nil]
theorem filter_all (q : S39 → Bool) (E : List S39) (j : Nat) (hj : j ≤ E.length) (h : ∀ i : Nat, i < j → q (rd_T39 E (i : Int)) = true) : (E.take j).filter q = E.take j := by
  rw [List.filter_eq_self]
  intro e he
  obtain ⟨i, hi, rfl⟩ := List.mem_iff_getElem.mp he
  rw [List.length_take] at hi
  rw [List.getElem_take, ← rd_nat E i (by omega)]
  exact h i (by omega)
/-- What a loop of deletions has done so far. -/
structure Del (q : S39 → Bool) (E X : List S39) (i j : Nat) : Prop where
  lt : i < j
  le : j ≤ E.length
  len : X.length = E.length
  front : X.take i = (E.take j).filter q
  back : X.drop j = E.drop j
theorem Del.at {q : S39 → Bool} {E X : List S39} {i j : Nat} (h : Del q E X i j) (hj : j < E.length) : rd_T39 X (j : Int) = rd_T39 E (j : Int) := by
  rw [rd_nat X j (by rw [h.len]; exact hj), rd_nat E j hj]
  have e := congrArg (fun l => l[0]?) h.back
  simp only [List.getElem?_drop, Nat.add_zero] at e
  rw [List.getElem?_eq_getElem (by rw [h.len]; exact hj), List.getElem?_eq_getElem hj] at e
  exact Option.some.inj e
theorem Del.drop {q : S39 → Bool} {E X : List S39} {i j : Nat} (h : Del q E X i j) (hj : j < E.length) (hq : q (rd_T39 E (j : Int)) = false) : Del q E X i (j + 1) := by
  refine ⟨by have := h.lt; omega, hj, h.len, ?_, ?_⟩
  · rw [h.front, filter_step q E j hj, if_neg (by rw [hq]; decide), List.append_nil]
  · have e := congrArg (List.drop 1) h.back
    rw [List.drop_drop, List.drop_drop] at e
    exact e
theorem Del.keep {q : S39 → Bool} {E X : List S39} {i j : Nat} (h : Del q E X i j) (hj : j < E.length) (hq : q (rd_T39 E (j : Int)) = true) : Del q E (X.set i (rd_T39 E (j : Int))) (i + 1) (j + 1) := by
  have hl := h.lt
  have hx : i < X.length := by rw [h.len]; omega
  refine ⟨by omega, hj, by rw [List.length_set]; exact h.len, ?_, ?_⟩
  · rw [filter_step q E j hj, if_pos hq, ← h.front, List.take_succ_eq_append_getElem (by rw [List.length_set]; exact hx), List.getElem_set_self, List.take_set_of_le (Nat.le_refl i)]
  · rw [List.drop_set_of_lt (by omega)]
    have e := congrArg (List.drop 1) h.back
    rw [List.drop_drop, List.drop_drop] at e
    exact e
theorem Del.start {q : S39 → Bool} {E : List S39} {i : Nat} (hi : i < E.length) (h0 : q (rd_T39 E (i : Int)) = false) (h : ∀ j : Nat, j < i → q (rd_T39 E (j : Int)) = true) : Del q E E i (i + 1) := by
  refine ⟨by omega, hi, rfl, ?_, rfl⟩
  rw [filter_step q E i hi, if_neg (by rw [h0]; decide), List.append_nil, filter_all q E i (by omega) h]
theorem Del.done {q : S39 → Bool} {E X : List S39} {i j : Nat} (h : Del q E X i j) (hj : ¬ j < E.length) : X.take i = E.filter q ∧ (E.filter q).length = i ∧ i < E.length := by
  have e : j = E.length := by have := h.le; omega
  have f := h.front
  rw [e, List.take_of_length_le (Nat.le_refl _)] at f
  have hl := h.lt
  exact ⟨f, by rw [← f, List.length_take, h.len]; omega, by omega⟩
end Go.Proofs.Ytpmclhkednehhaa.Q
/- The walk of the deletion of the edges at a node: typed by hand. -/
set_option linter.unusedVariables false
set_option linter.unusedSimpArgs false
namespace Go.Proofs.Ytpmclhkednehhaa.Q
open Go.RowKit Go.Proofs.YtpmclhkednehhaaW.PrintWords Go.Proofs.YtpmclhkednehhaaW.PrintLast Go.Proofs.YtpmclhkednehhaaW.PrintMore
/-- The edges that stay. -/
def stays (v : Int) (e : S39) : Bool := !ends v e
theorem First.not {p : S39 → Bool} {E : List S39} {r : Int} (h : First p E r) (hn : ∀ i : Nat, i < E.length → p (rd_T39 E (i : Int)) = false) : r = -1 := by
  rcases h with ⟨h, _⟩ | ⟨i, hi, _, h, _⟩
  · exact h
  · rw [hn i hi] at h
    exact absurd h (by decide)
theorem First.yes {p : S39 → Bool} {E : List S39} {r : Int} (h : First p E r) (hn : ∃ i : Nat, i < E.length ∧ p (rd_T39 E (i : Int)) = true) : ∃ i : Nat, i < E.length ∧ r = (i : Int) ∧ p (rd_T39 E (i : Int)) = true ∧ ∀ j : Nat, j < i → p (rd_T39 E (j : Int)) = false := by
  rcases h with ⟨_, h⟩ | h
  · obtain ⟨i, a, c⟩ := hn
    rw [h i a] at c
    exact absurd c (by decide)
  · exact h
theorem slices_DeleteFunc.none_ (gv : Nat) (v : Int) (A : Option Addr) (cap : Nat) (E : List S39) (W : World) (hr : Kd.C k39 W A E.length E) (hl : E.length ≤ 4096) (hv : W.cell? ⟨gv, 0, none⟩ = some (.int .i64 v)) (hn : ∀ i : Nat, i < E.length → ends v (rd_T39 E (i : Int)) = false) :
    Calls Try.prog 40 #[.slice A E.length cap, .func (.func 41) #[] #[.pointer (some ⟨gv, 0, none⟩)]] W fun x w' => x = .returned (.slice A E.length cap) ∧ Below W.heap.size W w' := by
  have HR := ak hr
  have HL := ak hl
  have HV := ak hv
  have HN := ak hn
  clear hr hl hv hn
  go_enter Try.func40, Try.ntmps40
  go_wp2_with (first
    | (go_at_call 48; (with_reducible refine (slices_IndexFunc.ends gv v A cap E _ HR.out HL.out HV.out).mono ?_); rintro e w1 ⟨r, rfl, hf, hb⟩; obtain rfl := hf.not HN.out; have HB1 := ak hb; clear hf hb))
  go_ret
  exact ⟨rfl, HB1.out⟩
theorem row_far4 {W : World} {base b m cap g : Nat} {ok : Nat → Prop} {X : List S39} (h : Kd.R k39 39 W base ok (.slice (some ⟨b, 0, none⟩) m cap) X) (hg : g ≠ b) (x0 x1 x2 x3 : Value) :
    Kd.R k39 39 ((((W.setCell ⟨g, 0, none⟩ x0).setCell ⟨g, 1, none⟩ x1).setCell ⟨g, 2, none⟩ x2).setCell ⟨g, 3, none⟩ x3) base ok (.slice (some ⟨b, 0, none⟩) m cap) X := by
  obtain ⟨h0, inner, hown, hr⟩ := h
  have mv : ∀ k, k ≠ g → ((((W.setCell ⟨g, 0, none⟩ x0).setCell ⟨g, 1, none⟩ x1).setCell ⟨g, 2, none⟩ x2).setCell ⟨g, 3, none⟩ x3).heap[k]? = W.heap[k]? := fun k hk =>
    (Below.heap_setCell _ _ _ k hk).trans ((Below.heap_setCell _ _ _ k hk).trans ((Below.heap_setCell _ _ _ k hk).trans (Below.heap_setCell _ _ _ k hk)))
  exact ⟨h0, inner, own_move hown (fun k hk => mv k (fun e => by
    have hk' : b = k := by simpa [Value.ownBlock] using hk
    exact hg (by rw [hk', e]))), hr⟩
theorem keep_far4 {U W : World} {b g : Nat} {row : Option Nat} (h : KeepBut U W b row) (hg : U.heap.size ≤ g) (x0 x1 x2 x3 : Value) :
    KeepBut U ((((W.setCell ⟨g, 0, none⟩ x0).setCell ⟨g, 1, none⟩ x1).setCell ⟨g, 2, none⟩ x2).setCell ⟨g, 3, none⟩ x3) b row := by
  have mv : ∀ k, k ≠ g → ((((W.setCell ⟨g, 0, none⟩ x0).setCell ⟨g, 1, none⟩ x1).setCell ⟨g, 2, none⟩ x2).setCell ⟨g, 3, none⟩ x3).heap[k]? = W.heap[k]? := fun k hk =>
    (Below.heap_setCell _ _ _ k hk).trans ((Below.heap_setCell _ _ _ k hk).trans ((Below.heap_setCell _ _ _ k hk).trans (Below.heap_setCell _ _ _ k hk)))
  refine ⟨?_, fun k hk h1 h2 => (mv k (by omega)).trans (h.2 k hk h1 h2)⟩
  have : ((((W.setCell ⟨g, 0, none⟩ x0).setCell ⟨g, 1, none⟩ x1).setCell ⟨g, 2, none⟩ x2).setCell ⟨g, 3, none⟩ x3).heap.size = W.heap.size := by simp only [World.size_setCell]
  rw [this]
  exact h.1
theorem keep_gv {U W : World} {b g : Nat} {x : Value} (h : KeepBut U W b (some b)) (hv : U.cell? ⟨g, 0, none⟩ = some x) (hne : g ≠ b) : W.cell? ⟨g, 0, none⟩ = some x := by
  have hlt := World.block_lt_of_cell? U _ hv
  have e := h.2 g hlt hne (fun e => hne (by injection e))
  rw [← hv]
  unfold World.cell?
  rw [e]
set_option maxHeartbeats 8000000 in
set_option maxRecDepth 100000 in
theorem slices_DeleteFunc.some_ (w0 : World) (gv : Nat) (v : Int) (base b cap : Nat) (E : List S39) (ok : Nat → Prop) (W : World) (hr : Kd.R k39 39 W base ok (.slice (some ⟨b, 0, none⟩) E.length cap) E) (hB : Below base w0 W) (hbase : base ≤ W.heap.size) (hl : E.length ≤ 4096) (hv : W.cell? ⟨gv, 0, none⟩ = some (.int .i64 v)) (hne : gv ≠ b) (hn : ∃ i : Nat, i < E.length ∧ ends v (rd_T39 E (i : Int)) = true) :
    Calls Try.prog 40 #[.slice (some ⟨b, 0, none⟩) E.length cap, .func (.func 41) #[] #[.pointer (some ⟨gv, 0, none⟩)]] W fun x w' => x = .returned (.slice (some ⟨b, 0, none⟩) (E.filter (stays v)).length cap) ∧ Kd.R k39 39 w' base ok (.slice (some ⟨b, 0, none⟩) (E.filter (stays v)).length cap) (E.filter (stays v)) ∧ Below base w0 w' ∧ KeepBut W w' b (some b) := by
  have hu39 := Try.underlying39
  have R0 := ak hr
  have B0 := ak hB
  have S0 := ak hbase
  have LC := ak (Kd.R_reads' hr).2.1
  have HL := ak hl
  have HV := ak hv
  have HN := ak hn
  have NE := ak hne
  have BB := ak (show base ≤ b from Kd.R_base hr b rfl)
  clear hr hB hbase hl hv hn hne
  go_enter Try.func40, Try.ntmps40
  go_wp2_with (first
    | (go_at_call 48; (with_reducible refine (slices_IndexFunc.ends gv v _ cap E _ (Kd.R_reads' R0.out).2.2 HL.out HV.out).mono ?_); rintro e w1 ⟨r, rfl, hf, hb⟩; obtain ⟨i0, hi0, rfl, hi1, hi2⟩ := hf.yes HN.out; have D0 := ak (Del.start (q := stays v) hi0 (by unfold stays; rw [hi1]; rfl) (fun j hj => by unfold stays; rw [hi2 j hj]; rfl)); have c0 : ((i0 : Int) == -1) = false := beq_eq_false_iff_ne.mpr (by omega); have c9 : Go.RowKit.wrap64 ((i0 : Int) + 1) = ((i0 + 1 : Nat) : Int) := (by have := HL.out; unfold Go.RowKit.wrap64; omega); have R1 := ak (Kd.R_below R0.out hb); have B1 := ak (Below.trans B0.out (hb.mono S0.out)); have K1 := ak (keep_below hb b (some b)); clear hf hb hi0 hi1 hi2))
  clear R0 B0
  go_loopg [5, 6] (E.length - (i0 + 1)) (fun kq v5 v6 w' => ∃ (i j : Nat) (X : List S39), v5 = .int .i64 (i : Int) ∧ v6 = .int .i64 (j : Int) ∧ Aside0 (kq + j = E.length) ∧ Aside0 (Del (stays v) E X i j) ∧ Aside0 (Kd.R k39 39 w' base ok (.slice (some ⟨b, 0, none⟩) E.length cap) X) ∧ Aside0 (Below base w0 w') ∧ Aside0 (KeepBut W w' b (some b)))
  case atStart => exact ⟨i0, i0 + 1, E, rfl, by first | (rw [c9]; done) | (simp only [i64_w, c9]; done) | (go_num; done) | (go_num; rw [c9]; done), ⟨by have := D0.out.le; omega⟩, D0, R1, B1, K1⟩
  case round =>
    clear R1 B1 K1 D0 c0 c9
    obtain ⟨i, j, X, rfl, rfl, HK, DX, R2, B2, K2⟩ := hrel
    have WS := ak (show base ≤ wr.heap.size from Nat.le_trans S0.out K2.out.1)
    by_cases c1 : j < E.length
    · have c1a : decide (j < E.length) = true := decide_eq_true c1
      have c1b : decide ((j : Int) < (E.length : Int)) = true := decide_eq_true (by omega)
      have C1 := ak c1
      have p0 : 0 ≤ (j : Int) := by omega
      have q0 : (j : Int) < (E.length : Int) := by omega
      obtain ⟨⟨k1, k2, k3, k4⟩, -, -, -, -⟩ := row_cells R2.out j c1
      rw [DX.out.at c1] at k1 k2 k3 k4
      have hw1 : Go.RowKit.wrap64 ((j : Int) + 1) = ((j + 1 : Nat) : Int) := by have := HL.out; unfold Go.RowKit.wrap64; omega
      by_cases c2 : ends v (rd_T39 E (j : Int)) = true
      · have C2 := ak c2
        clear c2
        go_wp2_with (first
          | ((with_reducible refine gate_dst (N := 7) rfl ?_); refine box_event ?hg (N := 7) ?hd (cs := #[.int .i64 0, .int .i64 0, .int .i64 0, .int .i64 0]) (t := 39) ?hr ?_; (case hd => rfl); (case hg => rfl); (case hr => first | (go_simp; done) | (go_simp; rfl)); intro gb hg w2 bb hb; have B3 := ak (Below.trans B2.out (hb.mono WS.out)); have K3 := ak (keep_trans K2.out (keep_below hb b (some b))); have R3 := ak (Kd.R_below R2.out hb); have NB := ak (show base ≤ gb by rw [hg]; exact WS.out); have NW := ak (show W.heap.size ≤ gb by rw [hg]; exact K2.out.1); have NG := ak (show gb ≠ b from fun he => by have := Kd.R_lt R2.out b rfl; omega); have BK := ak bb; have k5 := bc0 BK; have k6 := bc1 BK; have k7 := bc2 BK; have k8 := bc3 BK; have k9 := bf BK 0; have k10 := bf BK 1; have k11 := bf BK 2; have k12 := bf BK 3; clear hb bb hg)
          | ((with_reducible refine gate_store (t := 39) (p := 7) rfl ?_); refine store_event (t := 39) (p := 7) (v := ?vs1) (w1 := ((((w2.setCell ⟨gb, 0, none⟩ (.int .i64 (rd_T39 E (j : Int)).f0)).setCell ⟨gb, 1, none⟩ (.int .i64 (rd_T39 E (j : Int)).f1)).setCell ⟨gb, 2, none⟩ (.int .i64 (rd_T39 E (j : Int)).f2)).setCell ⟨gb, 3, none⟩ (.int .i64 (rd_T39 E (j : Int)).f3))) ?hg ?ho ?hn ?hr ?_; (case ho => rfl); (case hg => rfl); (case hn => rfl); (case hr => first | (go_simp; done) | (go_simp; rfl)); intro w3 hw; have B4 := ak (show Below base w0 w3 by rw [hw]; exact (((B3.out.setCell NB.out _).setCell NB.out _).setCell NB.out _).setCell NB.out _); have bq := blk_put (blk_put (blk_put (blk_put BK.out 0 (.int .i64 (rd_T39 E (j : Int)).f0) rfl) 1 (.int .i64 (rd_T39 E (j : Int)).f1) rfl) 2 (.int .i64 (rd_T39 E (j : Int)).f2) rfl) 3 (.int .i64 (rd_T39 E (j : Int)).f3) rfl; have BK4 := ak (show w3.heap[gb]? = some (.cells #[.int .i64 (rd_T39 E (j : Int)).f0, .int .i64 (rd_T39 E (j : Int)).f1, .int .i64 (rd_T39 E (j : Int)).f2, .int .i64 (rd_T39 E (j : Int)).f3] 39 (0, 0)) by rw [hw]; exact bq); have R4 := ak (show Kd.R k39 39 w3 base ok (.slice (some ⟨b, 0, none⟩) E.length cap) X by rw [hw]; exact row_far4 R3.out NG.out _ _ _ _); have K4 := ak (show KeepBut W w3 b (some b) by rw [hw]; exact keep_far4 K3.out NW.out _ _ _ _); clear bq hw; have q5 := bc0 BK4; have q6 := bc1 BK4; have q7 := bc2 BK4; have q8 := bc3 BK4; have hv3 : w3.cell? ⟨gv, 0, none⟩ = some (.int .i64 v) := keep_gv K4.out HV.out NE.out)
          | (go_at_call 41; (with_reducible refine (Net_CutNode_1.calls (rd_T39 E (j : Int)) gv v _ hv3).mono ?_); rintro e w4 ⟨rfl, hb⟩; rw [C2.out]; have B5 := ak (Below.trans B4.out (hb.mono (Nat.le_trans S0.out K4.out.1))); have R5 := ak (Kd.R_below R4.out hb); have K5 := ak (keep_trans K4.out (keep_below hb b (some b))); have BK5 := ak (blk_below BK4.out hb); clear hb))
        go_roundg (E.length - (j + 1))
        case measure => have := HK.out; omega
        case rel => exact ⟨i, j + 1, X, rfl, by first | (rw [hw1]; done) | (simp only [i64_w, hw1]; done) | (go_num; done) | (go_num; rw [hw1]; done), ⟨by have := HK.out; omega⟩, ⟨DX.out.drop C1.out (by unfold stays; rw [C2.out]; rfl)⟩, R5, B5, K5⟩
      · have C2 := ak (show ends v (rd_T39 E (j : Int)) = false by simpa using c2)
        clear c2
        have ij : i < E.length := by have := DX.out.lt; omega
        have IJ := ak ij
        have p1 : 0 ≤ (i : Int) := by omega
        have q1 : (i : Int) < (E.length : Int) := by omega
        have hw2 : Go.RowKit.wrap64 ((i : Int) + 1) = ((i + 1 : Nat) : Int) := by have := HL.out; unfold Go.RowKit.wrap64; omega
        clear ij
        go_wp2_with (first
          | ((with_reducible refine gate_dst (N := 7) rfl ?_); refine box_event ?hg (N := 7) ?hd (cs := #[.int .i64 0, .int .i64 0, .int .i64 0, .int .i64 0]) (t := 39) ?hr ?_; (case hd => rfl); (case hg => rfl); (case hr => first | (go_simp; done) | (go_simp; rfl)); intro gb hg w2 bb hb; have B3 := ak (Below.trans B2.out (hb.mono WS.out)); have K3 := ak (keep_trans K2.out (keep_below hb b (some b))); have R3 := ak (Kd.R_below R2.out hb); have NB := ak (show base ≤ gb by rw [hg]; exact WS.out); have NW := ak (show W.heap.size ≤ gb by rw [hg]; exact K2.out.1); have NG := ak (show gb ≠ b from fun he => by have := Kd.R_lt R2.out b rfl; omega); have BK := ak bb; have k5 := bc0 BK; have k6 := bc1 BK; have k7 := bc2 BK; have k8 := bc3 BK; have k9 := bf BK 0; have k10 := bf BK 1; have k11 := bf BK 2; have k12 := bf BK 3; clear hb bb hg)
          | ((with_reducible refine gate_store (t := 39) (p := 7) rfl ?_); refine store_event (t := 39) (p := 7) (v := ?vs2) (w1 := ((((w2.setCell ⟨gb, 0, none⟩ (.int .i64 (rd_T39 E (j : Int)).f0)).setCell ⟨gb, 1, none⟩ (.int .i64 (rd_T39 E (j : Int)).f1)).setCell ⟨gb, 2, none⟩ (.int .i64 (rd_T39 E (j : Int)).f2)).setCell ⟨gb, 3, none⟩ (.int .i64 (rd_T39 E (j : Int)).f3))) ?hg ?ho ?hn ?hr ?_; (case ho => rfl); (case hg => rfl); (case hn => rfl); (case hr => first | (go_simp; done) | (go_simp; rfl)); intro w3 hw; have B4 := ak (show Below base w0 w3 by rw [hw]; exact (((B3.out.setCell NB.out _).setCell NB.out _).setCell NB.out _).setCell NB.out _); have bq := blk_put (blk_put (blk_put (blk_put BK.out 0 (.int .i64 (rd_T39 E (j : Int)).f0) rfl) 1 (.int .i64 (rd_T39 E (j : Int)).f1) rfl) 2 (.int .i64 (rd_T39 E (j : Int)).f2) rfl) 3 (.int .i64 (rd_T39 E (j : Int)).f3) rfl; have BK4 := ak (show w3.heap[gb]? = some (.cells #[.int .i64 (rd_T39 E (j : Int)).f0, .int .i64 (rd_T39 E (j : Int)).f1, .int .i64 (rd_T39 E (j : Int)).f2, .int .i64 (rd_T39 E (j : Int)).f3] 39 (0, 0)) by rw [hw]; exact bq); have R4 := ak (show Kd.R k39 39 w3 base ok (.slice (some ⟨b, 0, none⟩) E.length cap) X by rw [hw]; exact row_far4 R3.out NG.out _ _ _ _); have K4 := ak (show KeepBut W w3 b (some b) by rw [hw]; exact keep_far4 K3.out NW.out _ _ _ _); clear bq hw; have q5 := bc0 BK4; have q6 := bc1 BK4; have q7 := bc2 BK4; have q8 := bc3 BK4; have hv3 : w3.cell? ⟨gv, 0, none⟩ = some (.int .i64 v) := keep_gv K4.out HV.out NE.out)
          | (go_at_call 41; (with_reducible refine (Net_CutNode_1.calls (rd_T39 E (j : Int)) gv v _ hv3).mono ?_); rintro e w4 ⟨rfl, hb⟩; rw [C2.out]; have B5 := ak (Below.trans B4.out (hb.mono (Nat.le_trans S0.out K4.out.1))); have R5 := ak (Kd.R_below R4.out hb); have K5 := ak (keep_trans K4.out (keep_below hb b (some b))); have BK5 := ak (blk_below BK4.out hb); have u5 := bc0 BK5; have u6 := bc1 BK5; have u7 := bc2 BK5; have u8 := bc3 BK5; obtain ⟨⟨z1, z2, z3, z4⟩, z5, z6, z7, z8⟩ := row_cells R5.out i IJ.out; obtain ⟨R6_, G6_⟩ := row_put R5.out i IJ.out (rd_T39 E (j : Int)); have R6 := ak R6_; have G6 := ak G6_; clear R6_ G6_; have nb1 := NG.out; have nb2 : b ≠ gb := fun h => nb1 h.symm; clear hb))
        go_roundg (E.length - (j + 1))
        case measure => have := HK.out; omega
        case rel => exact ⟨i + 1, j + 1, X.set i (rd_T39 E (j : Int)), by first | (rw [hw2]; done) | (simp only [i64_w, hw2]; done) | (go_num; done) | (go_num; rw [hw2]; done), by first | (rw [hw1]; done) | (simp only [i64_w, hw1]; done) | (go_num; done) | (go_num; rw [hw1]; done), ⟨by have := HK.out; omega⟩, ⟨DX.out.keep C1.out (by unfold stays; rw [C2.out]; rfl)⟩, R6, ⟨B5.out.grown G6.out (Nat.le_trans S0.out K5.out.1) (fun k hk => by injection hk with hk; subst hk; exact BB.out)⟩, ⟨keep_trans K5.out (KeepBut.of_grown G6.out b)⟩⟩
    · have c1a : decide (j < E.length) = false := decide_eq_false c1
      have c1b : decide ((j : Int) < (E.length : Int)) = false := decide_eq_false (by omega)
      obtain ⟨d1, d2, d3⟩ := DX.out.done c1
      clear c1
      have d4 : ¬ cap = i := by have := LC.out; omega
      have d5 : 0 ≤ (i : Int) := by omega
      have d6 : (i : Int) ≤ (E.length : Int) := by omega
      have d7 : (i : Int) ≤ (cap : Int) := by have := LC.out; omega
      have RT := ak (Kd.R_take (m := i) R2.out (by have := DX.out.len; omega))
      have D1 := ak d1
      have D2 := ak d2
      have D3 := ak d3
      clear d1 d2
      go_wp2_with (first
        | ((with_reducible refine gate_builtin (b := .clear) (xs := #[.tmp 38]) rfl ?_); refine clear_event rfl (.tmp 38) rfl (g := b) (m := i) (cnt := E.length - i) (c2 := cap - i) (xs := X.take i) (by first | rfl | (go_simp; done)) RT.out (by have := D3.out; omega) (by have := D3.out; have := LC.out; omega) ?_; intro w5 h5 h6; have R9 := ak h5; have G9 := ak h6; clear h5 h6))
      go_ret
      rw [D2.out, ← D1.out]
      exact ⟨rfl, R9.out, B2.out.grown G9.out WS.out (fun k hk => by injection hk with hk; subst hk; exact BB.out), keep_trans K2.out (KeepBut.of_grown G9.out b)⟩
end Go.Proofs.Ytpmclhkednehhaa.Q
/- A node is cut: what its walk needs; typed by hand. -/
set_option linter.unusedVariables false
set_option linter.unusedSimpArgs false
namespace Go.Proofs.Ytpmclhkednehhaa.Q
open Go.RowKit Go.Proofs.YtpmclhkednehhaaW.PrintWords Go.Proofs.YtpmclhkednehhaaW.PrintLast Go.Proofs.YtpmclhkednehhaaW.PrintMore
theorem filter_none (v : Int) (E : List S39) (h : ∀ i : Nat, i < E.length → ends v (rd_T39 E (i : Int)) = false) : E.filter (stays v) = E := by
  have := filter_all (stays v) E E.length (Nat.le_refl _) (fun i hi => by unfold stays; rw [h i hi]; rfl)
  rwa [List.take_of_length_le (Nat.le_refl _)] at this
/-- The edges at a node are deleted from a net's row. -/
theorem slices_DeleteFunc.calls (w0 : World) (p : Nat) (n : Int) (gv : Nat) (v : Int) (A : Option Addr) (cap : Nat) (E : List S39) (W : World) (h : NS w0 p n (.slice A E.length cap) E W) (hl : E.length ≤ 4096) (hv : W.heap[gv]? = some (.cells #[.int .i64 v] 3 (0, 0))) :
    Calls Try.prog 40 #[.slice A E.length cap, .func (.func 41) #[] #[.pointer (some ⟨gv, 0, none⟩)]] W fun x w' => x = .returned (.slice A (E.filter (stays v)).length cap) ∧ NS w0 p n (.slice A E.length cap) E W ∧ w'.heap[p]? = some (.cells #[.int .i64 n, .slice A E.length cap] 44 (0, 0)) ∧ w'.heap[gv]? = some (.cells #[.int .i64 v] 3 (0, 0)) ∧ Below w0.heap.size w0 w' ∧ Kd.R k39 39 w' w0.heap.size (fun _ => True) (.slice A (E.filter (stays v)).length cap) (E.filter (stays v)) ∧ KeepBut W w' p (Value.slice A E.length cap).ownBlock := by
  have hc : W.cell? ⟨gv, 0, none⟩ = some (.int .i64 v) := (blk_cell hv 0).trans rfl
  by_cases hn : ∃ i : Nat, i < E.length ∧ ends v (rd_T39 E (i : Int)) = true
  · have hn0 := hn
    obtain ⟨i, hi, -⟩ := hn
    obtain ⟨b, cp, ea, -⟩ := Kd.R_form h.row (by omega)
    injection ea with e1 e2 e3
    subst e1
    have nv : some gv ≠ some b := Kd.R_ne h.row hv (by decide)
    have np : some p ≠ some b := Kd.R_ne h.row h.bp (by decide)
    refine (slices_DeleteFunc.some_ w0 gv v w0.heap.size b cap E (fun _ => True) W h.row h.below (below_size h.below) hl hc (fun e => nv (by rw [e])) hn0).mono ?_
    rintro x w' ⟨rfl, h1, h2, h3⟩
    exact ⟨rfl, h, (h3.2 p (blk_lt h.bp) (fun e => np (by rw [e])) np).trans h.bp, (h3.2 gv (blk_lt hv) (fun e => nv (by rw [e])) nv).trans hv, h2, h1, ⟨h3.1, fun k hk _ h5 => h3.2 k hk (fun e => h5 (by rw [e]; rfl)) h5⟩⟩
  · have hn0 : ∀ i : Nat, i < E.length → ends v (rd_T39 E (i : Int)) = false := fun i hi => by
      rcases hb : ends v (rd_T39 E (i : Int)) with _ | _
      · rfl
      · exact absurd ⟨i, hi, hb⟩ hn
    rw [filter_none v E hn0]
    refine (slices_DeleteFunc.none_ gv v A cap E W (Kd.R_reads' h.row).2.2 hl hc hn0).mono ?_
    rintro x w' ⟨rfl, hb⟩
    have q := h.later hb
    exact ⟨rfl, h, q.bp, blk_below hv hb, q.below, q.row, keep_below hb _ _⟩
/-- A number behind a node that is gone. -/
def decv (v x : Int) : Int := if x > v then x - 1 else x
def decE (v : Int) (e : S39) : S39 := ⟨decv v e.f0, decv v e.f1, e.f2, e.f3⟩
section
variable {W : World} {base b m cap : Nat} {ok : Nat → Prop} {X : List S39}
theorem row_put0 (h : Kd.R k39 39 W base ok (.slice (some ⟨b, 0, none⟩) m cap) X) (i : Nat) (h1 : i < m) (x : Int) :
    Kd.R k39 39 (W.setCell ⟨b, i * 4, none⟩ (.int .i64 x)) base ok (.slice (some ⟨b, 0, none⟩) m cap) (X.set i ⟨x, (rd_T39 X (i : Int)).f1, (rd_T39 X (i : Int)).f2, (rd_T39 X (i : Int)).f3⟩) ∧ W.grownBy (W.setCell ⟨b, i * 4, none⟩ (.int .i64 x)) (some b) := by
  obtain ⟨c, hl, hM, hc, hf⟩ := Kd.R_elem h z39 (i : Int) (by omega) (by omega)
  obtain ⟨a, g⟩ := Kd.R_seg h (i : Int) (by omega) (by omega) (seg := [.int .i64 x]) (j := 0) (okp := fun k => ok k ∧ k ≠ b) (x' := (⟨x, (rd_T39 X (i : Int)).f1, (rd_T39 X (i : Int)).f2, (rd_T39 X (i : Int)).f3⟩ : S39)) hl hc (by show 0 + 1 ≤ 4; omega) (by obtain rfl := k39_openM hM; exact k39_mkM _ _ _ (⟨x, (rd_T39 X (i : Int)).f1, (rd_T39 X (i : Int)).f2, (rd_T39 X (i : Int)).f3⟩ : S39)) (fun k hk => hk)
  rw [Int.toNat_natCast] at a g
  exact ⟨a, g⟩
theorem row_put1 (h : Kd.R k39 39 W base ok (.slice (some ⟨b, 0, none⟩) m cap) X) (i : Nat) (h1 : i < m) (x : Int) :
    Kd.R k39 39 (W.setCell ⟨b, i * 4 + 1, none⟩ (.int .i64 x)) base ok (.slice (some ⟨b, 0, none⟩) m cap) (X.set i ⟨(rd_T39 X (i : Int)).f0, x, (rd_T39 X (i : Int)).f2, (rd_T39 X (i : Int)).f3⟩) ∧ W.grownBy (W.setCell ⟨b, i * 4 + 1, none⟩ (.int .i64 x)) (some b) := by
  obtain ⟨c, hl, hM, hc, hf⟩ := Kd.R_elem h z39 (i : Int) (by omega) (by omega)
  obtain ⟨a, g⟩ := Kd.R_seg h (i : Int) (by omega) (by omega) (seg := [.int .i64 x]) (j := 1) (okp := fun k => ok k ∧ k ≠ b) (x' := (⟨(rd_T39 X (i : Int)).f0, x, (rd_T39 X (i : Int)).f2, (rd_T39 X (i : Int)).f3⟩ : S39)) hl hc (by show 1 + 1 ≤ 4; omega) (by obtain rfl := k39_openM hM; exact k39_mkM _ _ _ (⟨(rd_T39 X (i : Int)).f0, x, (rd_T39 X (i : Int)).f2, (rd_T39 X (i : Int)).f3⟩ : S39)) (fun k hk => hk)
  rw [Int.toNat_natCast] at a g
  exact ⟨a, g⟩
end
/-- The states of the loop that lowers the numbers. -/
structure CN (w0 W0 : World) (p : Nat) (n : Int) (A : Option Addr) (m cap gv : Nat) (v : Int) (Y : List S39) (W : World) : Prop where
  ns : NS w0 p n (.slice A m cap) Y W
  keep : KeepBut W0 W p (Value.slice A m cap).ownBlock
  gvb : W.heap[gv]? = some (.cells #[.int .i64 v] 3 (0, 0))
section
variable {w0 W0 W : World} {p b m cap gv : Nat} {n v : Int} {Y : List S39} {A : Option Addr}
theorem CN.later (h : CN w0 W0 p n A m cap gv v Y W) {W' : World} (hb : Below W.heap.size W W') : CN w0 W0 p n A m cap gv v Y W' := ⟨h.ns.later hb, keep_trans h.keep (keep_below hb _ _), blk_below h.gvb hb⟩
theorem CN.v0 (h : CN w0 W0 p n A m cap gv v Y W) : W.cell? ⟨gv, 0, none⟩ = some (.int .i64 v) := (blk_cell h.gvb 0).trans rfl
theorem CN.grown (h : CN w0 W0 p n (some ⟨b, 0, none⟩) m cap gv v Y W) {W' : World} {Y' : List S39} (a : Kd.R k39 39 W' w0.heap.size (fun _ => True) (.slice (some ⟨b, 0, none⟩) m cap) Y') (g : W.grownBy W' (some b)) : CN w0 W0 p n (some ⟨b, 0, none⟩) m cap gv v Y' W' :=
  ⟨⟨h.ns.below.grown g (below_size h.ns.below) (fun k hk => by injection hk with hk; subst hk; exact Kd.R_base h.ns.row _ rfl), blk_grown h.ns.bp g (Kd.R_ne h.ns.row h.ns.bp (by decide)), h.ns.p0, a⟩, keep_trans h.keep (KeepBut.of_grown g p), blk_grown h.gvb g (Kd.R_ne h.ns.row h.gvb (by decide))⟩
theorem CN.put0 (h : CN w0 W0 p n (some ⟨b, 0, none⟩) m cap gv v Y W) (i : Nat) (h1 : i < m) (x : Int) : CN w0 W0 p n (some ⟨b, 0, none⟩) m cap gv v (Y.set i ⟨x, (rd_T39 Y (i : Int)).f1, (rd_T39 Y (i : Int)).f2, (rd_T39 Y (i : Int)).f3⟩) (W.setCell ⟨b, i * 4, none⟩ (.int .i64 x)) := by
  obtain ⟨a, g⟩ := row_put0 h.ns.row i h1 x
  exact h.grown a g
theorem CN.put1 (h : CN w0 W0 p n (some ⟨b, 0, none⟩) m cap gv v Y W) (i : Nat) (h1 : i < m) (x : Int) : CN w0 W0 p n (some ⟨b, 0, none⟩) m cap gv v (Y.set i ⟨(rd_T39 Y (i : Int)).f0, x, (rd_T39 Y (i : Int)).f2, (rd_T39 Y (i : Int)).f3⟩) (W.setCell ⟨b, i * 4 + 1, none⟩ (.int .i64 x)) := by
  obtain ⟨a, g⟩ := row_put1 h.ns.row i h1 x
  exact h.grown a g
end
/-- The numbers are lowered in the first edges. -/
structure Low (v : Int) (E Y : List S39) (i : Nat) : Prop where
  len : Y.length = E.length
  front : ∀ k : Nat, k < i → k < E.length → rd_T39 Y (k : Int) = decE v (rd_T39 E (k : Int))
  back : ∀ k : Nat, i ≤ k → k < E.length → rd_T39 Y (k : Int) = rd_T39 E (k : Int)
theorem rd_set (Y : List S39) (i k : Nat) (x : S39) (h : k < Y.length) : rd_T39 (Y.set i x) (k : Int) = if i = k then x else rd_T39 Y (k : Int) := by
  rw [rd_nat _ k (by rw [List.length_set]; exact h), rd_nat Y k h, List.getElem_set]
theorem Low.start (v : Int) (E : List S39) : Low v E E 0 := ⟨rfl, fun k hk _ => absurd hk (Nat.not_lt_zero k), fun _ _ _ => rfl⟩
theorem Low.step {v : Int} {E Y : List S39} {i : Nat} (h : Low v E Y i) (hi : i < E.length) {x : S39} (hx : x = decE v (rd_T39 E (i : Int))) : Low v E (Y.set i x) (i + 1) := by
  subst hx
  refine ⟨by rw [List.length_set]; exact h.len, fun k hk hk2 => ?_, fun k hk hk2 => ?_⟩
  · rw [rd_set Y i k _ (by rw [h.len]; exact hk2)]
    by_cases e : i = k
    · rw [if_pos e, e]
    · rw [if_neg e]; exact h.front k (by omega) hk2
  · rw [rd_set Y i k _ (by rw [h.len]; exact hk2), if_neg (by omega)]
    exact h.back k (by omega) hk2
theorem Low.stay {v : Int} {E Y : List S39} {i : Nat} (h : Low v E Y i) (hi : i < E.length) (hx : rd_T39 E (i : Int) = decE v (rd_T39 E (i : Int))) : Low v E Y (i + 1) := by
  refine ⟨h.len, fun k hk hk2 => ?_, fun k hk hk2 => h.back k (by omega) hk2⟩
  by_cases e : k = i
  · subst e
    rw [h.back k (Nat.le_refl _) hk2]
    exact hx
  · exact h.front k (by omega) hk2
theorem Low.done {v : Int} {E Y : List S39} {i : Nat} (h : Low v E Y i) (hi : ¬ i < E.length) : Y = E.map (decE v) := by
  refine List.ext_getElem (by rw [List.length_map]; exact h.len) fun k h1 h2 => ?_
  have hk : k < E.length := by rw [← h.len]; exact h1
  rw [← rd_nat Y k h1, h.front k (by omega) hk, List.getElem_map, rd_nat E k hk]
end Go.Proofs.Ytpmclhkednehhaa.Q
/- A node is cut: the walk; typed by hand. -/
set_option linter.unusedVariables false
set_option linter.unusedSimpArgs false
namespace Go.Proofs.Ytpmclhkednehhaa.Q
open Go.RowKit Go.Proofs.YtpmclhkednehhaaW.PrintWords Go.Proofs.YtpmclhkednehhaaW.PrintLast Go.Proofs.YtpmclhkednehhaaW.PrintMore
/-- An edge of which the first ends have been lowered. -/
def stage (v : Int) (k : Nat) (e : S39) : S39 := if k = 0 then e else if k = 1 then ⟨decv v e.f0, e.f1, e.f2, e.f3⟩ else decE v e
theorem stage_yes0 {v : Int} {e : S39} (h : (stage v 0 e).f0 > v) : (⟨(stage v 0 e).f0 - 1, (stage v 0 e).f1, (stage v 0 e).f2, (stage v 0 e).f3⟩ : S39) = stage v 1 e := by
  have h' : e.f0 > v := h
  show (⟨e.f0 - 1, e.f1, e.f2, e.f3⟩ : S39) = ⟨decv v e.f0, e.f1, e.f2, e.f3⟩
  unfold decv
  rw [if_pos h']
theorem stage_no0 {v : Int} {e : S39} (h : ¬ (stage v 0 e).f0 > v) : stage v 0 e = stage v 1 e := by
  have h' : ¬ e.f0 > v := h
  show e = ⟨decv v e.f0, e.f1, e.f2, e.f3⟩
  unfold decv
  rw [if_neg h']
theorem stage_yes1 {v : Int} {e : S39} (h : (stage v 1 e).f1 > v) : (⟨(stage v 1 e).f0, (stage v 1 e).f1 - 1, (stage v 1 e).f2, (stage v 1 e).f3⟩ : S39) = stage v 2 e := by
  have h' : e.f1 > v := h
  show (⟨decv v e.f0, e.f1 - 1, e.f2, e.f3⟩ : S39) = ⟨decv v e.f0, decv v e.f1, e.f2, e.f3⟩
  rw [show decv v e.f1 = e.f1 - 1 from if_pos h']
theorem stage_no1 {v : Int} {e : S39} (h : ¬ (stage v 1 e).f1 > v) : stage v 1 e = stage v 2 e := by
  have h' : ¬ e.f1 > v := h
  show (⟨decv v e.f0, e.f1, e.f2, e.f3⟩ : S39) = ⟨decv v e.f0, decv v e.f1, e.f2, e.f3⟩
  rw [show decv v e.f1 = e.f1 from if_neg h']
structure Mid (v : Int) (Y Z : List S39) (i k : Nat) : Prop where
  len : Z.length = Y.length
  here : rd_T39 Z (i : Int) = stage v k (rd_T39 Y (i : Int))
  there : ∀ j : Nat, j ≠ i → j < Y.length → rd_T39 Z (j : Int) = rd_T39 Y (j : Int)
theorem Mid.start (v : Int) (Y : List S39) (i : Nat) : Mid v Y Y i 0 := ⟨rfl, rfl, fun _ _ _ => rfl⟩
theorem Mid.set {v : Int} {Y Z : List S39} {i k : Nat} (h : Mid v Y Z i k) (hi : i < Y.length) {x : S39} (hx : x = stage v (k + 1) (rd_T39 Y (i : Int))) : Mid v Y (Z.set i x) i (k + 1) := by
  refine ⟨by rw [List.length_set]; exact h.len, ?_, fun j hj hl => ?_⟩
  · rw [rd_set Z i i x (by rw [h.len]; exact hi), if_pos rfl, hx]
  · rw [rd_set Z i j x (by rw [h.len]; exact hl), if_neg (fun e => hj e.symm)]
    exact h.there j hj hl
theorem Mid.stay {v : Int} {Y Z : List S39} {i k : Nat} (h : Mid v Y Z i k) (hx : stage v k (rd_T39 Y (i : Int)) = stage v (k + 1) (rd_T39 Y (i : Int))) : Mid v Y Z i (k + 1) := ⟨h.len, h.here.trans hx, h.there⟩
theorem Low.mid {v : Int} {E Y Z : List S39} {i : Nat} (h : Low v E Y i) (m : Mid v Y Z i 2) (hi : i < E.length) : Low v E Z (i + 1) := by
  refine ⟨m.len.trans h.len, fun k hk hk2 => ?_, fun k hk hk2 => ?_⟩
  · by_cases e : k = i
    · subst e
      rw [m.here, h.back k (Nat.le_refl _) hk2]
      rfl
    · rw [m.there k e (by rw [h.len]; exact hk2)]
      exact h.front k (by omega) hk2
  · rw [m.there k (by omega) (by rw [h.len]; exact hk2)]
    exact h.back k (by omega) hk2
theorem Net_CutNode.out (p : Nat) (n : Int) (v : Int) (x : Value) (W : World) (h : W.heap[p]? = some (.cells #[.int .i64 n, x] 44 (0, 0))) (hv : (decide (0 ≤ v) && decide (v < n)) = false) :
    Calls Try.prog 26 #[.pointer (some ⟨p, 0, none⟩), .int .i64 v] W fun e w' => e = .returned (.int .i64 30) ∧ Below W.heap.size W w' := by
  have hu44 := Try.underlying44
  have HP := ak h
  have D0 := ak hv
  have HB := ak (Below.refl W.heap.size W)
  clear h hv
  go_enter Try.func26, Try.ntmps26
  go_wp2_with (first
    | ((with_reducible refine gate_dst (N := 3) rfl ?_); refine box_event ?hg (N := 3) ?hd (cs := #[.int .i64 v]) (t := 3) ?hr ?_; (case hd => rfl); (case hg => rfl); (case hr => first | (go_simp; done) | (go_simp; rfl)); intro gv hg w1 bv hb; have HB1 := ak (below_step HB.out hb); have BV := ak bv; have BP := ak (blk_below HP.out hb); clear hb bv hg))
  go_region_held3 (fun w' => w'.cell? ⟨gv, 0, none⟩ = some (.int .i64 v)) (exact bc0 (ak (bx BV.out)))
    (first | (go_at_call 33; (with_reducible refine (shape_node.calls p n v _ (bc0 (ak (bx BP.out)))).mono ?_); rintro e w' ⟨rfl, rfl⟩; rw [D0.out]))
  go_wp2
  go_ret
  exact ⟨rfl, below_drew HB1.out⟩
set_option maxHeartbeats 8000000 in
set_option maxRecDepth 100000 in
theorem Net_CutNode.did (w0 : World) (p : Nat) (n : Int) (v : Int) (A : Option Addr) (cap : Nat) (E : List S39) (W : World) (h : NS w0 p n (.slice A E.length cap) E W) (hl : E.length ≤ 4096) (h0 : 0 ≤ v) (h1 : v < n) (hn : n ≤ 1024) (he : ∀ e ∈ E, 0 ≤ e.f0 ∧ e.f0 < n ∧ 0 ≤ e.f1 ∧ e.f1 < n) :
    Calls Try.prog 26 #[.pointer (some ⟨p, 0, none⟩), .int .i64 v] W fun e w' => e = .returned (.int .i64 0) ∧ Did w0 W w' p (.slice A E.length cap) (n - 1) ((E.filter (stays v)).map (decE v)) := by
  have hu44 := Try.underlying44
  have hu42 := Try.underlying42
  have hu39 := Try.underlying39
  have hu22 := Try.underlying22
  have hmf : ∀ (fn : Fn) (first cap : Array Value) (w : World), (Instr.makeFunc fn first cap).run Try.prog w = .ok (.func fn first cap) w := fun _ _ _ _ => rfl
  have D0 := ak (show (decide (0 ≤ v) && decide (v < n)) = true by rw [decide_eq_true h0, decide_eq_true h1]; rfl)
  have V0 := ak h0
  have V1 := ak h1
  have N1 := ak hn
  have N0 := ak h
  have HL := ak hl
  have HE := ak he
  have K0 := ak (Below.refl W.heap.size W)
  clear h hl h0 h1 hn he
  go_enter Try.func26, Try.ntmps26
  go_wp2_with (first
    | ((with_reducible refine gate_dst (N := 3) rfl ?_); refine box_event ?hg (N := 3) ?hd (cs := #[.int .i64 v]) (t := 3) ?hr ?_; (case hd => rfl); (case hg => rfl); (case hr => first | (go_simp; done) | (go_simp; rfl)); intro gv hg w1 bv hb; have K1 := ak (below_step K0.out hb); have BV := ak bv; have N2 := ak (N0.out.later hb); clear hb bv hg))
  go_region_held3 (fun w' => w'.cell? ⟨gv, 0, none⟩ = some (.int .i64 v)) (exact bc0 (ak (bx BV.out)))
    (first | (go_at_call 33; (with_reducible refine (shape_node.calls p n v _ ((blk_cell (bx N2.out.bp) 0).trans rfl)).mono ?_); rintro e w' ⟨rfl, rfl⟩; rw [D0.out]))
  have N3 := ak (N2.out.later (below_drew (Below.refl _ _)))
  have K3 := ak (below_drew K1.out)
  have BV3 := ak (blk_drew BV.out)
  have k0 := N2.out.c1
  go_wp2_with (first
    | (go_at_call 40; (with_reducible refine (slices_DeleteFunc.calls w0 p n gv v A cap E _ N3.out HL.out BV3.out).mono ?_); rintro e w3 ⟨rfl, -, h3, h4, h5, h6, h7⟩; have BP4 := ak h3; have BV4 := ak h4; have B4 := ak h5; have R4 := ak h6; have K4 := ak (keep_trans (keep_below K3.out _ _) h7); clear h3 h4 h5 h6 h7; have k1 := bc1 BP4; have k2 := bf BP4 1))
  clear k0 k1 k2
  have GP := ak (show gv ≠ p from fun e => by
    have h1 := BP4.out
    rw [← e, BV4.out] at h1
    injection h1 with h1
    injection h1 with _ h1
    exact absurd h1 (by decide))
  have P0 := ak N0.out.p0
  obtain ⟨E1, ee⟩ : ∃ m, m = E.filter (stays v) := ⟨_, rfl⟩
  rw [← ee] at R4 ⊢
  have C0 := ak (show CN w0 W p n A E1.length cap gv v E1 (w3.setCell ⟨p, 1, none⟩ (.slice A E1.length cap)) from ⟨⟨below_set B4.out P0.out, blk_put BP4.out 1 _ rfl, P0.out, Kd.R_set R4.out BP4.out (by decide) 1 _⟩, keep_trans (by cases A <;> exact K4.out) (keep_set _ _ _ _ _), blk_far BV4.out GP.out _⟩)
  generalize w3.setCell ⟨p, 1, none⟩ (.slice A E1.length cap) = w5 at C0 ⊢
  have HE1 := ak (show ∀ e ∈ E1, 0 ≤ e.f0 ∧ e.f0 < n ∧ 0 ≤ e.f1 ∧ e.f1 < n from fun e h => HE.out e (by rw [ee] at h; exact (List.mem_filter.mp h).1))
  have HL1 := ak (show E1.length ≤ 4096 by rw [ee]; exact Nat.le_trans (List.length_filter_le _ _) HL.out)
  have EE := ak ee
  have OB := ak (show (Value.slice A E.length cap).ownBlock = (Value.slice A E1.length cap).ownBlock by cases A <;> rfl)
  clear ee N0 N2 N3 K1 K3 BV BV3 BP4 BV4 B4 R4 K4 GP
  go_loopg [31] E1.length (fun kq v31 w' => ∃ (i : Nat) (Y : List S39), v31 = .int .i64 (i : Int) ∧ Aside0 (kq + i = E1.length) ∧ Aside0 (Low v E1 Y i) ∧ Aside0 (CN w0 W p n A E1.length cap gv v Y w'))
  case atStart => exact ⟨0, E1, rfl, ⟨rfl⟩, ⟨Low.start v E1⟩, C0⟩
  case round =>
    clear C0
    obtain ⟨i, Y, rfl, HK, LY, C1⟩ := hrel
    by_cases c1 : i < E1.length
    · have c1a : decide (i < E1.length) = true := decide_eq_true c1
      have c1b : decide ((i : Int) < (E1.length : Int)) = true := decide_eq_true (by omega)
      have I1 := ak c1
      obtain ⟨b, cp, ea, -⟩ := Kd.R_form C1.out.ns.row (by rw [LY.out.len]; omega)
      injection ea with e1 e2 e3
      subst e1
      clear e2 e3
      have p0 : 0 ≤ (i : Int) := by omega
      have q0 : (i : Int) < (E1.length : Int) := by omega
      have hw1 : Go.RowKit.wrap64 ((i : Int) + 1) = ((i + 1 : Nat) : Int) := by have := HL1.out; unfold Go.RowKit.wrap64; omega
      go_wp2
      go_region_held3 (fun w' => w'.cell? ⟨p, 1, none⟩ = some (.slice (some ⟨b, 0, none⟩) E1.length cap)) (first | exact (C1.out.later (below_drew (Below.refl _ _))).ns.c1 | exact ((C1.out.later (below_drew (Below.refl _ _))).later (below_alloc (Below.refl _ _) _)).ns.c1) (fail)
      have C2 := ak ((C1.out.later (below_alloc (Below.refl _ _) (.cells #[.pointer (some ⟨b, i * 4, none⟩), .pointer (some ⟨b, i * 4 + 1, none⟩)] 76 (0, 0)))).later (below_drew (Below.refl _ _)))
      have BA := ak (blk_drew (blk_new wr (.cells #[.pointer (some ⟨b, i * 4, none⟩), .pointer (some ⟨b, i * 4 + 1, none⟩)] 76 (0, 0))))
      have GB := ak (show wr.heap.size ≠ b from fun e => by have := Kd.R_lt C1.out.ns.row b rfl; omega)
      generalize (wr.alloc (.cells #[.pointer (some ⟨b, i * 4, none⟩), .pointer (some ⟨b, i * 4 + 1, none⟩)] 76 (0, 0))).drew = w6 at C2 BA ⊢
      generalize wr.heap.size = ga at BA GB ⊢
      clear C1
      go_wp2
      go_loopg [52] 2 (fun kq v52 w' => ∃ (k : Nat) (Z : List S39), v52 = .int .i64 (k : Int) ∧ Aside0 (kq + k = 2) ∧ Aside0 (Mid v Y Z i k) ∧ Aside0 (CN w0 W p n (some ⟨b, 0, none⟩) E1.length cap gv v Z w') ∧ Aside0 (w'.heap[ga]? = some (.cells #[.pointer (some ⟨b, i * 4, none⟩), .pointer (some ⟨b, i * 4 + 1, none⟩)] 76 (0, 0))))
      case atStart => exact ⟨0, Y, rfl, ⟨rfl⟩, ⟨Mid.start v Y i⟩, C2, BA⟩
      case round =>
        clear C2 BA
        obtain ⟨k, Z, rfl, HK2, MZ, C3, BA3⟩ := hrel
        by_cases c2 : k < 2
        · obtain ⟨⟨q1, q2, q3, q4⟩, q5, q6, q7, q8⟩ := row_cells C3.out.ns.row i I1.out
          have z3 := C3.out.v0
          have EB := HE1.out (rd_T39 E1 (i : Int)) (by rw [rd_nat E1 i I1.out]; exact List.getElem_mem I1.out)
          have EY := LY.out.back i (Nat.le_refl _) I1.out
          have n1024 := N1.out
          rcases (by omega : k = 0 ∨ k = 1) with e | e
          · subst e
            have FB0 : 0 ≤ (rd_T39 Z (i : Int)).f0 ∧ (rd_T39 Z (i : Int)).f0 < n := by
              rw [MZ.out.here]
              show 0 ≤ (rd_T39 Y (i : Int)).f0 ∧ (rd_T39 Y (i : Int)).f0 < n
              rw [EY]
              exact ⟨EB.1, EB.2.1⟩
            have FB := ak FB0
            clear FB0 EB EY c2
            by_cases c4 : (rd_T39 Z (i : Int)).f0 > v
            · have g1 : decide ((rd_T39 Z (i : Int)).f0 > v) = true := decide_eq_true c4
              have g2 : decide (v < (rd_T39 Z (i : Int)).f0) = true := decide_eq_true c4
              have gs : Go.RowKit.wrap64 ((rd_T39 Z (i : Int)).f0 - 1) = (rd_T39 Z (i : Int)).f0 - 1 := by have := FB.out; unfold Go.RowKit.wrap64; omega
              have G4 := ak c4
              have N24 := ak n1024
              have z4 : wr.cell? ⟨ga, 0, none⟩ = some (.pointer (some ⟨b, i * 4, none⟩)) := bc0 BA3
              clear c4 n1024
              go_wp2
              go_region_held3 (fun w' => w'.cell? ⟨b, i * 4, none⟩ = some (.int .i64 (rd_T39 Z (i : Int)).f0) ∧ w'.cell? ⟨gv, 0, none⟩ = some (.int .i64 v)) (exact ⟨q1, z3⟩) (fail)
              have C4 := ak ((C3.out.later (below_drew (Below.refl _ _))).put0 i I1.out ((rd_T39 Z (i : Int)).f0 - 1))
              have BA4 := ak (blk_far (blk_drew BA3.out) GB.out (.int .i64 ((rd_T39 Z (i : Int)).f0 - 1)) (p := ⟨b, i * 4, none⟩))
              go_wp2
              go_roundg (2 - (0 + 1))
              case measure => have := HK2.out; omega
              case rel => exact ⟨0 + 1, Z.set i ⟨(rd_T39 Z (i : Int)).f0 - 1, (rd_T39 Z (i : Int)).f1, (rd_T39 Z (i : Int)).f2, (rd_T39 Z (i : Int)).f3⟩, rfl, ⟨by have := HK2.out; omega⟩, ⟨MZ.out.set (by rw [LY.out.len]; exact I1.out) (by have := G4.out; rw [MZ.out.here] at this ⊢; exact stage_yes0 this)⟩, by first | exact C4 | (simp only [gs]; exact C4), by first | exact BA4 | (simp only [gs]; exact BA4)⟩
            · have g1 : decide ((rd_T39 Z (i : Int)).f0 > v) = false := decide_eq_false c4
              have g2 : decide (v < (rd_T39 Z (i : Int)).f0) = false := decide_eq_false c4
              have G4 := ak c4
              have z4 : wr.cell? ⟨ga, 0, none⟩ = some (.pointer (some ⟨b, i * 4, none⟩)) := bc0 BA3
              clear c4 n1024
              go_wp2
              go_region_held3 (fun w' => w'.cell? ⟨b, i * 4, none⟩ = some (.int .i64 (rd_T39 Z (i : Int)).f0) ∧ w'.cell? ⟨gv, 0, none⟩ = some (.int .i64 v)) (exact ⟨q1, z3⟩) (fail)
              go_wp2
              go_roundg (2 - (0 + 1))
              case measure => have := HK2.out; omega
              case rel => exact ⟨0 + 1, Z, rfl, ⟨by have := HK2.out; omega⟩, ⟨MZ.out.stay (by have := G4.out; rw [MZ.out.here] at this; exact stage_no0 (by omega))⟩, ⟨C3.out.later (below_drew (Below.refl _ _))⟩, ⟨blk_drew BA3.out⟩⟩
          · subst e
            have FB0 : 0 ≤ (rd_T39 Z (i : Int)).f1 ∧ (rd_T39 Z (i : Int)).f1 < n := by
              rw [MZ.out.here]
              show 0 ≤ (rd_T39 Y (i : Int)).f1 ∧ (rd_T39 Y (i : Int)).f1 < n
              rw [EY]
              exact ⟨EB.2.2.1, EB.2.2.2⟩
            have FB := ak FB0
            clear FB0 EB EY c2
            by_cases c4 : (rd_T39 Z (i : Int)).f1 > v
            · have g1 : decide ((rd_T39 Z (i : Int)).f1 > v) = true := decide_eq_true c4
              have g2 : decide (v < (rd_T39 Z (i : Int)).f1) = true := decide_eq_true c4
              have gs : Go.RowKit.wrap64 ((rd_T39 Z (i : Int)).f1 - 1) = (rd_T39 Z (i : Int)).f1 - 1 := by have := FB.out; unfold Go.RowKit.wrap64; omega
              have G4 := ak c4
              have N24 := ak n1024
              have z4 : wr.cell? ⟨ga, 1, none⟩ = some (.pointer (some ⟨b, i * 4 + 1, none⟩)) := bc1 BA3
              clear c4 n1024
              go_wp2
              go_region_held3 (fun w' => w'.cell? ⟨b, i * 4 + 1, none⟩ = some (.int .i64 (rd_T39 Z (i : Int)).f1) ∧ w'.cell? ⟨gv, 0, none⟩ = some (.int .i64 v)) (exact ⟨q2, z3⟩) (fail)
              have C4 := ak ((C3.out.later (below_drew (Below.refl _ _))).put1 i I1.out ((rd_T39 Z (i : Int)).f1 - 1))
              have BA4 := ak (blk_far (blk_drew BA3.out) GB.out (.int .i64 ((rd_T39 Z (i : Int)).f1 - 1)) (p := ⟨b, i * 4 + 1, none⟩))
              go_wp2
              go_roundg (2 - (1 + 1))
              case measure => have := HK2.out; omega
              case rel => exact ⟨1 + 1, Z.set i ⟨(rd_T39 Z (i : Int)).f0, (rd_T39 Z (i : Int)).f1 - 1, (rd_T39 Z (i : Int)).f2, (rd_T39 Z (i : Int)).f3⟩, rfl, ⟨by have := HK2.out; omega⟩, ⟨MZ.out.set (by rw [LY.out.len]; exact I1.out) (by have := G4.out; rw [MZ.out.here] at this ⊢; exact stage_yes1 this)⟩, by first | exact C4 | (simp only [gs]; exact C4), by first | exact BA4 | (simp only [gs]; exact BA4)⟩
            · have g1 : decide ((rd_T39 Z (i : Int)).f1 > v) = false := decide_eq_false c4
              have g2 : decide (v < (rd_T39 Z (i : Int)).f1) = false := decide_eq_false c4
              have G4 := ak c4
              have z4 : wr.cell? ⟨ga, 1, none⟩ = some (.pointer (some ⟨b, i * 4 + 1, none⟩)) := bc1 BA3
              clear c4 n1024
              go_wp2
              go_region_held3 (fun w' => w'.cell? ⟨b, i * 4 + 1, none⟩ = some (.int .i64 (rd_T39 Z (i : Int)).f1) ∧ w'.cell? ⟨gv, 0, none⟩ = some (.int .i64 v)) (exact ⟨q2, z3⟩) (fail)
              go_wp2
              go_roundg (2 - (1 + 1))
              case measure => have := HK2.out; omega
              case rel => exact ⟨1 + 1, Z, rfl, ⟨by have := HK2.out; omega⟩, ⟨MZ.out.stay (by have := G4.out; rw [MZ.out.here] at this; exact stage_no1 (by omega))⟩, ⟨C3.out.later (below_drew (Below.refl _ _))⟩, ⟨blk_drew BA3.out⟩⟩
        · have ek : k = 2 := by have := HK2.out; omega
          subst ek
          go_wp2
          go_roundg (E1.length - (i + 1))
          case measure => have := HK.out; omega
          case rel => exact ⟨i + 1, Z, by first | (rw [hw1]; done) | (simp only [i64_w, hw1]; done) | (go_num; done) | (go_num; rw [hw1]; done), ⟨by have := HK.out; have := I1.out; omega⟩, ⟨LY.out.mid MZ.out I1.out⟩, C3⟩
    · have c1a : decide (i < E1.length) = false := decide_eq_false c1
      have c1b : decide ((i : Int) < (E1.length : Int)) = false := decide_eq_false (by omega)
      have EY := LY.out.done c1
      subst EY
      clear c1
      have k0 := C1.out.ns.c0
      have k1 := blk_frozen C1.out.ns.bp 0
      have s1 : Go.RowKit.wrap64 (n - 1) = n - 1 := by have := N1.out; have := V0.out; have := V1.out; unfold Go.RowKit.wrap64; omega
      have s2 : IntKind.i64.wrap (n - 1) = n - 1 := by rw [i64_w]; exact s1
      go_wp2
      go_ret
      have ns := C1.out.ns
      have len : (E1.map (decE v)).length = E1.length := List.length_map _
      rw [← EE.out]
      refine ⟨rfl, A, cap, ?_, ?_, .inl ?_⟩
      · rw [len]
        exact ⟨below_set ns.below ns.p0, blk_put ns.bp 0 _ rfl, ns.p0, Kd.R_set ns.row ns.bp (by decide) 0 _⟩
      · rw [OB.out]
        exact keep_trans C1.out.keep (keep_set _ _ _ _ _)
      · rw [OB.out, len]
/-- What CutNode answers, and the nodes and edges then. -/
def cutN (n : Int) (E : List S39) (v : Int) : Int × Int × List S39 := if 0 ≤ v ∧ v < n then (0, n - 1, (E.filter (stays v)).map (decE v)) else (30, n, E)
theorem Net_CutNode.calls (w0 : World) (p : Nat) (n : Int) (A : Option Addr) (cap : Nat) (E : List S39) (v : Int) (W : World) (h : NS w0 p n (.slice A E.length cap) E W) (hl : E.length ≤ 4096) (hn : n ≤ 1024) (he : ∀ e ∈ E, 0 ≤ e.f0 ∧ e.f0 < n ∧ 0 ≤ e.f1 ∧ e.f1 < n) :
    Calls Try.prog 26 #[.pointer (some ⟨p, 0, none⟩), .int .i64 v] W fun e w' => e = .returned (.int .i64 (cutN n E v).1) ∧ Did w0 W w' p (.slice A E.length cap) (cutN n E v).2.1 (cutN n E v).2.2 := by
  unfold cutN
  by_cases a : 0 ≤ v ∧ v < n
  · rw [if_pos a]
    exact Net_CutNode.did w0 p n v A cap E W h hl a.1 a.2 hn he
  · rw [if_neg a]
    refine (Net_CutNode.out p n v _ W h.bp (by rw [Bool.and_eq_false_iff, decide_eq_false_iff_not, decide_eq_false_iff_not]; omega)).mono ?_
    rintro e w' ⟨rfl, hb⟩
    exact ⟨rfl, Did.same h hb⟩
end Go.Proofs.Ytpmclhkednehhaa.Q
/- A script of edits, its document, and what each edit does: typed by hand. -/
set_option linter.unusedVariables false
set_option linter.unusedSimpArgs false
namespace Go.Proofs.Ytpmclhkednehhaa.Q
open Go.RowKit Go.Proofs.YtpmclhkednehhaaW.PrintWords Go.Proofs.YtpmclhkednehhaaW.PrintLast Go.Proofs.YtpmclhkednehhaaW.PrintMore
/-- One call of a script. -/
structure S53 where
  kd : Int
  pos : Int
  e : S39
def z53 : S53 := ⟨0, 0, z39⟩
def k53 : Kd S53 := Kd.iso (Kd.pair (Kd.int .i64) (Kd.pair (Kd.int .i64) k39)) (fun x : S53 => (x.kd, x.pos, x.e))
theorem k53_open {w : World} {x : S53} {cs : List Value} (h : k53.K w x cs) : cs = [.int .i64 x.kd, .int .i64 x.pos, .int .i64 x.e.f0, .int .i64 x.e.f1, .int .i64 x.e.f2, .int .i64 x.e.f3] := by
  obtain ⟨_, _, rfl, rfl, ⟨_, _, rfl, rfl, h2⟩⟩ := h
  obtain rfl := k39_open h2
  rfl
theorem k53_mk (w : World) (x : S53) : k53.K w x [.int .i64 x.kd, .int .i64 x.pos, .int .i64 x.e.f0, .int .i64 x.e.f1, .int .i64 x.e.f2, .int .i64 x.e.f3] :=
  ⟨[.int .i64 x.kd], [.int .i64 x.pos, .int .i64 x.e.f0, .int .i64 x.e.f1, .int .i64 x.e.f2, .int .i64 x.e.f3], rfl, rfl, ⟨[.int .i64 x.pos], [.int .i64 x.e.f0, .int .i64 x.e.f1, .int .i64 x.e.f2, .int .i64 x.e.f3], rfl, rfl, k39_mk w x.e⟩⟩
def rd_T53 (xs : List S53) (i : Int) : S53 := xs.getD i.toNat z53
theorem at_T53 {w : World} {A : Option Addr} {n : Nat} {xs : List S53} (h : Kd.C k53 w A n xs) (i : Nat) (h1 : i < n) : ∃ ad, A = some ad ∧ w.cell? (ad.add (i * 6)) = some (.int .i64 (rd_T53 xs (i : Int)).kd) ∧ w.cell? ⟨(ad.add (i * 6)).block, (ad.add (i * 6)).off + 1, none⟩ = some (.int .i64 (rd_T53 xs (i : Int)).pos) ∧ w.cell? ⟨(ad.add (i * 6)).block, (ad.add (i * 6)).off + 2, none⟩ = some (.int .i64 (rd_T53 xs (i : Int)).e.f0) ∧ w.cell? ⟨(ad.add (i * 6)).block, (ad.add (i * 6)).off + 3, none⟩ = some (.int .i64 (rd_T53 xs (i : Int)).e.f1) ∧ w.cell? ⟨(ad.add (i * 6)).block, (ad.add (i * 6)).off + 4, none⟩ = some (.int .i64 (rd_T53 xs (i : Int)).e.f2) ∧ w.cell? ⟨(ad.add (i * 6)).block, (ad.add (i * 6)).off + 5, none⟩ = some (.int .i64 (rd_T53 xs (i : Int)).e.f3) := by
  obtain ⟨ad, c, e, _, hK, hc0⟩ := Kd.C_get h z53 (i : Int) (by omega) (by omega)
  rw [Int.toNat_natCast] at hc0
  have hc : ∀ j u, c[j]? = some u → w.cell? (ad.add (i * 6 + j)) = some u := hc0
  rw [Int.toNat_natCast] at hK
  have hK' : k53.K w (rd_T53 xs (i : Int)) c := by unfold rd_T53; rw [Int.toNat_natCast]; exact hK
  obtain rfl := k53_open hK'
  exact ⟨ad, e, hc 0 _ rfl, by rw [← add_field _ _ 1 (by omega)]; exact hc 1 _ rfl, by rw [← add_field _ _ 2 (by omega)]; exact hc 2 _ rfl, by rw [← add_field _ _ 3 (by omega)]; exact hc 3 _ rfl, by rw [← add_field _ _ 4 (by omega)]; exact hc 4 _ rfl, by rw [← add_field _ _ 5 (by omega)]; exact hc 5 _ rfl⟩
/-- One edit: the error's number, and the net then. -/
def editI (o : S53) (s : Int × List S39) : Int × Int × List S39 :=
  if o.kd = 0 then ((nodeI s.1).2.1, (nodeI s.1).2.2, s.2) else if o.kd = 1 then ((addI s.1 s.2 o.e).2.1, s.1, (addI s.1 s.2 o.e).2.2) else if o.kd = 2 then ((setI s.1 s.2 o.pos o.e).1, s.1, (setI s.1 s.2 o.pos o.e).2) else if o.kd = 3 then ((cutI s.2 o.pos).1, s.1, (cutI s.2 o.pos).2) else if o.kd = 4 then cutN s.1 s.2 o.pos else (0, s.1, s.2)
/-- The net behind the first edits of a script. -/
def stI (S : List S53) (n : Int) (E : List S39) : Nat → Int × List S39
  | 0 => (n, E)
  | i + 1 => (editI (rd_T53 S (i : Int)) (stI S n E i)).2
/-- What the walk asks of a net. -/
structure Fine (k : Nat) (s : Int × List S39) : Prop where
  n0 : 0 ≤ s.1
  n1 : s.1 ≤ 1024
  len : s.2.length ≤ 4096
  ends : ∀ e ∈ s.2, 0 ≤ e.f0 ∧ e.f0 < s.1 ∧ 0 ≤ e.f1 ∧ e.f1 < s.1
  chk : graph_Check.f k s.1 s.2 = some (0, 0)
  same : compassref03_Same.f k s.1 s.2 s.1 s.2 = some true
structure compasslaw03_GraphRight.Told (k : Nat) (n : Int) (E : List S39) (S : List S53) (c a a0 : Int) : Prop where
  len : E.length < 4398046511104
  lenS : S.length ≤ 9223372036854775807
  two : graph_Check.f k 2 [] = some (0, a0)
  lab : graph_label.f 0 1 3 0 = some true
  chk : graph_Check.f k n E = some (c, a)
  zero : c = 0 → a = 0
  fine : c = 0 → ∀ i : Nat, i ≤ S.length → Fine k (stI S n E i)
  keep : c = 0 → ∀ i : Nat, i < S.length → (editI (rd_T53 S (i : Int)) (stI S n E i)).1 ≠ 0 → stI S n E (i + 1) = stI S n E i
/-- Made blocks are not the net's: they outlive an edit. -/
theorem Did.made {w0 W W1 W' : World} {p g : Nat} {n : Int} {v : Value} {E : List S39} {o : Obj} (ns : NS w0 p n v E W) (h : KeepBut W1 W' p v.ownBlock) (hg : W.heap.size ≤ g) (ho : W1.heap[g]? = some o) : W'.heap[g]? = some o := by
  refine (h.2 g (blk_lt ho) (fun e => ?_) (fun e => ?_)).trans ho
  · have := blk_lt ns.bp; omega
  · have := Kd.R_lt ns.row g e.symm; omega
theorem Did.rowMade {w0 W W1 W' : World} {p : Nat} {n : Int} {v u : Value} {E X : List S39} {ok : Nat → Prop} (ns : NS w0 p n v E W) (h : KeepBut W1 W' p v.ownBlock) (hr : Kd.R k39 39 W1 W.heap.size ok u X) : Kd.R k39 39 W' W.heap.size ok u X := by
  refine Kd.R_mono (Kd.R_step (Kd.R_bound hr) (fun k hk hk2 => h.2 k hk2 (fun e => ?_) (fun e => ?_))) (fun _ hk => hk.1)
  · have := blk_lt ns.bp; have := hk.2.1; omega
  · have := Kd.R_lt ns.row k e.symm; have := hk.2.1; omega

theorem op0.calls (u : World) (p : Nat) (A : Option Addr) (cap k : Nat) (o : S53) (n2 : Int) (E2 : List S39) (cd n3 : Int) (E3 : List S39) (W : World) (h : NS u p n2 (.slice A E2.length cap) E2 W) (f : Fine k (n2, E2)) (ed : editI o (n2, E2) = (cd, n3, E3)) (hk : o.kd = 0) :
    Calls Try.prog 22 #[.pointer (some ⟨p, 0, none⟩)] W fun e w' => (∃ x : Int, e = .returned (.tuple #[.int .i64 x, .int .i64 cd])) ∧ Did u W w' p (.slice A E2.length cap) n3 E3 := by
  unfold editI at ed
  rw [if_pos hk] at ed
  simp only [Prod.mk.injEq] at ed
  obtain ⟨rfl, rfl, rfl⟩ := ed
  refine (Net_AddNode.calls u p n2 A cap E2 W h f.n0 f.n1).mono ?_
  rintro e w' ⟨rfl, d⟩
  exact ⟨⟨_, rfl⟩, d⟩
theorem op1.calls (u : World) (p : Nat) (A : Option Addr) (cap k : Nat) (o : S53) (n2 : Int) (E2 : List S39) (cd n3 : Int) (E3 : List S39) (W : World) (h : NS u p n2 (.slice A E2.length cap) E2 W) (f : Fine k (n2, E2)) (ed : editI o (n2, E2) = (cd, n3, E3)) (hk : o.kd = 1) :
    Calls Try.prog 23 #[.pointer (some ⟨p, 0, none⟩), .agg #[.int .i64 o.e.f0, .int .i64 o.e.f1, .int .i64 o.e.f2, .int .i64 o.e.f3]] W fun e w' => (∃ x : Int, e = .returned (.tuple #[.int .i64 x, .int .i64 cd])) ∧ Did u W w' p (.slice A E2.length cap) n3 E3 := by
  unfold editI at ed
  rw [if_neg (by omega : ¬ o.kd = 0)] at ed
  rw [if_pos hk] at ed
  simp only [Prod.mk.injEq] at ed
  obtain ⟨rfl, rfl, rfl⟩ := ed
  refine (Net_AddEdge.calls u p n2 A cap E2 o.e W h f.len).mono ?_
  rintro e w' ⟨rfl, d⟩
  exact ⟨⟨_, rfl⟩, d⟩
theorem op2.calls (u : World) (p : Nat) (A : Option Addr) (cap k : Nat) (o : S53) (n2 : Int) (E2 : List S39) (cd n3 : Int) (E3 : List S39) (W : World) (h : NS u p n2 (.slice A E2.length cap) E2 W) (f : Fine k (n2, E2)) (ed : editI o (n2, E2) = (cd, n3, E3)) (hk : o.kd = 2) :
    Calls Try.prog 24 #[.pointer (some ⟨p, 0, none⟩), .int .i64 o.pos, .agg #[.int .i64 o.e.f0, .int .i64 o.e.f1, .int .i64 o.e.f2, .int .i64 o.e.f3]] W fun e w' => e = .returned (.int .i64 cd) ∧ Did u W w' p (.slice A E2.length cap) n3 E3 := by
  unfold editI at ed
  rw [if_neg (by omega : ¬ o.kd = 0)] at ed
  rw [if_neg (by omega : ¬ o.kd = 1)] at ed
  rw [if_pos hk] at ed
  simp only [Prod.mk.injEq] at ed
  obtain ⟨rfl, rfl, rfl⟩ := ed
  exact Net_SetEdge.calls u p n2 A cap E2 o.pos o.e W h
theorem op3.calls (u : World) (p : Nat) (A : Option Addr) (cap k : Nat) (o : S53) (n2 : Int) (E2 : List S39) (cd n3 : Int) (E3 : List S39) (W : World) (h : NS u p n2 (.slice A E2.length cap) E2 W) (f : Fine k (n2, E2)) (ed : editI o (n2, E2) = (cd, n3, E3)) (hk : o.kd = 3) :
    Calls Try.prog 25 #[.pointer (some ⟨p, 0, none⟩), .int .i64 o.pos] W fun e w' => e = .returned (.int .i64 cd) ∧ Did u W w' p (.slice A E2.length cap) n3 E3 := by
  unfold editI at ed
  rw [if_neg (by omega : ¬ o.kd = 0)] at ed
  rw [if_neg (by omega : ¬ o.kd = 1)] at ed
  rw [if_neg (by omega : ¬ o.kd = 2)] at ed
  rw [if_pos hk] at ed
  simp only [Prod.mk.injEq] at ed
  obtain ⟨rfl, rfl, rfl⟩ := ed
  exact Net_CutEdge.calls u p n2 A cap E2 o.pos W h f.len
theorem op4.calls (u : World) (p : Nat) (A : Option Addr) (cap k : Nat) (o : S53) (n2 : Int) (E2 : List S39) (cd n3 : Int) (E3 : List S39) (W : World) (h : NS u p n2 (.slice A E2.length cap) E2 W) (f : Fine k (n2, E2)) (ed : editI o (n2, E2) = (cd, n3, E3)) (hk : o.kd = 4) :
    Calls Try.prog 26 #[.pointer (some ⟨p, 0, none⟩), .int .i64 o.pos] W fun e w' => e = .returned (.int .i64 cd) ∧ Did u W w' p (.slice A E2.length cap) n3 E3 := by
  unfold editI at ed
  rw [if_neg (by omega : ¬ o.kd = 0)] at ed
  rw [if_neg (by omega : ¬ o.kd = 1)] at ed
  rw [if_neg (by omega : ¬ o.kd = 2)] at ed
  rw [if_neg (by omega : ¬ o.kd = 3)] at ed
  rw [if_pos hk] at ed
  have e1 : (cutN n2 E2 o.pos).1 = cd := by rw [ed]
  have e2 : (cutN n2 E2 o.pos).2.1 = n3 := by rw [ed]
  have e3 : (cutN n2 E2 o.pos).2.2 = E3 := by rw [ed]
  rw [← e1, ← e2, ← e3]
  exact Net_CutNode.calls u p n2 A cap E2 o.pos W h f.len f.n1 f.ends
theorem cut_last (E : List S39) (m : S39) : cutI (E ++ [m]) (E.length : Int) = (0, E) := by
  unfold cutI
  rw [if_pos ⟨by omega, by rw [List.length_append, List.length_singleton]; omega⟩, Int.toNat_natCast]
  congr 1
  rw [List.eraseIdx_append_of_length_le (Nat.le_refl _), Nat.sub_self]
  simp
theorem Did.ne {W : World} {g : Nat} {v v' : Value} (h : some g ≠ v.ownBlock) (hl : g < W.heap.size) (hat : v'.ownBlock = v.ownBlock ∨ ∃ b, v'.ownBlock = some b ∧ W.heap.size ≤ b) : some g ≠ v'.ownBlock := by
  rcases hat with e | ⟨b, e, l⟩
  · rw [e]; exact h
  · rw [e]
    intro q
    injection q with q
    omega
/-- What was made behind a net is none of its blocks. -/
theorem NS.newRow {w0 W W1 : World} {p : Nat} {n : Int} {v u : Value} {E X : List S39} {ok : Nat → Prop} (ns : NS w0 p n v E W) (hr : Kd.R k39 39 W1 W.heap.size ok u X) : Kd.R k39 39 W1 W.heap.size (fun k => k ≠ p ∧ some k ≠ v.ownBlock) u X :=
  Kd.R_mono (Kd.R_bound hr) (fun k hk => ⟨fun e => by have := blk_lt ns.bp; have := hk.2.1; omega, fun e => by have := Kd.R_lt ns.row k e.symm; have := hk.2.1; omega⟩)
theorem NS.newBlk {w0 W : World} {p g : Nat} {n : Int} {v : Value} {E : List S39} (ns : NS w0 p n v E W) (hg : W.heap.size ≤ g) : g ≠ p ∧ some g ≠ v.ownBlock :=
  ⟨fun e => by have := blk_lt ns.bp; omega, fun e => by have := Kd.R_lt ns.row g e.symm; omega⟩
end Go.Proofs.Ytpmclhkednehhaa.Q
