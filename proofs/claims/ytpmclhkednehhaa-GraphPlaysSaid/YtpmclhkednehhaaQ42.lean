/- GraphKeeps: a net or none out of a graph, and the states of the walk's second half; typed by hand. -/
import Derived.Test.YtpmclhkednehhaaQ0
import Derived.Test.YtpmclhkednehhaaQ24
import Derived.Test.YtpmclhkednehhaaQ26
import Derived.Test.YtpmclhkednehhaaQ27
import Derived.Test.YtpmclhkednehhaaQ41
set_option linter.unusedVariables false
set_option linter.unusedSimpArgs false
namespace Go.Proofs.Ytpmclhkednehhaa.Q
open Go.RowKit Go.Proofs.YtpmclhkednehhaaW.PrintWords Go.Proofs.YtpmclhkednehhaaW.PrintLast Go.Proofs.YtpmclhkednehhaaW.PrintMore
structure compasslaw03_GraphKeeps.Told (k : Nat) (n : Int) (E X : List S39) (c a a0 : Int) : Prop where
  len : E.length < 4398046511104
  two : graph_Check.f k 2 [] = some (0, a0)
  lab : graph_label.f 0 1 3 0 = some true
  copy : compassref03_Copy.f k n E = some (n, E)
  chk : graph_Check.f k n E = some (c, a)
  zero : c = 0 → a = 0
  few : c = 0 → E.length ≤ 4398046511000
  revg : graph_Reverse.f k n E = some (n, X)
  rev : compassref03_Reverse.f k n E = some (n, X)
  same : compassref03_Same.f k n E n E = some true
  sameX : compassref03_Same.f k n X n X = some true
/-- No net, or a net in new memory. -/
def NT (lo : Nat) (pv : Value) (c n : Int) (E : List S39) (W : World) : Prop :=
  (c ≠ 0 ∧ pv = .pointer none) ∨ (c = 0 ∧ ∃ (p : Nat) (v : Value), pv = .pointer (some ⟨p, 0, none⟩) ∧ lo ≤ p ∧ W.heap[p]? = some (.cells #[.int .i64 n, v] 44 (0, 0)) ∧ Kd.R k39 39 W lo (fun _ => True) v E)
theorem NT.later {lo : Nat} {pv : Value} {c n : Int} {E : List S39} {W W' : World} (h : NT lo pv c n E W) (hb : Below W.heap.size W W') : NT lo pv c n E W' := by
  rcases h with h | ⟨h0, p, v, h1, h2, h3, h4⟩
  · exact .inl h
  · exact .inr ⟨h0, p, v, h1, h2, blk_below h3 hb, Kd.R_below h4 hb⟩
theorem NT.put {lo : Nat} {pv : Value} {c n : Int} {E : List S39} {W : World} (h : NT lo pv c n E W) {g : Nat} {t : TypeId} {x0 y0 : Value} (ht : ∀ q, q ∈ (39 : TypeId) :: k39.E → q ≠ t) (h4 : (44 : TypeId) ≠ t) (hb : W.heap[g]? = some (.cells #[x0, y0] t (0, 0))) (x y : Value) : NT lo pv c n E ((W.setCell ⟨g, 0, none⟩ x).setCell ⟨g, 1, none⟩ y) := by
  rcases h with h | ⟨h0, p, v, h1, h2, h3, h5⟩
  · exact .inl h
  · have ne : p ≠ g := fun e => by
      subst e
      rw [h3] at hb
      injection hb with hb
      injection hb with _ hb
      exact h4 hb
    exact .inr ⟨h0, p, v, h1, h2, blk_far (blk_far h3 ne _) ne _, Kd.R_set (Kd.R_set h5 hb ht 0 _) (blk_put hb 0 _ rfl) ht 1 _⟩
theorem NT.grown {lo : Nat} {pv : Value} {c n : Int} {E : List S39} {W W' : World} (h : NT lo pv c n E W) {b : Nat} (hb : b < lo) (hg : W.grownBy W' (some b)) : NT lo pv c n E W' := by
  rcases h with h | ⟨h0, p, v, h1, h2, h3, h4⟩
  · exact .inl h
  · refine .inr ⟨h0, p, v, h1, h2, blk_grown h3 hg (fun e => by injection e with e; omega), ?_⟩
    exact Kd.R_mono (Kd.R_grown (Kd.R_bound h4) hg (fun k hk e => by injection e with e; have := hk.2.1; omega)) (fun _ _ => trivial)
theorem graph_From.both (k : Nat) (n : Int) (A : Option Addr) (cE : Nat) (E : List S39) (w : World) (hr : Kd.C k39 w A E.length E) (hc : E.length ≤ cE) (c a : Int) (hk : graph_Check.f k n E = some (c, a)) (hl : E.length < 4398046511104) (hz : c = 0 → a = 0) :
    Calls Try.prog 11 #[.agg #[.int .i64 n, .slice A E.length cE]] w fun e w' => ∃ pv, e = .returned (.tuple #[pv, .agg #[.int .i64 c, .int .i64 a]]) ∧ Below w.heap.size w w' ∧ NT w.heap.size pv c n E w' := by
  by_cases z : c = 0
  · subst z
    obtain rfl := hz rfl
    refine (graph_From.good k n A cE E w hr hc 0 hk hl).mono ?_
    rintro e w' ⟨p, v, rfl, ns⟩
    exact ⟨_, rfl, ns.below, .inr ⟨rfl, p, v, rfl, ns.p0, ns.bp, ns.row⟩⟩
  · refine (graph_From.bad k n A cE E w hr hc c a hk z).mono ?_
    rintro e w' ⟨rfl, hb⟩
    exact ⟨_, rfl, hb, .inl ⟨z, rfl⟩⟩
/-- Behind From and Reverse: mine's row is elder than the net's and the turned graph's. -/
structure PS (w0 : World) (n : Int) (A : Option Addr) (cE : Nat) (E X : List S39) (lo gg gm gr b cm : Nat) (Ar : Option Addr) (cr : Nat) (pv : Value) (c : Int) (M : List S39) (W : World) : Prop where
  below : Below w0.heap.size w0 W
  bg : W.heap[gg]? = some (.cells #[.int .i64 n, .slice A E.length cE] 24 (0, 0))
  bm : W.heap[gm]? = some (.cells #[.int .i64 n, .slice (some ⟨b, 0, none⟩) E.length cm] 24 (0, 0))
  br : W.heap[gr]? = some (.cells #[.int .i64 n, .slice Ar X.length cr] 24 (0, 0))
  hb : b < lo
  row : Kd.R k39 39 W w0.heap.size (fun _ => True) (.slice (some ⟨b, 0, none⟩) (E.length + 1) cm) M
  rr : Kd.R k39 39 W lo (fun _ => True) (.slice Ar X.length cr) X
  net : NT lo pv c n E W
section
variable {w0 : World} {n : Int} {A : Option Addr} {cE : Nat} {E X : List S39} {lo gg gm gr b cm : Nat} {Ar : Option Addr} {cr : Nat} {pv : Value} {c : Int} {M : List S39} {W : World}
theorem PS.later (h : PS w0 n A cE E X lo gg gm gr b cm Ar cr pv c M W) {W' : World} (hb : Below W.heap.size W W') : PS w0 n A cE E X lo gg gm gr b cm Ar cr pv c M W' :=
  ⟨below_step h.below hb, blk_below h.bg hb, blk_below h.bm hb, blk_below h.br hb, h.hb, Kd.R_below h.row hb, Kd.R_below h.rr hb, h.net.later hb⟩
theorem PS.g0 (h : PS w0 n A cE E X lo gg gm gr b cm Ar cr pv c M W) : W.cell? ⟨gg, 0, none⟩ = some (.int .i64 n) := (blk_cell h.bg 0).trans rfl
theorem PS.g1 (h : PS w0 n A cE E X lo gg gm gr b cm Ar cr pv c M W) : W.cell? ⟨gg, 1, none⟩ = some (.slice A E.length cE) := (blk_cell h.bg 1).trans rfl
theorem PS.m1 (h : PS w0 n A cE E X lo gg gm gr b cm Ar cr pv c M W) : W.cell? ⟨gm, 1, none⟩ = some (.slice (some ⟨b, 0, none⟩) E.length cm) := (blk_cell h.bm 1).trans rfl
theorem PS.r0 (h : PS w0 n A cE E X lo gg gm gr b cm Ar cr pv c M W) : W.cell? ⟨gr, 0, none⟩ = some (.int .i64 n) := (blk_cell h.br 0).trans rfl
theorem PS.r1 (h : PS w0 n A cE E X lo gg gm gr b cm Ar cr pv c M W) : W.cell? ⟨gr, 1, none⟩ = some (.slice Ar X.length cr) := (blk_cell h.br 1).trans rfl
theorem PS.four (h : PS w0 n A cE E X lo gg gm gr b cm Ar cr pv c M W) {W' : World} (hb : Below W.heap.size W W') : W'.cell? ⟨gg, 0, none⟩ = some (.int .i64 n) ∧ W'.cell? ⟨gg, 1, none⟩ = some (.slice A E.length cE) ∧ W'.cell? ⟨gr, 0, none⟩ = some (.int .i64 n) ∧ W'.cell? ⟨gr, 1, none⟩ = some (.slice Ar X.length cr) := by
  have q := h.later hb
  exact ⟨q.g0, q.g1, q.r0, q.r1⟩
theorem PS.cells (h : PS w0 n A cE E X lo gg gm gr b cm Ar cr pv c M W) (i : Int) (h0 : 0 ≤ i) (h1 : i < (E.length + 1 : Nat)) :
    (W.cell? ⟨b, i.toNat * 4, none⟩ = some (.int .i64 (rd_T39 M i).f0) ∧ W.cell? ⟨b, i.toNat * 4 + 1, none⟩ = some (.int .i64 (rd_T39 M i).f1) ∧ W.cell? ⟨b, i.toNat * 4 + 2, none⟩ = some (.int .i64 (rd_T39 M i).f2) ∧ W.cell? ⟨b, i.toNat * 4 + 3, none⟩ = some (.int .i64 (rd_T39 M i).f3)) ∧ W.frozen? ⟨b, i.toNat * 4, none⟩ = false ∧ W.frozen? ⟨b, i.toNat * 4 + 1, none⟩ = false ∧ W.frozen? ⟨b, i.toNat * 4 + 2, none⟩ = false ∧ W.frozen? ⟨b, i.toNat * 4 + 3, none⟩ = false := by
  obtain ⟨c, hl, hM, hc, hf⟩ := Kd.R_elem h.row z39 i h0 h1
  obtain rfl := k39_openM hM
  exact ⟨⟨hc 0 _ rfl, hc 1 _ rfl, hc 2 _ rfl, hc 3 _ rfl⟩, hf 0, hf 1, hf 2, hf 3⟩
theorem PS.put (h : PS w0 n A cE E X lo gg gm gr b cm Ar cr pv c M W) (i : Int) (h0 : 0 ≤ i) (h1 : i < (E.length + 1 : Nat)) (x0 x1 x2 x3 : Int) :
    PS w0 n A cE E X lo gg gm gr b cm Ar cr pv c (M.set i.toNat ⟨x0, x1, x2, x3⟩) ((((W.setCell ⟨b, i.toNat * 4, none⟩ (.int .i64 x0)).setCell ⟨b, i.toNat * 4 + 1, none⟩ (.int .i64 x1)).setCell ⟨b, i.toNat * 4 + 2, none⟩ (.int .i64 x2)).setCell ⟨b, i.toNat * 4 + 3, none⟩ (.int .i64 x3)) := by
  obtain ⟨q, hl, hM, hc, hf⟩ := Kd.R_elem h.row z39 i h0 h1
  obtain ⟨a, g⟩ := Kd.R_seg h.row i h0 h1 (seg := [.int .i64 x0, .int .i64 x1, .int .i64 x2, .int .i64 x3]) (j := 0) (okp := fun k => k ≠ b) (x' := (⟨x0, x1, x2, x3⟩ : S39)) hl hc (by show 0 + 4 ≤ 4; omega) (by obtain rfl := k39_openM hM; exact k39_mkM _ _ _ (⟨x0, x1, x2, x3⟩ : S39)) (fun k hk => ⟨trivial, hk⟩)
  have p0 := Kd.R_base h.row b rfl
  have n1 : some gg ≠ some b := Kd.R_ne h.row h.bg (by decide)
  have n2 : some gm ≠ some b := Kd.R_ne h.row h.bm (by decide)
  have n3 : some gr ≠ some b := Kd.R_ne h.row h.br (by decide)
  refine ⟨below_set (below_set (below_set (below_set h.below p0) p0) p0) p0, blk_grown h.bg g n1, blk_grown h.bm g n2, blk_grown h.br g n3, h.hb, a, ?_, h.net.grown h.hb g⟩
  exact Kd.R_mono (Kd.R_grown (Kd.R_bound h.rr) g (fun k hk e => by injection e with e; have := hk.2.1; have := h.hb; omega)) (fun _ _ => trivial)
end
/-- The net told plainly twice: what is written into the first answer leaves the second and the net. -/
structure AB (w0 : World) (n : Int) (A : Option Addr) (cE : Nat) (E : List S39) (gg p ga gb : Nat) (vn va vb : Value) (Y : List S39) (W : World) : Prop where
  below : Below w0.heap.size w0 W
  bg : W.heap[gg]? = some (.cells #[.int .i64 n, .slice A E.length cE] 24 (0, 0))
  bp : W.heap[p]? = some (.cells #[.int .i64 n, vn] 44 (0, 0))
  ba : W.heap[ga]? = some (.cells #[.int .i64 n, va] 24 (0, 0))
  bb : W.heap[gb]? = some (.cells #[.int .i64 n, vb] 24 (0, 0))
  ha : w0.heap.size ≤ ga
  ng : gg ≠ ga
  nb : gb ≠ ga
  ra : Kd.R k39 39 W w0.heap.size (fun _ => True) va Y
  rn : Kd.R k39 39 W w0.heap.size (fun k => True ∧ some k ≠ va.ownBlock) vn E
  rb : Kd.R k39 39 W w0.heap.size (fun k => True ∧ some k ≠ va.ownBlock) vb E
section
variable {w0 : World} {n : Int} {A : Option Addr} {cE : Nat} {E : List S39} {gg p ga gb : Nat} {vn va vb : Value} {Y : List S39} {W : World} {q m cap : Nat}
theorem AB.later (h : AB w0 n A cE E gg p ga gb vn va vb Y W) {W' : World} (hb : Below W.heap.size W W') : AB w0 n A cE E gg p ga gb vn va vb Y W' :=
  ⟨below_step h.below hb, blk_below h.bg hb, blk_below h.bp hb, blk_below h.ba hb, blk_below h.bb hb, h.ha, h.ng, h.nb, Kd.R_below h.ra hb, Kd.R_below h.rn hb, Kd.R_below h.rb hb⟩
theorem AB.g0 (h : AB w0 n A cE E gg p ga gb vn va vb Y W) : W.cell? ⟨gg, 0, none⟩ = some (.int .i64 n) := (blk_cell h.bg 0).trans rfl
theorem AB.g1 (h : AB w0 n A cE E gg p ga gb vn va vb Y W) : W.cell? ⟨gg, 1, none⟩ = some (.slice A E.length cE) := (blk_cell h.bg 1).trans rfl
theorem AB.a1 (h : AB w0 n A cE E gg p ga gb vn va vb Y W) : W.cell? ⟨ga, 1, none⟩ = some va := (blk_cell h.ba 1).trans rfl
theorem AB.f1 (h : AB w0 n A cE E gg p ga gb vn va vb Y W) : W.frozen? ⟨ga, 1, none⟩ = false := blk_frozen h.ba 1
theorem AB.b0 (h : AB w0 n A cE E gg p ga gb vn va vb Y W) : W.cell? ⟨gb, 0, none⟩ = some (.int .i64 n) := (blk_cell h.bb 0).trans rfl
theorem AB.b1 (h : AB w0 n A cE E gg p ga gb vn va vb Y W) : W.cell? ⟨gb, 1, none⟩ = some vb := (blk_cell h.bb 1).trans rfl
theorem AB.four (h : AB w0 n A cE E gg p ga gb vn va vb Y W) {W' : World} (hb : Below W.heap.size W W') : W'.cell? ⟨gg, 0, none⟩ = some (.int .i64 n) ∧ W'.cell? ⟨gg, 1, none⟩ = some (.slice A E.length cE) ∧ W'.cell? ⟨gb, 0, none⟩ = some (.int .i64 n) ∧ W'.cell? ⟨gb, 1, none⟩ = some vb := by
  have q := h.later hb
  exact ⟨q.g0, q.g1, q.b0, q.b1⟩
theorem AB.cells (h : AB w0 n A cE E gg p ga gb vn (.slice (some ⟨q, 0, none⟩) m cap) vb Y W) (i : Int) (h0 : 0 ≤ i) (h1 : i < m) :
    (W.cell? ⟨q, i.toNat * 4, none⟩ = some (.int .i64 (rd_T39 Y i).f0) ∧ W.cell? ⟨q, i.toNat * 4 + 1, none⟩ = some (.int .i64 (rd_T39 Y i).f1) ∧ W.cell? ⟨q, i.toNat * 4 + 2, none⟩ = some (.int .i64 (rd_T39 Y i).f2) ∧ W.cell? ⟨q, i.toNat * 4 + 3, none⟩ = some (.int .i64 (rd_T39 Y i).f3)) ∧ W.frozen? ⟨q, i.toNat * 4, none⟩ = false ∧ W.frozen? ⟨q, i.toNat * 4 + 1, none⟩ = false ∧ W.frozen? ⟨q, i.toNat * 4 + 2, none⟩ = false ∧ W.frozen? ⟨q, i.toNat * 4 + 3, none⟩ = false := by
  obtain ⟨c, hl, hM, hc, hf⟩ := Kd.R_elem h.ra z39 i h0 h1
  obtain rfl := k39_openM hM
  exact ⟨⟨hc 0 _ rfl, hc 1 _ rfl, hc 2 _ rfl, hc 3 _ rfl⟩, hf 0, hf 1, hf 2, hf 3⟩
theorem AB.put (h : AB w0 n A cE E gg p ga gb vn (.slice (some ⟨q, 0, none⟩) m cap) vb Y W) (i : Int) (h0 : 0 ≤ i) (h1 : i < m) (x0 x1 x2 x3 : Int) :
    AB w0 n A cE E gg p ga gb vn (.slice (some ⟨q, 0, none⟩) m cap) vb (Y.set i.toNat ⟨x0, x1, x2, x3⟩) ((((W.setCell ⟨q, i.toNat * 4, none⟩ (.int .i64 x0)).setCell ⟨q, i.toNat * 4 + 1, none⟩ (.int .i64 x1)).setCell ⟨q, i.toNat * 4 + 2, none⟩ (.int .i64 x2)).setCell ⟨q, i.toNat * 4 + 3, none⟩ (.int .i64 x3)) := by
  obtain ⟨c, hl, hM, hc, hf⟩ := Kd.R_elem h.ra z39 i h0 h1
  obtain ⟨a, g⟩ := Kd.R_seg h.ra i h0 h1 (seg := [.int .i64 x0, .int .i64 x1, .int .i64 x2, .int .i64 x3]) (j := 0) (okp := fun k => k ≠ q) (x' := (⟨x0, x1, x2, x3⟩ : S39)) hl hc (by show 0 + 4 ≤ 4; omega) (by obtain rfl := k39_openM hM; exact k39_mkM _ _ _ (⟨x0, x1, x2, x3⟩ : S39)) (fun k hk => ⟨trivial, hk⟩)
  have pb : (Value.slice (some ⟨q, 0, none⟩) m cap).ownBlock = some q := rfl
  have p0 := Kd.R_base h.ra q pb
  rw [← pb] at g
  exact ⟨below_set (below_set (below_set (below_set h.below p0) p0) p0) p0, blk_grown h.bg g (Kd.R_ne h.ra h.bg (by decide)), blk_grown h.bp g (Kd.R_ne h.ra h.bp (by decide)), blk_grown h.ba g (Kd.R_ne h.ra h.ba (by decide)), blk_grown h.bb g (Kd.R_ne h.ra h.bb (by decide)), h.ha, h.ng, h.nb, a, Kd.R_grown h.rn g (fun k hk => hk.2), Kd.R_grown h.rb g (fun k hk => hk.2)⟩
/-- An append to the first answer, and its row put back. -/
theorem AB.grow (h : AB w0 n A cE E gg p ga gb vn va vb Y W) {v1 : Value} {w1 : World} {Y1 : List S39} (hr : Kd.R k39 39 w1 w0.heap.size (fun _ => True) v1 Y1) (hb : Below w0.heap.size w0 w1) (hg : W.grownBy w1 va.ownBlock) (hat : v1.ownBlock = va.ownBlock ∨ ∃ b, v1.ownBlock = some b ∧ W.heap.size ≤ b) :
    AB w0 n A cE E gg p ga gb vn v1 vb Y1 (w1.setCell ⟨ga, 1, none⟩ v1) := by
  have b1 := blk_grown h.ba hg (Kd.R_ne h.ra h.ba (by decide))
  have b2 := blk_grown h.bp hg (Kd.R_ne h.ra h.bp (by decide))
  have np : p ≠ ga := fun e => by
    subst e
    have h1 := h.bp
    rw [h.ba] at h1
    injection h1 with h1
    injection h1 with _ h1
    exact absurd h1 (by decide)
  exact ⟨below_set hb h.ha, blk_far (blk_grown h.bg hg (Kd.R_ne h.ra h.bg (by decide))) h.ng _, blk_far b2 np _, blk_put b1 1 _ rfl, blk_far (blk_grown h.bb hg (Kd.R_ne h.ra h.bb (by decide))) h.nb _, h.ha, h.ng, h.nb, Kd.R_set hr b1 (by decide) 1 _, Kd.R_set (Kd.R_after h.rn hg hat) b1 (by decide) 1 _, Kd.R_set (Kd.R_after h.rb hg hat) b1 (by decide) 1 _⟩
end
/-- What follows a region, once for all orders of its operations. -/
def JoinQ {σ : Type} (ns : σ → List (Tmp × Value)) (F : σ → World → Prop) (a : Act) : Exit → Act → World → Prop
  | .normal, b, w' => ∃ s, F s w' ∧ b = putAll a (ns s)
  | _, _, _ => False
theorem region_join {P : Program} {c : Code} {K : Exit → Act → World → Prop} {a : Act} {w : World} {σ : Type} (ns : σ → List (Tmp × Value)) (F : σ → World → Prop)
    (h : c.wp P (JoinQ ns F a) a w) (hcont : ∀ s w', F s w' → K .normal (putAll a (ns s)) w') : c.wp P K a w :=
  Code.wp_mono (fun e b w' hq => by
    cases e with
    | normal =>
      obtain ⟨s, hs, rfl⟩ := hq
      exact hcont s w' hs
    | _ => exact hq.elim) h
/-- What a net's two plain answers leave. -/
theorem AB.made {w0 : World} {n : Int} {A : Option Addr} {cE : Nat} {E : List S39} {gg p ga gb : Nat} {vn va vb : Value} {W0 Wl : World} (below : Below w0.heap.size w0 W0) (bg : W0.heap[gg]? = some (.cells #[.int .i64 n, .slice A E.length cE] 24 (0, 0))) (bp : W0.heap[p]? = some (.cells #[.int .i64 n, vn] 44 (0, 0))) (rn : Kd.R k39 39 W0 w0.heap.size (fun _ => True) vn E)
    (hl : Below W0.heap.size W0 Wl) (ba : Wl.heap[ga]? = some (.cells #[.int .i64 0, .slice none 0 0] 24 (0, 0))) (bb : Wl.heap[gb]? = some (.cells #[.int .i64 0, .slice none 0 0] 24 (0, 0))) (ha : W0.heap.size ≤ ga) (hb : W0.heap.size ≤ gb) (hab : ga ≠ gb)
    (ra : Kd.R k39 39 Wl W0.heap.size (fun _ => True) va E) (rb : Kd.R k39 39 Wl w0.heap.size (fun k => True ∧ some k ≠ va.ownBlock) vb E) :
    AB w0 n A cE E gg p ga gb vn va vb E ((((Wl.setCell ⟨ga, 0, none⟩ (.int .i64 n)).setCell ⟨ga, 1, none⟩ va).setCell ⟨gb, 0, none⟩ (.int .i64 n)).setCell ⟨gb, 1, none⟩ vb) := by
  have s0 := below_size below
  have bg1 := blk_below bg hl
  have bp1 := blk_below bp hl
  have n1 : gg ≠ ga := by have := blk_lt bg; omega
  have n2 : gg ≠ gb := by have := blk_lt bg; omega
  have n3 : p ≠ ga := by have := blk_lt bp; omega
  have n4 : p ≠ gb := by have := blk_lt bp; omega
  have ha0 : w0.heap.size ≤ ga := Nat.le_trans s0 ha
  have hb0 : w0.heap.size ≤ gb := Nat.le_trans s0 hb
  have b2 := blk_put (blk_put ba 0 (.int .i64 n) rfl) 1 va rfl
  have b3 : ((Wl.setCell ⟨ga, 0, none⟩ (.int .i64 n)).setCell ⟨ga, 1, none⟩ va).heap[gb]? = some (.cells #[.int .i64 0, .slice none 0 0] 24 (0, 0)) := blk_far (blk_far bb hab.symm _) hab.symm _
  have rn1 := Kd.R_elder' rn (v := va) (fun k hk => Kd.R_base ra k hk) hl
  have set : ∀ {ok : Nat → Prop} {b : Nat} {v : Value}, Kd.R k39 39 Wl b ok v E → Kd.R k39 39 ((((Wl.setCell ⟨ga, 0, none⟩ (.int .i64 n)).setCell ⟨ga, 1, none⟩ va).setCell ⟨gb, 0, none⟩ (.int .i64 n)).setCell ⟨gb, 1, none⟩ vb) b ok v E := fun h =>
    Kd.R_set (Kd.R_set (Kd.R_set (Kd.R_set h ba (by decide) 0 _) (blk_put ba 0 _ rfl) (by decide) 1 _) b3 (by decide) 0 _) (blk_put b3 0 _ rfl) (by decide) 1 _
  exact ⟨below_set (below_set (below_set (below_set (below_step below hl) ha0) ha0) hb0) hb0, blk_far (blk_far (blk_far (blk_far bg1 n1 _) n1 _) n2 _) n2 _, blk_far (blk_far (blk_far (blk_far bp1 n3 _) n3 _) n4 _) n4 _, blk_far (blk_far b2 hab _) hab _, blk_put (blk_put b3 0 _ rfl) 1 _ rfl, ha0, n1, hab.symm, set (Kd.R_lower ra s0), set rn1, set rb⟩
/-- Two boxes, made ahead of, between and behind two calls. -/
abbrev NO : Obj := .cells #[.int .i64 0, .slice none 0 0] 24 (0, 0)
abbrev NB (W : World) (g : Nat) : Prop := W.heap[g]? = some (.cells #[.int .i64 0, .slice none 0 0] 24 (0, 0))
theorem NB.lt {W : World} (g : Nat) (h : NB W g) : g < W.heap.size := blk_lt h
theorem nb200 (W0 : World) {wA wB : World} (ha : Below ((W0.alloc (.cells #[.int .i64 0, .slice none 0 0] 24 (0, 0))).alloc (.cells #[.int .i64 0, .slice none 0 0] 24 (0, 0))).heap.size ((W0.alloc (.cells #[.int .i64 0, .slice none 0 0] 24 (0, 0))).alloc (.cells #[.int .i64 0, .slice none 0 0] 24 (0, 0))) wA) (hb : Below wA.heap.size wA wB) :
    NB wB W0.heap.size ∧ NB wB (W0.alloc (.cells #[.int .i64 0, .slice none 0 0] 24 (0, 0))).heap.size ∧ W0.heap.size < (W0.alloc (.cells #[.int .i64 0, .slice none 0 0] 24 (0, 0))).heap.size ∧ ∀ o, NB (wB.alloc o) W0.heap.size :=
  ⟨blk_below (blk_below (bx (blk_new W0 _)) ha) hb, blk_below (blk_below (bx (blk_new _ _)) ha) hb, blk_lt (blk_new W0 NO), fun o => blk_below (blk_below (blk_below (bx (blk_new W0 _)) ha) hb) (below_alloc (Below.refl _ _) o)⟩
theorem nb110 (W0 : World) {wA wB : World} (ha : Below (W0.alloc (.cells #[.int .i64 0, .slice none 0 0] 24 (0, 0))).heap.size (W0.alloc (.cells #[.int .i64 0, .slice none 0 0] 24 (0, 0))) wA) (hb : Below (wA.alloc (.cells #[.int .i64 0, .slice none 0 0] 24 (0, 0))).heap.size (wA.alloc (.cells #[.int .i64 0, .slice none 0 0] 24 (0, 0))) wB) :
    NB wB W0.heap.size ∧ NB wB wA.heap.size ∧ W0.heap.size < wA.heap.size ∧ ∀ o, NB (wB.alloc o) W0.heap.size := by
  have h := blk_below (blk_new W0 NO) ha
  exact ⟨blk_below (bx h) hb, blk_below (bx (blk_new _ _)) hb, blk_lt h, fun o => blk_below (blk_below (bx h) hb) (below_alloc (Below.refl _ _) o)⟩
theorem nb101 (W0 : World) {wA wB : World} (ha : Below (W0.alloc (.cells #[.int .i64 0, .slice none 0 0] 24 (0, 0))).heap.size (W0.alloc (.cells #[.int .i64 0, .slice none 0 0] 24 (0, 0))) wA) (hb : Below wA.heap.size wA wB) :
    NB (wB.alloc (.cells #[.int .i64 0, .slice none 0 0] 24 (0, 0))) W0.heap.size ∧ NB (wB.alloc (.cells #[.int .i64 0, .slice none 0 0] 24 (0, 0))) wB.heap.size ∧ W0.heap.size < wB.heap.size ∧ ∀ o, NB (wB.alloc o) W0.heap.size := by
  have h := blk_below (blk_below (blk_new W0 NO) ha) hb
  exact ⟨bx h, blk_new _ _, blk_lt h, fun o => blk_below (h) (below_alloc (Below.refl _ _) o)⟩
theorem nb020 (wA : World) {wB : World} (hb : Below ((wA.alloc (.cells #[.int .i64 0, .slice none 0 0] 24 (0, 0))).alloc (.cells #[.int .i64 0, .slice none 0 0] 24 (0, 0))).heap.size ((wA.alloc (.cells #[.int .i64 0, .slice none 0 0] 24 (0, 0))).alloc (.cells #[.int .i64 0, .slice none 0 0] 24 (0, 0))) wB) :
    NB wB wA.heap.size ∧ NB wB (wA.alloc (.cells #[.int .i64 0, .slice none 0 0] 24 (0, 0))).heap.size ∧ wA.heap.size < (wA.alloc (.cells #[.int .i64 0, .slice none 0 0] 24 (0, 0))).heap.size ∧ ∀ o, NB (wB.alloc o) wA.heap.size :=
  ⟨blk_below (bx (blk_new wA _)) hb, blk_below (bx (blk_new _ _)) hb, blk_lt (blk_new wA NO), fun o => blk_below (blk_below (bx (blk_new wA _)) hb) (below_alloc (Below.refl _ _) o)⟩
theorem nb011 (wA : World) {wB : World} (hb : Below (wA.alloc (.cells #[.int .i64 0, .slice none 0 0] 24 (0, 0))).heap.size (wA.alloc (.cells #[.int .i64 0, .slice none 0 0] 24 (0, 0))) wB) :
    NB (wB.alloc (.cells #[.int .i64 0, .slice none 0 0] 24 (0, 0))) wA.heap.size ∧ NB (wB.alloc (.cells #[.int .i64 0, .slice none 0 0] 24 (0, 0))) wB.heap.size ∧ wA.heap.size < wB.heap.size ∧ ∀ o, NB (wB.alloc o) wA.heap.size := by
  have h := blk_below (blk_new wA NO) hb
  exact ⟨bx h, blk_new _ _, blk_lt h, fun o => blk_below (h) (below_alloc (Below.refl _ _) o)⟩
theorem nb002 (wB : World) :
    NB ((wB.alloc (.cells #[.int .i64 0, .slice none 0 0] 24 (0, 0))).alloc (.cells #[.int .i64 0, .slice none 0 0] 24 (0, 0))) wB.heap.size ∧ NB ((wB.alloc (.cells #[.int .i64 0, .slice none 0 0] 24 (0, 0))).alloc (.cells #[.int .i64 0, .slice none 0 0] 24 (0, 0))) (wB.alloc (.cells #[.int .i64 0, .slice none 0 0] 24 (0, 0))).heap.size ∧ wB.heap.size < (wB.alloc (.cells #[.int .i64 0, .slice none 0 0] 24 (0, 0))).heap.size ∧ ∀ o, NB ((wB.alloc (.cells #[.int .i64 0, .slice none 0 0] 24 (0, 0))).alloc o) wB.heap.size :=
  ⟨bx (blk_new _ _), blk_new _ _, blk_lt (blk_new wB NO), fun o => blk_below (bx (blk_new wB _)) (below_alloc (Below.refl _ _) o)⟩
theorem AB.cast {w0 : World} {n : Int} {A : Option Addr} {cE : Nat} {E : List S39} {gg p ga gb : Nat} {vn va vb : Value} {Y : List S39} {W W' : World} (h : AB w0 n A cE E gg p ga gb vn va vb Y W) (e : W = W') : AB w0 n A cE E gg p ga gb vn va vb Y W' := e ▸ h
end Go.Proofs.Ytpmclhkednehhaa.Q
