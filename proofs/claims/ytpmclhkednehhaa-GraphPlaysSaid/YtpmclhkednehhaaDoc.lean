/- A row that a net's edits leave as it is: typed by hand. -/
import Derived.Test.YtpmclhkednehhaaQ11
import Derived.Test.YtpmclhkednehhaaQ27
import Derived.Test.YtpmclhkednehhaaQ3
import Derived.Test.YtpmclhkednehhaaStep
set_option linter.unusedVariables false
set_option linter.unusedSimpArgs false
namespace Go.Proofs.Ytpmclhkednehhaa.Q
open Go.RowKit Go.Proofs.YtpmclhkednehhaaW.PrintWords Go.Proofs.YtpmclhkednehhaaW.PrintLast Go.Proofs.YtpmclhkednehhaaW.PrintMore
theorem NS.lower {w W W' : World} {p : Nat} {n : Int} {v : Value} {E : List S39} (h : NS W p n v E W') (hb : Below w.heap.size w W) : NS w p n v E W' := ⟨below_step hb h.below, h.bp, Nat.le_trans (below_size hb) h.p0, Kd.R_lower h.row (below_size hb)⟩
theorem NS.put53 {u W : World} {p g : Nat} {n : Int} {v : Value} {E : List S39} {cs : Array Value} (h : NS u p n v E W) (b : W.heap[g]? = some (.cells cs 53 (0, 0))) (hg : u.heap.size ≤ g) (j : Nat) (x : Value) : NS u p n v E (W.setCell ⟨g, j, none⟩ x) :=
  ⟨below_set h.below hg, blk_far h.bp (fun e => by subst e; have q := h.bp.symm.trans b; simp at q) _, h.p0, Kd.R_set h.row b (by decide) j x⟩
/-- A graph's row: the argument's (of the world w), or one's own that is none of the net's blocks. -/
structure Doc (w u W : World) (p : Nat) (v : Value) (A : Option Addr) (c : Nat) (E : List S39) : Prop where
  cap : E.length ≤ c
  row : Kd.C k39 w A E.length E ∨ Kd.R k39 39 W u.heap.size (fun k => k ≠ p ∧ some k ≠ v.ownBlock) (.slice A E.length c) E
section
variable {w u W W' : World} {p q g c c' : Nat} {v v' : Value} {A A' : Option Addr} {E E' : List S39} {n n' : Int} {cs : Array Value}
theorem Doc.reads (h : Doc w u W p v A c E) (hb : Below w.heap.size w W) : Kd.C k39 W A E.length E := by
  rcases h.row with r | r
  · exact Kd.C_below r hb
  · exact (Kd.R_reads' r).2.2
theorem Doc.keep (h : Doc w u W p v A c E) (hk : KeepBut W W' p v.ownBlock) (hat : v'.ownBlock = v.ownBlock ∨ ∃ b, v'.ownBlock = some b ∧ W.heap.size ≤ b) : Doc w u W' p v' A c E :=
  ⟨h.cap, h.row.imp id (fun r => Did.row hk hat r)⟩
theorem Doc.below (h : Doc w u W p v A c E) (hb : Below W.heap.size W W') : Doc w u W' p v A c E := ⟨h.cap, h.row.imp id (fun r => Kd.R_below r hb)⟩
theorem Doc.put (h : Doc w u W p v A c E) (b : W.heap[g]? = some (.cells cs 24 (0, 0))) (j : Nat) (x : Value) : Doc w u (W.setCell ⟨g, j, none⟩ x) p v A c E := ⟨h.cap, h.row.imp id (fun r => Kd.R_set r b (by decide) j x)⟩
theorem Doc.put53 (h : Doc w u W p v A c E) (b : W.heap[g]? = some (.cells cs 53 (0, 0))) (j : Nat) (x : Value) : Doc w u (W.setCell ⟨g, j, none⟩ x) p v A c E := ⟨h.cap, h.row.imp id (fun r => Kd.R_set r b (by decide) j x)⟩
/-- Behind a fork: the new net's blocks are younger. -/
theorem Doc.fork (h : Doc w u W p v A c E) (ns : NS W q n v' E' W') : Doc w u W' q v' A c E :=
  ⟨h.cap, h.row.imp id (fun r => Kd.R_mono (Kd.R_below (Kd.R_bound r) ns.below) (fun k hk => ⟨fun e => by have := hk.2.2.1; have := ns.p0; omega, fun e => by have := hk.2.2.1; have := Kd.R_base ns.row k e.symm; omega⟩))⟩
/-- Behind a step: the document that is answered. -/
theorem Doc.step {n3 : Int} {E3 : List S39} {A3 : Option Addr} {cap3 : Nat} (h : Doc w u W p v A c E) (us : u.heap.size ≤ W.heap.size) (s : Step u W W' p v A c E n3 E3 A' c' A3 cap3) : Doc w u W' p (.slice A3 E3.length cap3) A' c' E3 := by
  obtain ⟨ns, hk, hat, r⟩ := s
  rcases r with ⟨rfl, rfl, rfl⟩ | r
  · exact h.keep hk hat
  · exact ⟨(Kd.R_reads' r).2.1, .inr (Kd.R_lower r us)⟩
/-- A net that is let alone, and the graph it was. -/
structure Old (w u W : World) (p : Nat) (v : Value) (po : Nat) (Ab : Option Addr) (cb : Nat) (no : Int) (Eo : List S39) : Prop where
  doc : Doc w u W p v Ab cb Eo
  old : po = p ∨ ∃ (Ao : Option Addr) (co : Nat), W.heap[po]? = some (.cells #[.int .i64 no, .slice Ao Eo.length co] 44 (0, 0)) ∧ po ≠ p ∧ some po ≠ v.ownBlock ∧ Kd.R k39 39 W u.heap.size (fun k => k ≠ p ∧ some k ≠ v.ownBlock) (.slice Ao Eo.length co) Eo
variable {po cb : Nat} {Ab : Option Addr} {no : Int} {Eo : List S39}
theorem Old.keep (h : Old w u W p v po Ab cb no Eo) (hk : KeepBut W W' p v.ownBlock) (hat : v'.ownBlock = v.ownBlock ∨ ∃ b, v'.ownBlock = some b ∧ W.heap.size ≤ b) : Old w u W' p v' po Ab cb no Eo :=
  ⟨h.doc.keep hk hat, h.old.imp id (fun ⟨Ao, co, b, n1, n2, r⟩ => ⟨Ao, co, Did.blk hk b n1 n2, n1, Did.ne n2 (blk_lt b) hat, Did.row hk hat r⟩)⟩
theorem Old.below (h : Old w u W p v po Ab cb no Eo) (hb : Below W.heap.size W W') : Old w u W' p v po Ab cb no Eo :=
  ⟨h.doc.below hb, h.old.imp id (fun ⟨Ao, co, b, n1, n2, r⟩ => ⟨Ao, co, blk_below b hb, n1, n2, Kd.R_below r hb⟩)⟩
theorem Old.put (h : Old w u W p v po Ab cb no Eo) (b : W.heap[g]? = some (.cells cs 24 (0, 0))) (j : Nat) (x : Value) : Old w u (W.setCell ⟨g, j, none⟩ x) p v po Ab cb no Eo :=
  ⟨h.doc.put b j x, h.old.imp id (fun ⟨Ao, co, b0, n1, n2, r⟩ => ⟨Ao, co, blk_far b0 (fun e => by subst e; have q := b0.symm.trans b; simp at q) _, n1, n2, Kd.R_set r b (by decide) j x⟩)⟩
theorem Old.put53 (h : Old w u W p v po Ab cb no Eo) (b : W.heap[g]? = some (.cells cs 53 (0, 0))) (j : Nat) (x : Value) : Old w u (W.setCell ⟨g, j, none⟩ x) p v po Ab cb no Eo :=
  ⟨h.doc.put53 b j x, h.old.imp id (fun ⟨Ao, co, b0, n1, n2, r⟩ => ⟨Ao, co, blk_far b0 (fun e => by subst e; have q := b0.symm.trans b; simp at q) _, n1, n2, Kd.R_set r b (by decide) j x⟩)⟩
/-- A fork: the net that is let alone from now on is the one that was. -/
theorem Old.fork (d : Doc w u W p (.slice A' E.length c') A c E) (ns : NS u p n (.slice A' E.length c') E W) (nq : NS W q n v' E W') : Old w u W' q v' p A c n E := by
  have pl := blk_lt ns.bp
  refine ⟨d.fork nq, .inr ⟨A', c', blk_below ns.bp nq.below, fun e => ?_, fun e => ?_, ?_⟩⟩
  · have := nq.p0; omega
  · have := Kd.R_base nq.row p e.symm; omega
  · exact Kd.R_mono (Kd.R_below (Kd.R_bound ns.row) nq.below) (fun k hk => ⟨fun e => by have := hk.2.2.1; have := nq.p0; omega, fun e => by have := hk.2.2.1; have := Kd.R_base nq.row k e.symm; omega⟩)
end
end Go.Proofs.Ytpmclhkednehhaa.Q
