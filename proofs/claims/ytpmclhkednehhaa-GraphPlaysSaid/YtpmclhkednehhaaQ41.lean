/- GraphKeeps: what its walk needs of its callees, and the states of its boxes and rows; typed by hand. -/
import Derived.Test.YtpmclhkednehhaaQ0
import Derived.Test.YtpmclhkednehhaaQ26
import Derived.Test.YtpmclhkednehhaaQ27
import Derived.Test.YtpmclhkednehhaaNetU
import Derived.StillTailTactics
set_option linter.unusedVariables false
set_option linter.unusedSimpArgs false
namespace Go.Proofs.Ytpmclhkednehhaa.Q
open Go.RowKit Go.Proofs.YtpmclhkednehhaaW.PrintWords Go.Proofs.YtpmclhkednehhaaW.PrintLast Go.Proofs.YtpmclhkednehhaaW.PrintMore
def z7 : S39 := ⟨0, 0, -7, 0⟩
/-- The graph that came in, and mine: a longer row of its own, of which the last edge is not shown. -/
structure KS (w0 : World) (n : Int) (A : Option Addr) (cE : Nat) (E : List S39) (gg gm b cm : Nat) (W : World) : Prop where
  below : Below w0.heap.size w0 W
  bg : W.heap[gg]? = some (.cells #[.int .i64 n, .slice A E.length cE] 24 (0, 0))
  bm : W.heap[gm]? = some (.cells #[.int .i64 n, .slice (some ⟨b, 0, none⟩) E.length cm] 24 (0, 0))
  row : Kd.R k39 39 W w0.heap.size (fun _ => True) (.slice (some ⟨b, 0, none⟩) (E.length + 1) cm) (E ++ [z7])
section
variable {w0 : World} {n : Int} {A : Option Addr} {cE : Nat} {E : List S39} {gg gm b cm : Nat} {W : World}
theorem KS.later (h : KS w0 n A cE E gg gm b cm W) {W' : World} (hb : Below W.heap.size W W') : KS w0 n A cE E gg gm b cm W' :=
  ⟨below_step h.below hb, blk_below h.bg hb, blk_below h.bm hb, Kd.R_below h.row hb⟩
theorem KS.len (h : KS w0 n A cE E gg gm b cm W) : E.length + 1 ≤ cm := (Kd.R_reads' h.row).2.1
theorem KS.mine (h : KS w0 n A cE E gg gm b cm W) : Kd.C k39 W (some ⟨b, 0, none⟩) E.length E := by
  have q := (Kd.R_reads' (Kd.R_take (m := E.length) h.row (by simp))).2.2
  rw [List.take_left'] at q
  · exact q
  · rfl
theorem KS.g0 (h : KS w0 n A cE E gg gm b cm W) : W.cell? ⟨gg, 0, none⟩ = some (.int .i64 n) := (blk_cell h.bg 0).trans rfl
theorem KS.g1 (h : KS w0 n A cE E gg gm b cm W) : W.cell? ⟨gg, 1, none⟩ = some (.slice A E.length cE) := (blk_cell h.bg 1).trans rfl
theorem KS.m0 (h : KS w0 n A cE E gg gm b cm W) : W.cell? ⟨gm, 0, none⟩ = some (.int .i64 n) := (blk_cell h.bm 0).trans rfl
theorem KS.m1 (h : KS w0 n A cE E gg gm b cm W) : W.cell? ⟨gm, 1, none⟩ = some (.slice (some ⟨b, 0, none⟩) E.length cm) := (blk_cell h.bm 1).trans rfl
/-- The edge behind the shown ones is still there. -/
theorem KS.seven (h : KS w0 n A cE E gg gm b cm W) : W.cell? ⟨b, E.length * 4 + 2, none⟩ = some (.int .i64 (-7)) := by
  obtain ⟨c, hl, hM, hc, hf⟩ := Kd.R_elem h.row z39 (E.length : Int) (by omega) (by omega)
  obtain rfl := k39_openM hM
  have := hc 2 _ rfl
  rw [Int.toNat_natCast] at this
  rw [show ((E ++ [z7]).getD E.length z39) = z7 by simp [List.getD_eq_getElem?_getD]] at this
  exact this
theorem KS.put (h : KS w0 n A cE E gg gm b cm W) {g : Nat} {t : TypeId} {x0 y0 : Value} (ht : ∀ q, q ∈ (39 : TypeId) :: k39.E → q ≠ t) (g0 : w0.heap.size ≤ g) (ng : gg ≠ g) (nm : gm ≠ g) (hb : W.heap[g]? = some (.cells #[x0, y0] t (0, 0))) (x y : Value) : KS w0 n A cE E gg gm b cm ((W.setCell ⟨g, 0, none⟩ x).setCell ⟨g, 1, none⟩ y) :=
  ⟨below_set (below_set h.below g0) g0, blk_far (blk_far h.bg ng _) ng _, blk_far (blk_far h.bm nm _) nm _, Kd.R_set (Kd.R_set h.row hb ht 0 _) (blk_put hb 0 _ rfl) ht 1 _⟩
theorem KS.five (h : KS w0 n A cE E gg gm b cm W) {W' : World} (hb : Below W.heap.size W W') : W'.cell? ⟨gm, 0, none⟩ = some (.int .i64 n) ∧ W'.cell? ⟨gm, 1, none⟩ = some (.slice (some ⟨b, 0, none⟩) E.length cm) ∧ W'.cell? ⟨gg, 0, none⟩ = some (.int .i64 n) ∧ W'.cell? ⟨gg, 1, none⟩ = some (.slice A E.length cE) ∧ W'.cell? ⟨b, E.length * 4 + 2, none⟩ = some (.int .i64 (-7)) := by
  have q := h.later hb
  exact ⟨q.m0, q.m1, q.g0, q.g1, q.seven⟩
end
def compasslaw03_GraphKeeps.T4 : Bool × List (List Nat × List Nat) := (true, [([], []), ([0], [0]), ([], []), ([2], [2]), ([1, 3], [1, 3]), ([], []), ([5], [5]), ([6], [6]), ([4, 7], [4, 7]), ([0, 1, 2, 3, 4, 5, 6, 7, 8], []), ([9, 8, 4, 0, 1, 2, 3, 4, 5, 6, 7, 8], [8, 9])])
def compasslaw03_GraphKeeps.B4 : List Nat := [0, 1, 0, 4, 15, 0, 32, 96, 255, 511, 1023]
theorem compasslaw03_GraphKeeps.tab4 : rtab .any (opsOf Try.f4 4) = compasslaw03_GraphKeeps.T4 := by kernel_rfl
theorem compasslaw03_GraphKeeps.bits4 : waitsOk compasslaw03_GraphKeeps.T4.2 compasslaw03_GraphKeeps.B4 = true := by kernel_rfl
end Go.Proofs.Ytpmclhkednehhaa.Q
