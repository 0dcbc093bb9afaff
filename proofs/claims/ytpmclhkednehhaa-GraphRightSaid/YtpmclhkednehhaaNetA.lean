/- A net: its small questions, typed by hand. -/
import Derived.Test.YtpmclhkednehhaaQ0
import Derived.StillTailTactics
set_option linter.unusedVariables false
set_option linter.unusedSimpArgs false
namespace Go.Proofs.Ytpmclhkednehhaa.Q
open Go.RowKit Go.Proofs.YtpmclhkednehhaaW.PrintWords Go.Proofs.YtpmclhkednehhaaW.PrintLast Go.Proofs.YtpmclhkednehhaaW.PrintMore
/-- A net: its box, and the row of its edges. -/
structure NS (w0 : World) (p : Nat) (n : Int) (v : Value) (E : List S39) (W : World) : Prop where
  below : Below w0.heap.size w0 W
  bp : W.heap[p]? = some (.cells #[.int .i64 n, v] 44 (0, 0))
  p0 : w0.heap.size ≤ p
  row : Kd.R k39 39 W w0.heap.size (fun _ => True) v E
section
variable {w0 : World} {p : Nat} {n : Int} {v : Value} {E : List S39} {W : World}
theorem NS.later (h : NS w0 p n v E W) {W' : World} (hb : Below W.heap.size W W') : NS w0 p n v E W' := ⟨below_step h.below hb, blk_below h.bp hb, h.p0, Kd.R_below h.row hb⟩
theorem NS.c0 (h : NS w0 p n v E W) : W.cell? ⟨p, 0, none⟩ = some (.int .i64 n) := (blk_cell h.bp 0).trans rfl
theorem NS.c1 (h : NS w0 p n v E W) : W.cell? ⟨p, 1, none⟩ = some v := (blk_cell h.bp 1).trans rfl
theorem NS.f1 (h : NS w0 p n v E W) : W.frozen? ⟨p, 1, none⟩ = false := blk_frozen h.bp 1
end
theorem shape_node.calls (p : Nat) (n x : Int) (W : World) (k0 : W.cell? ⟨p, 0, none⟩ = some (.int .i64 n)) :
    Calls Try.prog 33 #[.pointer (some ⟨p, 0, none⟩), .int .i64 x] W fun e w' => e = .returned (.bool (decide (0 ≤ x) && decide (x < n))) ∧ w' = W := by
  have hu42 := Try.underlying42
  by_cases c : 0 ≤ x
  · have c1 : decide (0 ≤ x) = true := decide_eq_true c
    rw [c1, Bool.true_and]
    go_enter Try.func33, Try.ntmps33
    go_wp2
    go_ret
    exact ⟨rfl, rfl⟩
  · have c1 : decide (0 ≤ x) = false := decide_eq_false c
    rw [c1, Bool.false_and]
    go_enter Try.func33, Try.ntmps33
    go_wp2
    go_ret
    exact ⟨rfl, rfl⟩
theorem shape_edge.calls (p : Nat) (A : Option Addr) (m cap : Nat) (x : Int) (W : World) (k0 : W.cell? ⟨p, 1, none⟩ = some (.slice A m cap)) :
    Calls Try.prog 38 #[.pointer (some ⟨p, 0, none⟩), .int .i64 x] W fun e w' => e = .returned (.bool (decide (0 ≤ x) && decide (x < (m : Int)))) ∧ w' = W := by
  have hu42 := Try.underlying42
  by_cases c : 0 ≤ x
  · have c1 : decide (0 ≤ x) = true := decide_eq_true c
    rw [c1, Bool.true_and]
    go_enter Try.func38, Try.ntmps38
    go_wp2
    go_ret
    exact ⟨rfl, rfl⟩
  · have c1 : decide (0 ≤ x) = false := decide_eq_false c
    rw [c1, Bool.false_and]
    go_enter Try.func38, Try.ntmps38
    go_wp2
    go_ret
    exact ⟨rfl, rfl⟩
theorem shape_Nodes.calls (p : Nat) (n : Int) (W : World) (k0 : W.cell? ⟨p, 0, none⟩ = some (.int .i64 n)) :
    Calls Try.prog 20 #[.pointer (some ⟨p, 0, none⟩)] W fun e w' => e = .returned (.int .i64 n) ∧ w' = W := by
  have hu42 := Try.underlying42
  go_enter Try.func20, Try.ntmps20
  go_wp2
  go_ret
  exact ⟨rfl, rfl⟩
theorem shape_Edges.calls (p : Nat) (A : Option Addr) (m cap : Nat) (W : World) (k0 : W.cell? ⟨p, 1, none⟩ = some (.slice A m cap)) :
    Calls Try.prog 21 #[.pointer (some ⟨p, 0, none⟩)] W fun e w' => e = .returned (.int .i64 (m : Int)) ∧ w' = W := by
  have hu42 := Try.underlying42
  go_enter Try.func21, Try.ntmps21
  go_wp2
  go_ret
  exact ⟨rfl, rfl⟩
end Go.Proofs.Ytpmclhkednehhaa.Q
