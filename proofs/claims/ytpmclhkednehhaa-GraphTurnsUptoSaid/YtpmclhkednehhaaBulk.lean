/- What the bound on an argument's bulk gives: a graph's edges are no more than it. -/
import Derived.Test.YtpmclhkednehhaaQ0
import Derived.Test.YtpmclhkednehhaaO
import Derived.Test.YtpmclhkednehhaaRows
namespace Go.Proofs.Ytpmclhkednehhaa.G
open Go.RowKit Go.Proofs.Ytpmclhkednehhaa.Q Go.Proofs.YtpmclhkednehhaaW.PrintWords Go.ChangeShapes Go.WideShapes Go.Deep
set_option linter.unusedVariables false
theorem bulk_one {H : Type} (d : DataW H) : 1 ≤ Rows.uptoBulk d := by
  cases d with
  | lit l => cases l <;> simp [Rows.uptoBulk]
  | nil => simp [Rows.uptoBulk]
  | ptr d => simp [Rows.uptoBulk]
  | slice elems spare => simp [Rows.uptoBulk]
  | agg parts => simp [Rows.uptoBulk]
  | iface t d => simp [Rows.uptoBulk]
  | map entries => simp [Rows.uptoBulk]
  | held h => simp [Rows.uptoBulk]
theorem bulk_part {H : Type} {d : DataW H} {l : List (DataW H)} (h : d ∈ l) : Rows.uptoBulk d ≤ Rows.uptoBulkAll l := by
  induction l with
  | nil => cases h
  | cons x r ih =>
    simp only [Rows.uptoBulkAll]
    cases List.mem_cons.1 h with
    | inl e => subst e; omega
    | inr e => have := ih e; omega
theorem bulk_len {H : Type} (l : List (DataW H)) : l.length ≤ Rows.uptoBulkAll l := by
  induction l with
  | nil => simp [Rows.uptoBulkAll]
  | cons x r ih => have := bulk_one x; simp only [Rows.uptoBulkAll, List.length_cons]; omega
/-- A graph's edges. -/
theorem bulk_graph {H : Type} {ds gs : List (DataW H)} {a : DataW H} {el sp : List (DataW H)} (hk : Rows.uptoSmall H (ds ++ gs) = true) (h : DataW.agg [a, .slice el sp] ∈ ds) : el.length ≤ 1048576 := by
  have h0 : Rows.uptoBulkAll (ds ++ gs) ≤ 1048576 := of_decide_eq_true hk
  have h1 := bulk_part (List.mem_append_left gs h)
  have h2 := bulk_len el
  simp only [Rows.uptoBulk, Rows.uptoBulkAll] at h1
  omega
section
variable {H : Type} {enc : TypeId × Value → H} {P : Program} {w : World} {base : Nat} {spare : Nat → Bool} {held : Bool}
theorem open_edges_sz {t e : TypeId} {f0 f1 f2 f3 : Field} {fuel : Nat} {v : Value} {x : DataW H × List MemPlace} (ht : P.underlying t = some (.slice e)) (he : P.underlying e = some (.struct #[f0, f1, f2, f3])) (hC : P.cellsOf e = 4)
    (o : f0.offset = 0 ∧ f1.offset = 1 ∧ f2.offset = 2 ∧ f3.offset = 3) (c : P.cellsOf f0.type = 1 ∧ P.cellsOf f1.type = 1 ∧ P.cellsOf f2.type = 1 ∧ P.cellsOf f3.type = 1)
    (h0 : P.underlying f0.type = some (.int .i64)) (h1 : P.underlying f1.type = some (.int .i64)) (h2 : P.underlying f2.type = some (.int .i64)) (h3 : P.underlying f3.type = some (.int .i64))
    (h : DataW.trod enc P w base spare held fuel t [v] = some x) : ∃ (A : Option Addr) (l : List S39) (cap : Nat), v = .slice A l.length cap ∧ l.length ≤ cap ∧ Kd.C k39 w A l.length l ∧ (l = [] ∨ ∃ el sp : List (DataW H), x.1 = .slice el sp ∧ el.length = l.length) := by
  rcases open_slice ht h with ⟨hcs, -⟩ | ⟨a, len, cap, m, n, D, Pl, hcs, hb, hl, hm, hmm, hxe, hx⟩
  · obtain ⟨A, l, n, e, hn, C⟩ := open_edges ht he hC o c h0 h1 h2 h3 h
    obtain rfl : v = .slice none 0 0 := by simpa using hcs
    have el : l.length = 0 := by injection e with _ e _; exact e.symm
    exact ⟨A, l, n, e, hn, C, Or.inl (List.length_eq_zero_iff.mp el)⟩
  · obtain ⟨A, l, n, e, hn, C⟩ := open_edges ht he hC o c h0 h1 h2 h3 h
    obtain rfl : v = .slice (some a) len cap := by simpa using hcs
    have el : len = l.length := by injection e with _ e _
    exact ⟨A, l, n, e, hn, C, Or.inr ⟨_, _, by rw [hxe], by simp [el]⟩⟩
end
end Go.Proofs.Ytpmclhkednehhaa.G
