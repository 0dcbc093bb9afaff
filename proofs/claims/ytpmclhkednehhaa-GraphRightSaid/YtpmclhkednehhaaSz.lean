/- How many edges a graph has that came in. -/
import Derived.Test.YtpmclhkednehhaaQ0
import Derived.Test.YtpmclhkednehhaaO
import Derived.Deep.Slices
import Derived.Lib.SmallJoins
import Derived.OpenShut
import Derived.ChangeArms
import Derived.SizedLaws
namespace Go.Proofs.Ytpmclhkednehhaa.G
open Go.RowKit Go.Proofs.Ytpmclhkednehhaa.Q Go.Proofs.YtpmclhkednehhaaW.PrintWords Go.ChangeShapes Go.WideShapes Go.Deep
set_option linter.unusedVariables false
section
variable {H : Type} {enc : TypeId × Value → H} {P : Program} {w : World} {base : Nat} {spare : Nat → Bool} {held : Bool}
/-- A slice in a field of an argument is no longer than its weight allows. -/
theorem sized_field {ts : List TypeId} {ds parts : List (DataW H)} {j i : Nat} {t ft e : TypeId} {fs : Array Field} {el sp : List (DataW H)} (h : (DataW.weightsEach P ts ds).all (· ≤ reachBytes) = true) (ht : ts[j]? = some t) (hd : ds[j]? = some (.agg parts))
    (hs : P.underlying t = some (.struct fs)) (hft : (fs.toList.map (·.type))[i]? = some ft) (hp : parts[i]? = some (.slice el sp)) (hu : P.underlying ft = some (.slice e)) : (el.length + sp.length) * P.bytesOf e ≤ reachBytes := by
  have := List.all_eq_true.1 h _ (DataW.weights_mem_each ht hd ((el.length + sp.length) * P.bytesOf e) (by
    simp only [DataW.weights, hs]
    exact DataW.weights_mem_each hft hp _ (by simp [DataW.weights, hu])))
  simpa using this
theorem open_edges_sz {t e : TypeId} {f0 f1 f2 f3 : Field} {fuel : Nat} {v : Value} {x : DataW H × List MemPlace} (ht : P.underlying t = some (.slice e)) (he : P.underlying e = some (.struct #[f0, f1, f2, f3])) (hC : P.cellsOf e = 4)
    (o : f0.offset = 0 ∧ f1.offset = 1 ∧ f2.offset = 2 ∧ f3.offset = 3) (c : P.cellsOf f0.type = 1 ∧ P.cellsOf f1.type = 1 ∧ P.cellsOf f2.type = 1 ∧ P.cellsOf f3.type = 1)
    (h0 : P.underlying f0.type = some (.int .i64)) (h1 : P.underlying f1.type = some (.int .i64)) (h2 : P.underlying f2.type = some (.int .i64)) (h3 : P.underlying f3.type = some (.int .i64))
    (h : DataW.trod enc P w base spare held fuel t [v] = some x) : ∃ (A : Option Addr) (l : List S39) (cap : Nat), v = .slice A l.length cap ∧ l.length ≤ cap ∧ Kd.C k39 w A l.length l ∧ (l = [] ∨ ∃ el sp : List (DataW H), x.1 = .slice el sp ∧ el.length = l.length) := by
  rcases open_slice ht h with ⟨hcs, -⟩ | ⟨a, len, cap, m, n, D, Pl, hcs, hb, hl, hm, hmm, hxe, hx⟩
  · obtain ⟨A, l, n, e, hn, C⟩ := open_edges ht he hC o c h0 h1 h2 h3 h
    obtain rfl : v = .slice none 0 0 := by simpa using hcs
    have el : l.length = 0 := by injection e with _ e _; exact e.symm
    exact ⟨A, l, n, e, hn, C, Or.inl (List.length_eq_zero_iff.mp el)⟩
  · obtain ⟨A, l, n, e, hn, C⟩ := open_edges ht he hC o c h0 h1 h2 h3 h
    obtain rfl : v = .slice (some a) len cap := by simpa using hcs
    have el : len = l.length := by injection e with _ e _
    exact ⟨A, l, n, e, hn, C, Or.inr ⟨_, _, by rw [hxe], by simp [el]⟩⟩
end
end Go.Proofs.Ytpmclhkednehhaa.G
