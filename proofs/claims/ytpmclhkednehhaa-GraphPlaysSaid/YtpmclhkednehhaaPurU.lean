import Derived.Test.YtpmclhkednehhaaQ0
import Derived.Deep.Slices
import Derived.Lib.SmallJoins
import Derived.OpenShut
import Derived.ChangeArms
import Derived.SizedLaws
/- A graph that came in, opened: its edges as a list. -/
namespace Go.Proofs.Ytpmclhkednehhaa.G
open Go.RowKit Go.Proofs.Ytpmclhkednehhaa.Q Go.Proofs.YtpmclhkednehhaaW.PrintWords Go.ChangeShapes Go.WideShapes Go.Deep
set_option linter.unusedVariables false
section
variable {H : Type} {enc : TypeId × Value → H} {P : Program} {w : World} {base : Nat} {spare : Nat → Bool} {held : Bool}
instance : Inhabited S39 := ⟨z39⟩

theorem open_edge {t i1 i2 : TypeId} {f0 f1 f2 f3 : Field} {fuel : Nat} {cs : List Value} {x : DataW H × List MemPlace} (ht : P.underlying t = some (.struct #[f0, f1, f2, f3])) (hC : P.cellsOf t = 4)
    (o : f0.offset = 0 ∧ f1.offset = 1 ∧ f2.offset = 2 ∧ f3.offset = 3) (c : P.cellsOf f0.type = 1 ∧ P.cellsOf f1.type = 1 ∧ P.cellsOf f2.type = 1 ∧ P.cellsOf f3.type = 1)
    (h0 : P.underlying f0.type = some (.int .i64)) (h1 : P.underlying f1.type = some (.int .i64)) (h2 : P.underlying f2.type = some (.int .i64)) (h3 : P.underlying f3.type = some (.int .i64))
    (h : DataW.trod enc P w base spare held fuel t cs = some x) : ∃ e : S39, cs = [.int .i64 e.f0, .int .i64 e.f1, .int .i64 e.f2, .int .i64 e.f3] := by
  obtain ⟨y0, y1, y2, y3, n, -, hl, g0, g1, g2, g3⟩ := Joins.trod_struct4 ht h
  rw [hC] at hl
  match cs, hl with
  | [c0, c1, c2, c3], _ =>
    obtain ⟨o0, o1, o2, o3⟩ := o
    obtain ⟨k0, k1, k2, k3⟩ := c
    simp only [o0, o1, o2, o3, k0, k1, k2, k3, List.drop_zero, List.drop_succ_cons, List.take_succ_cons, List.take_zero] at g0 g1 g2 g3
    obtain ⟨x0, e0, -, -⟩ := DataW.trod_int h0 g0
    obtain ⟨x1, e1, -, -⟩ := DataW.trod_int h1 g1
    obtain ⟨x2, e2, -, -⟩ := DataW.trod_int h2 g2
    obtain ⟨x3, e3, -, -⟩ := DataW.trod_int h3 g3
    simp only [List.cons.injEq, and_true] at e0 e1 e2 e3
    exact ⟨⟨x0, x1, x2, x3⟩, by rw [e0, e1, e2, e3]⟩

theorem open_edges {t e : TypeId} {f0 f1 f2 f3 : Field} {fuel : Nat} {v : Value} {x : DataW H × List MemPlace} (ht : P.underlying t = some (.slice e)) (he : P.underlying e = some (.struct #[f0, f1, f2, f3])) (hC : P.cellsOf e = 4)
    (o : f0.offset = 0 ∧ f1.offset = 1 ∧ f2.offset = 2 ∧ f3.offset = 3) (c : P.cellsOf f0.type = 1 ∧ P.cellsOf f1.type = 1 ∧ P.cellsOf f2.type = 1 ∧ P.cellsOf f3.type = 1)
    (h0 : P.underlying f0.type = some (.int .i64)) (h1 : P.underlying f1.type = some (.int .i64)) (h2 : P.underlying f2.type = some (.int .i64)) (h3 : P.underlying f3.type = some (.int .i64))
    (h : DataW.trod enc P w base spare held fuel t [v] = some x) : ∃ (A : Option Addr) (l : List S39) (cap : Nat), v = .slice A l.length cap ∧ l.length ≤ cap ∧ Kd.C k39 w A l.length l := by
  rcases open_slice ht h with ⟨hcs, -⟩ | ⟨a, len, cap, m, n, D, Pl, hcs, hb, hl, hm, hmm, -, hx⟩
  · obtain rfl : v = .slice none 0 0 := by simpa using hcs
    exact ⟨none, [], 0, rfl, Nat.le_refl _, Kd.C_nil k39 w⟩
  · obtain rfl : v = .slice (some a) len cap := by simpa using hcs
    have hlm : len ≤ m := by rw [hmm]; split <;> omega
    have each : ∀ i, i < len → ∃ s : S39, w.cells? base (a.add (i * 4)) 4 = some [.int .i64 s.f0, .int .i64 s.f1, .int .i64 s.f2, .int .i64 s.f3] := fun i hi => by
      obtain ⟨cs', q1, q2⟩ := hx i (by omega)
      rw [hC] at q1
      obtain ⟨s, rfl⟩ := open_edge (i1 := 0) (i2 := 0) he hC o c h0 h1 h2 h3 q2
      exact ⟨s, q1⟩
    obtain ⟨f, hf⟩ := choose_lt each
    have hlen : ((List.range len).map f).length = len := by simp
    refine ⟨some a, (List.range len).map f, cap, by rw [hlen], by rw [hlen]; exact hl, ?_⟩
    · rw [hlen]
      refine ⟨hlen, by unfold maxLen at hm; omega, fun _ => ⟨a, rfl, fun j p hp => ?_⟩⟩
      have hj : j < len := by
        have := (List.getElem?_eq_some_iff.mp hp).1
        rw [hlen] at this; exact this
      have hp' : f j = p := by
        rw [List.getElem?_map, List.getElem?_range hj] at hp
        simpa using hp
      subst hp'
      obtain ⟨-, -, hcell⟩ := World.cells?_some (hf j hj)
      refine ⟨_, rfl, k39_mk w (f j), fun i u hu => ?_⟩
      have hi : i < 4 := by
        have := (List.getElem?_eq_some_iff.mp hu).1
        simpa using this
      have := hcell i hi
      rw [Go.Deep.add_add] at this
      show w.cell? (a.add (j * 4 + i)) = some u
      rw [this, hu]
end
end Go.Proofs.Ytpmclhkednehhaa.G
/- How many edges a graph has that came in. -/
namespace Go.Proofs.Ytpmclhkednehhaa.G
open Go.RowKit Go.Proofs.Ytpmclhkednehhaa.Q Go.Proofs.YtpmclhkednehhaaW.PrintWords Go.ChangeShapes Go.WideShapes Go.Deep
set_option linter.unusedVariables false
section
variable {H : Type} {enc : TypeId × Value → H} {P : Program} {w : World} {base : Nat} {spare : Nat → Bool} {held : Bool}
/-- A slice in a field of an argument is no longer than its weight allows. -/
theorem sized_field {ts : List TypeId} {ds parts : List (DataW H)} {j i : Nat} {t ft e : TypeId} {fs : Array Field} {el sp : List (DataW H)} (h : (DataW.weightsEach P ts ds).all (· ≤ reachBytes) = true) (ht : ts[j]? = some t) (hd : ds[j]? = some (.agg parts))
    (hs : P.underlying t = some (.struct fs)) (hft : (fs.toList.map (·.type))[i]? = some ft) (hp : parts[i]? = some (.slice el sp)) (hu : P.underlying ft = some (.slice e)) : (el.length + sp.length) * P.bytesOf e ≤ reachBytes := by
  have := List.all_eq_true.1 h _ (DataW.weights_mem_each ht hd ((el.length + sp.length) * P.bytesOf e) (by
    simp only [DataW.weights, hs]
    exact DataW.weights_mem_each hft hp _ (by simp [DataW.weights, hu])))
  simpa using this
theorem open_edges_sz {t e : TypeId} {f0 f1 f2 f3 : Field} {fuel : Nat} {v : Value} {x : DataW H × List MemPlace} (ht : P.underlying t = some (.slice e)) (he : P.underlying e = some (.struct #[f0, f1, f2, f3])) (hC : P.cellsOf e = 4)
    (o : f0.offset = 0 ∧ f1.offset = 1 ∧ f2.offset = 2 ∧ f3.offset = 3) (c : P.cellsOf f0.type = 1 ∧ P.cellsOf f1.type = 1 ∧ P.cellsOf f2.type = 1 ∧ P.cellsOf f3.type = 1)
    (h0 : P.underlying f0.type = some (.int .i64)) (h1 : P.underlying f1.type = some (.int .i64)) (h2 : P.underlying f2.type = some (.int .i64)) (h3 : P.underlying f3.type = some (.int .i64))
    (h : DataW.trod enc P w base spare held fuel t [v] = some x) : ∃ (A : Option Addr) (l : List S39) (cap : Nat), v = .slice A l.length cap ∧ l.length ≤ cap ∧ Kd.C k39 w A l.length l ∧ (l = [] ∨ ∃ el sp : List (DataW H), x.1 = .slice el sp ∧ el.length = l.length) := by
  rcases open_slice ht h with ⟨hcs, -⟩ | ⟨a, len, cap, m, n, D, Pl, hcs, hb, hl, hm, hmm, hxe, hx⟩
  · obtain ⟨A, l, n, e, hn, C⟩ := open_edges ht he hC o c h0 h1 h2 h3 h
    obtain rfl : v = .slice none 0 0 := by simpa using hcs
    have el : l.length = 0 := by injection e with _ e _; exact e.symm
    exact ⟨A, l, n, e, hn, C, Or.inl (List.length_eq_zero_iff.mp el)⟩
  · obtain ⟨A, l, n, e, hn, C⟩ := open_edges ht he hC o c h0 h1 h2 h3 h
    obtain rfl : v = .slice (some a) len cap := by simpa using hcs
    have el : len = l.length := by injection e with _ e _
    exact ⟨A, l, n, e, hn, C, Or.inr ⟨_, _, by rw [hxe], by simp [el]⟩⟩
end
end Go.Proofs.Ytpmclhkednehhaa.G
