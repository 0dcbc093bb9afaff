/- A walk that came in, opened: its steps as a list, no longer than its weight allows. -/
import Derived.Test.YtplbkggdnonfbaaQ0
import Derived.Deep.Slices
import Derived.Lib.SmallJoins
import Derived.OpenShut
import Derived.ChangeArms
import Derived.SizedLaws
namespace Go.Proofs.Ytplbkggdnonfbaa.G
open Go.RowKit Go.Proofs.Ytplbkggdnonfbaa.Q Go.Proofs.YtplbkggdnonfbaaW.PrintWords Go.ChangeShapes Go.WideShapes Go.Deep
set_option linter.unusedVariables false
section
variable {H : Type} {enc : TypeId × Value → H} {P : Program} {w : World} {base : Nat} {spare : Nat → Bool} {held : Bool}
instance : Inhabited S51 := ⟨z51⟩

theorem open_step {t : TypeId} {f0 f1 : Field} {fuel : Nat} {cs : List Value} {x : DataW H × List MemPlace} (ht : P.underlying t = some (.struct #[f0, f1])) (hC : P.cellsOf t = 2)
    (o : f0.offset = 0 ∧ f1.offset = 1) (c : P.cellsOf f0.type = 1 ∧ P.cellsOf f1.type = 1)
    (h0 : P.underlying f0.type = some (.int .i64)) (h1 : P.underlying f1.type = some .bool)
    (h : DataW.trod enc P w base spare held fuel t cs = some x) : ∃ e : S51, cs = [.int .i64 e.f0, .bool e.f1] := by
  obtain ⟨y0, y1, n, -, hl, g0, g1⟩ := trod_struct2 ht h
  rw [hC] at hl
  match cs, hl with
  | [c0, c1], _ =>
    obtain ⟨o0, o1⟩ := o
    obtain ⟨k0, k1⟩ := c
    simp only [o0, o1, k0, k1, List.drop_zero, List.drop_succ_cons, List.take_succ_cons, List.take_zero] at g0 g1
    obtain ⟨x0, e0, -, -⟩ := DataW.trod_int h0 g0
    obtain ⟨x1, e1, -⟩ := DataW.trod_bool h1 g1
    simp only [List.cons.injEq, and_true] at e0 e1
    exact ⟨⟨x0, x1⟩, by rw [e0, e1]⟩

theorem open_steps {t e : TypeId} {f0 f1 : Field} {fuel : Nat} {v : Value} {x : DataW H × List MemPlace} (ht : P.underlying t = some (.slice e)) (he : P.underlying e = some (.struct #[f0, f1])) (hC : P.cellsOf e = 2)
    (o : f0.offset = 0 ∧ f1.offset = 1) (c : P.cellsOf f0.type = 1 ∧ P.cellsOf f1.type = 1)
    (h0 : P.underlying f0.type = some (.int .i64)) (h1 : P.underlying f1.type = some .bool)
    (h : DataW.trod enc P w base spare held fuel t [v] = some x) : ∃ (A : Option Addr) (l : List S51) (cap : Nat), v = .slice A l.length cap ∧ l.length ≤ cap ∧ Kd.C k51 w A l.length l ∧ (l = [] ∨ ∃ el sp : List (DataW H), x.1 = .slice el sp ∧ el.length = l.length) := by
  rcases open_slice ht h with ⟨hcs, -⟩ | ⟨a, len, cap, m, n, D, Pl, hcs, hb, hl, hm, hmm, hxe, hx⟩
  · obtain rfl : v = .slice none 0 0 := by simpa using hcs
    exact ⟨none, [], 0, rfl, Nat.le_refl _, Kd.C_nil k51 w, Or.inl rfl⟩
  · obtain rfl : v = .slice (some a) len cap := by simpa using hcs
    have hlm : len ≤ m := by rw [hmm]; split <;> omega
    have each : ∀ i, i < len → ∃ s : S51, w.cells? base (a.add (i * 2)) 2 = some [.int .i64 s.f0, .bool s.f1] := fun i hi => by
      obtain ⟨cs', q1, q2⟩ := hx i (by omega)
      rw [hC] at q1
      obtain ⟨s, rfl⟩ := open_step he hC o c h0 h1 q2
      exact ⟨s, q1⟩
    obtain ⟨f, hf⟩ := choose_lt each
    have hlen : ((List.range len).map f).length = len := by simp
    refine ⟨some a, (List.range len).map f, cap, by rw [hlen], by rw [hlen]; exact hl, ?_, Or.inr ⟨_, _, by rw [hxe], by simp⟩⟩
    rw [hlen]
    refine ⟨hlen, by unfold maxLen at hm; omega, fun _ => ⟨a, rfl, fun j p hp => ?_⟩⟩
    have hj : j < len := by
      have := (List.getElem?_eq_some_iff.mp hp).1
      rw [hlen] at this; exact this
    have hp' : f j = p := by
      rw [List.getElem?_map, List.getElem?_range hj] at hp
      simpa using hp
    subst hp'
    obtain ⟨-, -, hcell⟩ := World.cells?_some (hf j hj)
    refine ⟨_, rfl, k51_mk w (f j), fun i u hu => ?_⟩
    have hi : i < 2 := by
      have := (List.getElem?_eq_some_iff.mp hu).1
      simpa using this
    have := hcell i hi
    rw [Go.Deep.add_add] at this
    show w.cell? (a.add (j * 2 + i)) = some u
    rw [this, hu]

/-- A slice in a field of an argument is no longer than its weight allows. -/
theorem sized_field {ts : List TypeId} {ds parts : List (DataW H)} {j i : Nat} {t ft e : TypeId} {fs : Array Field} {el sp : List (DataW H)} (h : (DataW.weightsEach P ts ds).all (· ≤ reachBytes) = true) (ht : ts[j]? = some t) (hd : ds[j]? = some (.agg parts))
    (hs : P.underlying t = some (.struct fs)) (hft : (fs.toList.map (·.type))[i]? = some ft) (hp : parts[i]? = some (.slice el sp)) (hu : P.underlying ft = some (.slice e)) : (el.length + sp.length) * P.bytesOf e ≤ reachBytes := by
  have := List.all_eq_true.1 h _ (DataW.weights_mem_each ht hd ((el.length + sp.length) * P.bytesOf e) (by
    simp only [DataW.weights, hs]
    exact DataW.weights_mem_each hft hp _ (by simp [DataW.weights, hu])))
  simpa using this
end
end Go.Proofs.Ytplbkggdnonfbaa.G
