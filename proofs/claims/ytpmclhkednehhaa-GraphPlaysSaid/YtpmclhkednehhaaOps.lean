/- A script that came in, opened: its calls as a list. -/
import Derived.Test.YtpmclhkednehhaaQ0
import Derived.Test.YtpmclhkednehhaaPurU
import Derived.Test.YtpmclhkednehhaaNetS
namespace Go.Proofs.Ytpmclhkednehhaa.G
open Go.RowKit Go.Proofs.Ytpmclhkednehhaa.Q Go.Proofs.YtpmclhkednehhaaW.PrintWords Go.ChangeShapes Go.WideShapes Go.Deep
set_option linter.unusedVariables false
section
variable {H : Type} {enc : TypeId × Value → H} {P : Program} {w : World} {base : Nat} {spare : Nat → Bool} {held : Bool}
instance : Inhabited S53 := ⟨z53⟩
theorem trod_struct3' {t : TypeId} {f0 f1 f2 : Field} {fuel : Nat} {cs : List Value} {x : DataW H × List MemPlace} (ht : P.underlying t = some (.struct #[f0, f1, f2])) (h : DataW.trod enc P w base spare held fuel t cs = some x) :
    ∃ y0 y1 y2 n, cs.length = P.cellsOf t ∧ DataW.trod enc P w base spare held n f0.type ((cs.drop f0.offset).take (P.cellsOf f0.type)) = some y0 ∧
      DataW.trod enc P w base spare held n f1.type ((cs.drop f1.offset).take (P.cellsOf f1.type)) = some y1 ∧ DataW.trod enc P w base spare held n f2.type ((cs.drop f2.offset).take (P.cellsOf f2.type)) = some y2 := by
  obtain ⟨xs, n, _, rfl, hl, hlen, hf⟩ := DataW.trod_struct ht h
  match xs, hlen with
  | [y0, y1, y2], _ => exact ⟨y0, y1, y2, n, hl, by simpa using hf 0 f0 rfl, by simpa using hf 1 f1 rfl, by simpa using hf 2 f2 rfl⟩
theorem open_op {t : TypeId} {e0 e1 e2 g0 g1 g2 g3 : Field} {fuel : Nat} {cs : List Value} {x : DataW H × List MemPlace} (ht : P.underlying t = some (.struct #[e0, e1, e2])) (hC : P.cellsOf t = 6)
    (o : e0.offset = 0 ∧ e1.offset = 1 ∧ e2.offset = 2) (c : P.cellsOf e0.type = 1 ∧ P.cellsOf e1.type = 1 ∧ P.cellsOf e2.type = 4)
    (h0 : P.underlying e0.type = some (.int .i64)) (h1 : P.underlying e1.type = some (.int .i64)) (h2 : P.underlying e2.type = some (.struct #[g0, g1, g2, g3]))
    (o2 : g0.offset = 0 ∧ g1.offset = 1 ∧ g2.offset = 2 ∧ g3.offset = 3) (c2 : P.cellsOf g0.type = 1 ∧ P.cellsOf g1.type = 1 ∧ P.cellsOf g2.type = 1 ∧ P.cellsOf g3.type = 1)
    (i0 : P.underlying g0.type = some (.int .i64)) (i1 : P.underlying g1.type = some (.int .i64)) (i2 : P.underlying g2.type = some (.int .i64)) (i3 : P.underlying g3.type = some (.int .i64))
    (h : DataW.trod enc P w base spare held fuel t cs = some x) : ∃ p : S53, cs = [.int .i64 p.kd, .int .i64 p.pos, .int .i64 p.e.f0, .int .i64 p.e.f1, .int .i64 p.e.f2, .int .i64 p.e.f3] := by
  obtain ⟨y0, y1, y2, n, hl, q0, q1, q2⟩ := trod_struct3' ht h
  rw [hC] at hl
  match cs, hl with
  | [a0, a1, a2, a3, a4, a5], _ =>
    obtain ⟨o0, o1, o2'⟩ := o
    obtain ⟨k0, k1, k2⟩ := c
    simp only [o0, o1, o2', k0, k1, k2, List.drop_zero, List.drop_succ_cons, List.take_succ_cons, List.take_zero] at q0 q1 q2
    obtain ⟨x0, r0, -, -⟩ := DataW.trod_int h0 q0
    obtain ⟨x1, r1, -, -⟩ := DataW.trod_int h1 q1
    obtain ⟨e, r2⟩ := open_edge (i1 := 0) (i2 := 0) h2 k2 o2 c2 i0 i1 i2 i3 q2
    simp only [List.cons.injEq, and_true] at r0 r1 r2
    obtain ⟨s0, s1, s2, s3⟩ := r2
    exact ⟨⟨x0, x1, e⟩, by rw [r0, r1, s0, s1, s2, s3]⟩
theorem open_ops {t s : TypeId} {e0 e1 e2 g0 g1 g2 g3 : Field} {fuel : Nat} {v : Value} {x : DataW H × List MemPlace} (hts : P.underlying t = some (.slice s)) (ht : P.underlying s = some (.struct #[e0, e1, e2])) (hC : P.cellsOf s = 6)
    (o : e0.offset = 0 ∧ e1.offset = 1 ∧ e2.offset = 2) (c : P.cellsOf e0.type = 1 ∧ P.cellsOf e1.type = 1 ∧ P.cellsOf e2.type = 4)
    (h0 : P.underlying e0.type = some (.int .i64)) (h1 : P.underlying e1.type = some (.int .i64)) (h2 : P.underlying e2.type = some (.struct #[g0, g1, g2, g3]))
    (o2 : g0.offset = 0 ∧ g1.offset = 1 ∧ g2.offset = 2 ∧ g3.offset = 3) (c2 : P.cellsOf g0.type = 1 ∧ P.cellsOf g1.type = 1 ∧ P.cellsOf g2.type = 1 ∧ P.cellsOf g3.type = 1)
    (i0 : P.underlying g0.type = some (.int .i64)) (i1 : P.underlying g1.type = some (.int .i64)) (i2 : P.underlying g2.type = some (.int .i64)) (i3 : P.underlying g3.type = some (.int .i64))
    (h : DataW.trod enc P w base spare held fuel t [v] = some x) : ∃ (A : Option Addr) (l : List S53) (cap : Nat), v = .slice A l.length cap ∧ l.length ≤ cap ∧ Kd.C k53 w A l.length l := by
  rcases open_slice hts h with ⟨hcs, -⟩ | ⟨a, len, cap, m, n, D, Pl, hcs, hb, hl, hm, hmm, -, hx⟩
  · obtain rfl : v = .slice none 0 0 := by simpa using hcs
    exact ⟨none, [], 0, rfl, Nat.le_refl _, Kd.C_nil k53 w⟩
  · obtain rfl : v = .slice (some a) len cap := by simpa using hcs
    have hlm : len ≤ m := by rw [hmm]; split <;> omega
    have each : ∀ i, i < len → ∃ p : S53, w.cells? base (a.add (i * 6)) 6 = some [.int .i64 p.kd, .int .i64 p.pos, .int .i64 p.e.f0, .int .i64 p.e.f1, .int .i64 p.e.f2, .int .i64 p.e.f3] := fun i hi => by
      obtain ⟨cs', q1, q2⟩ := hx i (by omega)
      rw [hC] at q1
      obtain ⟨s, rfl⟩ := open_op ht hC o c h0 h1 h2 o2 c2 i0 i1 i2 i3 q2
      exact ⟨s, q1⟩
    obtain ⟨f, hf⟩ := choose_lt each
    have hlen : ((List.range len).map f).length = len := by simp
    refine ⟨some a, (List.range len).map f, cap, by rw [hlen], by rw [hlen]; exact hl, ?_⟩
    · rw [hlen]
      refine ⟨hlen, by unfold maxLen at hm; omega, fun _ => ⟨a, rfl, fun j p hp => ?_⟩⟩
      have hj : j < len := by
        have := (List.getElem?_eq_some_iff.mp hp).1
        rw [hlen] at this; exact this
      have hp' : f j = p := by
        rw [List.getElem?_map, List.getElem?_range hj] at hp
        simpa using hp
      subst hp'
      obtain ⟨-, -, hcell⟩ := World.cells?_some (hf j hj)
      refine ⟨_, rfl, k53_mk w (f j), fun i u hu => ?_⟩
      have hi : i < 6 := by
        have := (List.getElem?_eq_some_iff.mp hu).1
        simpa using this
      have := hcell i hi
      rw [Go.Deep.add_add] at this
      show w.cell? (a.add (j * 6 + i)) = some u
      rw [this, hu]
end
end Go.Proofs.Ytpmclhkednehhaa.G
