/- WalkKeeps: what its walk needs of its callees, and the states of its boxes and rows; typed by hand. -/
import Derived.Test.YtacklfnnpiobgaaQ0
import Derived.Test.YtacklfnnpiobgaaQ17
import Derived.Test.YtacklfnnpiobgaaQ18
import Derived.Test.YtacklfnnpiobgaaQ20
import Derived.Test.YtacklfnnpiobgaaQ22
import Derived.Test.YtacklfnnpiobgaaQ26
import Derived.Test.YtacklfnnpiobgaaQ27
import Derived.Test.YtacklfnnpiobgaaQ6
import Derived.Test.YtacklfnnpiobgaaQ8
import Derived.Test.YtacklfnnpiobgaaQ9
import Derived.Test.YtacklfnnpiobgaaVisD
import Derived.StillTailTactics
set_option linter.unusedVariables false
set_option linter.unusedSimpArgs false
namespace Go.Proofs.Ytacklfnnpiobgaa.Q
open Go.RowKit Go.Proofs.YtacklfnnpiobgaaW.PrintWords Go.Proofs.YtacklfnnpiobgaaW.PrintLast Go.Proofs.YtacklfnnpiobgaaW.PrintMore
/-- What the law does, told by what its callees compute. -/
structure compasslaw04_WalkKeeps.Told (k : Nat) (n : Int) (E : List S41) (s : Int) (L T S V P O C : List Int) (c d f x y : Int) : Prop where
  len : E.length < 4398046511104
  awake : compasslaw04_awake.f k = some true
  copy : compassref03_Copy.f k n E = some (n, E)
  lev : walk_Levels.f k n E s = some (L, c)
  lev4 : compassref04_Levels.f k n E s = some (L, c)
  visit : walk_Visit.f k n E = some (V, P, d)
  parts : walk_Parts.f k n E = some (T, f)
  parts4 : compassref04_Parts.f k n E = some (T, f)
  strong : walk_Strong.f k n E = some (S, x)
  order : walk_Order.f k n E = some (O, C, y)
  same : compassref03_Same.f k n E n E = some true
  intsL : compasslaw04_ints.f k L L = some true
  intsT : compasslaw04_ints.f k T T = some true
  lenL : (L.length : Int) ≤ 1000000000000
  lenS : (S.length : Int) ≤ 1000000000000
def z7 : S41 := ⟨0, 0, -7, 0⟩
/-- The graph that came in, and mine: a longer row of its own, of which the last edge is not shown. -/
structure KS (w0 : World) (n : Int) (A : Option Addr) (cE : Nat) (E : List S41) (gg gm b cm : Nat) (W : World) : Prop where
  below : Below w0.heap.size w0 W
  bg : W.heap[gg]? = some (.cells #[.int .i64 n, .slice A E.length cE] 24 (0, 0))
  bm : W.heap[gm]? = some (.cells #[.int .i64 n, .slice (some ⟨b, 0, none⟩) E.length cm] 24 (0, 0))
  row : Kd.R k41 41 W w0.heap.size (fun _ => True) (.slice (some ⟨b, 0, none⟩) (E.length + 1) cm) (E ++ [z7])
section
variable {w0 : World} {n : Int} {A : Option Addr} {cE : Nat} {E : List S41} {gg gm b cm : Nat} {W : World}
theorem KS.later (h : KS w0 n A cE E gg gm b cm W) {W' : World} (hb : Below W.heap.size W W') : KS w0 n A cE E gg gm b cm W' :=
  ⟨below_step h.below hb, blk_below h.bg hb, blk_below h.bm hb, Kd.R_below h.row hb⟩
theorem KS.len (h : KS w0 n A cE E gg gm b cm W) : E.length + 1 ≤ cm := (Kd.R_reads' h.row).2.1
theorem KS.mine (h : KS w0 n A cE E gg gm b cm W) : Kd.C k41 W (some ⟨b, 0, none⟩) E.length E := by
  have q := (Kd.R_reads' (Kd.R_take (m := E.length) h.row (by simp))).2.2
  rw [List.take_left'] at q
  · exact q
  · rfl
theorem KS.g0 (h : KS w0 n A cE E gg gm b cm W) : W.cell? ⟨gg, 0, none⟩ = some (.int .i64 n) := (blk_cell h.bg 0).trans rfl
theorem KS.g1 (h : KS w0 n A cE E gg gm b cm W) : W.cell? ⟨gg, 1, none⟩ = some (.slice A E.length cE) := (blk_cell h.bg 1).trans rfl
theorem KS.m0 (h : KS w0 n A cE E gg gm b cm W) : W.cell? ⟨gm, 0, none⟩ = some (.int .i64 n) := (blk_cell h.bm 0).trans rfl
theorem KS.m1 (h : KS w0 n A cE E gg gm b cm W) : W.cell? ⟨gm, 1, none⟩ = some (.slice (some ⟨b, 0, none⟩) E.length cm) := (blk_cell h.bm 1).trans rfl
/-- The edge behind the shown ones is still there. -/
theorem KS.seven (h : KS w0 n A cE E gg gm b cm W) : W.cell? ⟨b, E.length * 4 + 2, none⟩ = some (.int .i64 (-7)) := by
  obtain ⟨c, hl, hM, hc, hf⟩ := Kd.R_elem h.row z41 (E.length : Int) (by omega) (by omega)
  obtain rfl := k41_openM hM
  have := hc 2 _ rfl
  rw [Int.toNat_natCast] at this
  rw [show ((E ++ [z7]).getD E.length z41) = z7 by simp [List.getD_eq_getElem?_getD]] at this
  exact this
theorem KS.five (h : KS w0 n A cE E gg gm b cm W) {W' : World} (hb : Below W.heap.size W W') : W'.cell? ⟨gm, 0, none⟩ = some (.int .i64 n) ∧ W'.cell? ⟨gm, 1, none⟩ = some (.slice (some ⟨b, 0, none⟩) E.length cm) ∧ W'.cell? ⟨gg, 0, none⟩ = some (.int .i64 n) ∧ W'.cell? ⟨gg, 1, none⟩ = some (.slice A E.length cE) ∧ W'.cell? ⟨b, E.length * 4 + 2, none⟩ = some (.int .i64 (-7)) := by
  have q := h.later hb
  exact ⟨q.m0, q.m1, q.g0, q.g1, q.seven⟩
end
/-- The rows of the answers: what is written into one leaves the others. -/
structure AS (w0 : World) (va vb vc vd vw vp : Value) (X L T Y : List Int) (W : World) : Prop where
  below : Below w0.heap.size w0 W
  ra : Kd.R (Kd.int .i64) 3 W w0.heap.size (fun k => some k ≠ vd.ownBlock) va X
  rd : Kd.R (Kd.int .i64) 3 W w0.heap.size (fun k => some k ≠ va.ownBlock) vd Y
  rb : Kd.R (Kd.int .i64) 3 W w0.heap.size (fun k => some k ≠ va.ownBlock ∧ some k ≠ vd.ownBlock) vb L
  rc : Kd.R (Kd.int .i64) 3 W w0.heap.size (fun k => some k ≠ va.ownBlock ∧ some k ≠ vd.ownBlock) vc T
  rw : Kd.R (Kd.int .i64) 3 W w0.heap.size (fun k => some k ≠ va.ownBlock ∧ some k ≠ vd.ownBlock) vw L
  rp : Kd.R (Kd.int .i64) 3 W w0.heap.size (fun k => some k ≠ va.ownBlock ∧ some k ≠ vd.ownBlock) vp T
section
variable {w0 : World} {va vb vc vd vw vp : Value} {X L T Y : List Int} {W : World} {p m cap : Nat}
theorem AS.later (h : AS w0 va vb vc vd vw vp X L T Y W) {W' : World} (hb : Below W.heap.size W W') : AS w0 va vb vc vd vw vp X L T Y W' :=
  ⟨below_step h.below hb, Kd.R_below h.ra hb, Kd.R_below h.rd hb, Kd.R_below h.rb hb, Kd.R_below h.rc hb, Kd.R_below h.rw hb, Kd.R_below h.rp hb⟩
theorem AS.setA (h : AS w0 (.slice (some ⟨p, 0, none⟩) m cap) vb vc vd vw vp X L T Y W) (i x : Int) : AS w0 (.slice (some ⟨p, 0, none⟩) m cap) vb vc vd vw vp (X.set i.toNat x) L T Y (W.setCell ⟨p, i.toNat, none⟩ (.int .i64 x)) := by
  obtain ⟨a, g⟩ := Kd.R_putg h.ra i x
  have pb : (Value.slice (some ⟨p, 0, none⟩) m cap).ownBlock = some p := rfl
  exact ⟨below_set h.below (Kd.R_base h.ra p pb), a, Kd.R_grown h.rd g (fun k hk => by rw [← pb]; exact hk), Kd.R_grown h.rb g (fun k hk => by rw [← pb]; exact hk.1), Kd.R_grown h.rc g (fun k hk => by rw [← pb]; exact hk.1), Kd.R_grown h.rw g (fun k hk => by rw [← pb]; exact hk.1), Kd.R_grown h.rp g (fun k hk => by rw [← pb]; exact hk.1)⟩
theorem AS.setD (h : AS w0 va vb vc (.slice (some ⟨p, 0, none⟩) m cap) vw vp X L T Y W) (i x : Int) : AS w0 va vb vc (.slice (some ⟨p, 0, none⟩) m cap) vw vp X L T (Y.set i.toNat x) (W.setCell ⟨p, i.toNat, none⟩ (.int .i64 x)) := by
  obtain ⟨a, g⟩ := Kd.R_putg h.rd i x
  have pb : (Value.slice (some ⟨p, 0, none⟩) m cap).ownBlock = some p := rfl
  exact ⟨below_set h.below (Kd.R_base h.rd p pb), Kd.R_grown h.ra g (fun k hk => by rw [← pb]; exact hk), a, Kd.R_grown h.rb g (fun k hk => by rw [← pb]; exact hk.2), Kd.R_grown h.rc g (fun k hk => by rw [← pb]; exact hk.2), Kd.R_grown h.rw g (fun k hk => by rw [← pb]; exact hk.2), Kd.R_grown h.rp g (fun k hk => by rw [← pb]; exact hk.2)⟩
end
def compasslaw04_WalkKeeps.T4 : Bool × List (List Nat × List Nat) := (true, [([], []), ([0], [0]), ([], []), ([2], [2]), ([1, 3], [1, 3]), ([], []), ([5], [5]), ([6], [6]), ([4, 7], [4, 7]), ([0, 1, 2, 3, 4, 5, 6, 7, 8], []), ([9, 8, 4, 0, 1, 2, 3, 4, 5, 6, 7, 8], [8, 9])])
def compasslaw04_WalkKeeps.B4 : List Nat := [0, 1, 0, 4, 15, 0, 32, 96, 255, 511, 1023]
theorem compasslaw04_WalkKeeps.tab4 : rtab .any (opsOf Try.f11 4) = compasslaw04_WalkKeeps.T4 := by kernel_rfl
theorem compasslaw04_WalkKeeps.bits4 : waitsOk compasslaw04_WalkKeeps.T4.2 compasslaw04_WalkKeeps.B4 = true := by kernel_rfl
end Go.Proofs.Ytacklfnnpiobgaa.Q
