/- EulerKeeps: what its walk needs of its callees, and the states of its boxes and rows; typed by hand after chapter 04's. -/
import Derived.Test.YtplbkggdnonfbaaQ0
import Derived.Test.YtplbkggdnonfbaaQ11
import Derived.Test.YtplbkggdnonfbaaQ13
import Derived.Test.YtplbkggdnonfbaaQ14
import Derived.Test.YtplbkggdnonfbaaQ30
import Derived.Test.YtplbkggdnonfbaaQ31
import Derived.StillTailTactics
set_option linter.unusedVariables false
set_option linter.unusedSimpArgs false
namespace Go.Proofs.Ytplbkggdnonfbaa.Q
open Go.RowKit Go.Proofs.YtplbkggdnonfbaaW.PrintWords Go.Proofs.YtplbkggdnonfbaaW.PrintLast Go.Proofs.YtplbkggdnonfbaaW.PrintMore
/-- What the law does, told by what its callees compute. -/
structure compasslaw09_EulerKeeps.Told (k : Nat) (n : Int) (E : List S45) (d : Bool) (st : Int) (L : List S51) (v c : Int) (b : Bool) : Prop where
  len : E.length < 4398046511104
  awake : compasslaw09_awake.f k = some true
  copy : compassref03_Copy.f k n E = some (n, E)
  tour : euler_Tour.f k n E d = some (st, L, v, c)
  covers : euler_Covers.f k n E st L d = some b
  same : compassref03_Same.f k n E n E = some true
  yes : c = 0 → n ≠ 0 → b = true
  lenL : (L.length : Int) ≤ 1000000000000
def z7 : S45 := ⟨0, 0, -7, 0⟩
/-- The graph that came in, and mine: a longer row of its own, of which the last edge is not shown. -/
structure KS (w0 : World) (n : Int) (A : Option Addr) (cE : Nat) (E : List S45) (gg gm b cm : Nat) (W : World) : Prop where
  below : Below w0.heap.size w0 W
  bg : W.heap[gg]? = some (.cells #[.int .i64 n, .slice A E.length cE] 24 (0, 0))
  bm : W.heap[gm]? = some (.cells #[.int .i64 n, .slice (some ⟨b, 0, none⟩) E.length cm] 24 (0, 0))
  row : Kd.R k45 45 W w0.heap.size (fun _ => True) (.slice (some ⟨b, 0, none⟩) (E.length + 1) cm) (E ++ [z7])
section
variable {w0 : World} {n : Int} {A : Option Addr} {cE : Nat} {E : List S45} {gg gm b cm : Nat} {W : World}
theorem KS.later (h : KS w0 n A cE E gg gm b cm W) {W' : World} (hb : Below W.heap.size W W') : KS w0 n A cE E gg gm b cm W' :=
  ⟨below_step h.below hb, blk_below h.bg hb, blk_below h.bm hb, Kd.R_below h.row hb⟩
theorem KS.len (h : KS w0 n A cE E gg gm b cm W) : E.length + 1 ≤ cm := (Kd.R_reads' h.row).2.1
theorem KS.mine (h : KS w0 n A cE E gg gm b cm W) : Kd.C k45 W (some ⟨b, 0, none⟩) E.length E := by
  have q := (Kd.R_reads' (Kd.R_take (m := E.length) h.row (by simp))).2.2
  rw [List.take_left'] at q
  · exact q
  · rfl
theorem KS.g0 (h : KS w0 n A cE E gg gm b cm W) : W.cell? ⟨gg, 0, none⟩ = some (.int .i64 n) := (blk_cell h.bg 0).trans rfl
theorem KS.g1 (h : KS w0 n A cE E gg gm b cm W) : W.cell? ⟨gg, 1, none⟩ = some (.slice A E.length cE) := (blk_cell h.bg 1).trans rfl
theorem KS.m0 (h : KS w0 n A cE E gg gm b cm W) : W.cell? ⟨gm, 0, none⟩ = some (.int .i64 n) := (blk_cell h.bm 0).trans rfl
theorem KS.m1 (h : KS w0 n A cE E gg gm b cm W) : W.cell? ⟨gm, 1, none⟩ = some (.slice (some ⟨b, 0, none⟩) E.length cm) := (blk_cell h.bm 1).trans rfl
/-- The edge behind the shown ones is still there. -/
theorem KS.seven (h : KS w0 n A cE E gg gm b cm W) : W.cell? ⟨b, E.length * 4 + 2, none⟩ = some (.int .i64 (-7)) := by
  obtain ⟨c, hl, hM, hc, hf⟩ := Kd.R_elem h.row z45 (E.length : Int) (by omega) (by omega)
  obtain rfl := k45_openM hM
  have := hc 2 _ rfl
  rw [Int.toNat_natCast] at this
  rw [show ((E ++ [z7]).getD E.length z45) = z7 by simp [List.getD_eq_getElem?_getD]] at this
  exact this
theorem KS.five (h : KS w0 n A cE E gg gm b cm W) {W' : World} (hb : Below W.heap.size W W') : W'.cell? ⟨gm, 0, none⟩ = some (.int .i64 n) ∧ W'.cell? ⟨gm, 1, none⟩ = some (.slice (some ⟨b, 0, none⟩) E.length cm) ∧ W'.cell? ⟨gg, 0, none⟩ = some (.int .i64 n) ∧ W'.cell? ⟨gg, 1, none⟩ = some (.slice A E.length cE) ∧ W'.cell? ⟨b, E.length * 4 + 2, none⟩ = some (.int .i64 (-7)) := by
  have q := h.later hb
  exact ⟨q.m0, q.m1, q.g0, q.g1, q.seven⟩
theorem KS.put (h : KS w0 n A cE E gg gm b cm W) {g : Nat} {x0 y0 : Value} (g0 : w0.heap.size ≤ g) (ng : gg ≠ g) (nm : gm ≠ g) (hb : W.heap[g]? = some (.cells #[x0, y0] 28 (0, 0))) (x y : Value) : KS w0 n A cE E gg gm b cm ((W.setCell ⟨g, 0, none⟩ x).setCell ⟨g, 1, none⟩ y) :=
  ⟨below_set (below_set h.below g0) g0, blk_far (blk_far h.bg ng _) ng _, blk_far (blk_far h.bm nm _) nm _, Kd.R_set (Kd.R_set h.row hb (by decide) 0 _) (blk_put hb 0 _ rfl) (by decide) 1 _⟩
end
/-- Both walks, their boxes and rows: what is written into the first walk's row leaves the second. -/
structure AS (w0 : World) (n : Int) (A : Option Addr) (cE : Nat) (E : List S45) (gg ga gb : Nat) (st : Int) (va vb : Value) (X L : List S51) (W : World) : Prop where
  below : Below w0.heap.size w0 W
  bg : W.heap[gg]? = some (.cells #[.int .i64 n, .slice A E.length cE] 24 (0, 0))
  ba : W.heap[ga]? = some (.cells #[.int .i64 st, va] 28 (0, 0))
  bb : W.heap[gb]? = some (.cells #[.int .i64 st, vb] 28 (0, 0))
  ra : Kd.R k51 51 W w0.heap.size (fun _ => True) va X
  rb : Kd.R k51 51 W w0.heap.size (fun k => some k ≠ va.ownBlock) vb L
section
variable {w0 : World} {n : Int} {A : Option Addr} {cE : Nat} {E : List S45} {gg ga gb : Nat} {st : Int} {va vb : Value} {X L : List S51} {W : World} {p m cap : Nat}
theorem AS.later (h : AS w0 n A cE E gg ga gb st va vb X L W) {W' : World} (hb : Below W.heap.size W W') : AS w0 n A cE E gg ga gb st va vb X L W' :=
  ⟨below_step h.below hb, blk_below h.bg hb, blk_below h.ba hb, blk_below h.bb hb, Kd.R_below h.ra hb, Kd.R_below h.rb hb⟩
theorem AS.g0 (h : AS w0 n A cE E gg ga gb st va vb X L W) : W.cell? ⟨gg, 0, none⟩ = some (.int .i64 n) := (blk_cell h.bg 0).trans rfl
theorem AS.g1 (h : AS w0 n A cE E gg ga gb st va vb X L W) : W.cell? ⟨gg, 1, none⟩ = some (.slice A E.length cE) := (blk_cell h.bg 1).trans rfl
theorem AS.a1 (h : AS w0 n A cE E gg ga gb st va vb X L W) : W.cell? ⟨ga, 1, none⟩ = some va := (blk_cell h.ba 1).trans rfl
theorem AS.b0 (h : AS w0 n A cE E gg ga gb st va vb X L W) : W.cell? ⟨gb, 0, none⟩ = some (.int .i64 st) := (blk_cell h.bb 0).trans rfl
theorem AS.b1 (h : AS w0 n A cE E gg ga gb st va vb X L W) : W.cell? ⟨gb, 1, none⟩ = some vb := (blk_cell h.bb 1).trans rfl
theorem AS.cells (h : AS w0 n A cE E gg ga gb st (.slice (some ⟨p, 0, none⟩) m cap) vb X L W) (i : Int) (h0 : 0 ≤ i) (h1 : i < m) :
    W.cell? ⟨p, i.toNat * 2, none⟩ = some (.int .i64 (rd_T51 X i).f0) ∧ W.cell? ⟨p, i.toNat * 2 + 1, none⟩ = some (.bool (rd_T51 X i).f1) ∧ W.frozen? ⟨p, i.toNat * 2, none⟩ = false ∧ W.frozen? ⟨p, i.toNat * 2 + 1, none⟩ = false := by
  obtain ⟨c, hl, hM, hc, hf⟩ := Kd.R_elem h.ra z51 i h0 h1
  obtain rfl := k51_openM hM
  exact ⟨hc 0 _ rfl, hc 1 _ rfl, hf 0, hf 1⟩
theorem AS.put (h : AS w0 n A cE E gg ga gb st (.slice (some ⟨p, 0, none⟩) m cap) vb X L W) (i : Int) (h0 : 0 ≤ i) (h1 : i < m) (x : Int) (y : Bool) :
    AS w0 n A cE E gg ga gb st (.slice (some ⟨p, 0, none⟩) m cap) vb (X.set i.toNat ⟨x, y⟩) L ((W.setCell ⟨p, i.toNat * 2, none⟩ (.int .i64 x)).setCell ⟨p, i.toNat * 2 + 1, none⟩ (.bool y)) := by
  obtain ⟨c, hl, hM, hc, hf⟩ := Kd.R_elem h.ra z51 i h0 h1
  obtain ⟨a, g⟩ := Kd.R_seg h.ra i h0 h1 (seg := [.int .i64 x, .bool y]) (j := 0) (okp := fun k => k ≠ p) (x' := (⟨x, y⟩ : S51)) hl hc (by show 0 + 2 ≤ 2; omega) (by obtain rfl := k51_openM hM; exact k51_mkM _ _ _ (⟨x, y⟩ : S51)) (fun k hk => ⟨trivial, hk⟩)
  have pb : (Value.slice (some ⟨p, 0, none⟩) m cap).ownBlock = some p := rfl
  have p0 := Kd.R_base h.ra p pb
  rw [← pb] at g
  exact ⟨below_set (below_set h.below p0) p0, blk_grown h.bg g (Kd.R_ne h.ra h.bg (by decide)), blk_grown h.ba g (Kd.R_ne h.ra h.ba (by decide)), blk_grown h.bb g (Kd.R_ne h.ra h.bb (by decide)), a, Kd.R_grown h.rb g (fun k hk => hk)⟩
end
def compasslaw09_EulerKeeps.T4 : Bool × List (List Nat × List Nat) := (true, [([], []), ([0], [0]), ([], []), ([2], [2]), ([1, 3], [1, 3]), ([], []), ([5], [5]), ([6], [6]), ([4, 7], [4, 7]), ([0, 1, 2, 3, 4, 5, 6, 7, 8], []), ([9, 8, 4, 0, 1, 2, 3, 4, 5, 6, 7, 8], [8, 9])])
def compasslaw09_EulerKeeps.B4 : List Nat := [0, 1, 0, 4, 15, 0, 32, 96, 255, 511, 1023]
theorem compasslaw09_EulerKeeps.tab4 : rtab .any (opsOf Try.f7 4) = compasslaw09_EulerKeeps.T4 := by kernel_rfl
theorem compasslaw09_EulerKeeps.bits4 : waitsOk compasslaw09_EulerKeeps.T4.2 compasslaw09_EulerKeeps.B4 = true := by kernel_rfl
end Go.Proofs.Ytplbkggdnonfbaa.Q
