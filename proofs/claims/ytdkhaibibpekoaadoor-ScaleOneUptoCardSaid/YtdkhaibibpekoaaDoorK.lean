/- Small words for the seat of chapter 02: what lives on over draws and new blocks; floats as a kind of element; the two calls that turn floats to bits and back. -/
import Derived.Test.YtdkhaibibpekoaaDoorProg
import Derived.Test.YtdkhaibibpekoaaDoorWWords
import Derived.Test.YtdkhaibibpekoaaDoorWFoot
import Derived.Laws.Externs
import Derived.Laws.FloatArith
import Derived.KernelRfl
namespace Go.Proofs.YtdkhaibibpekoaaDoorW.PrintWords
open Go.RowKit
namespace Kd
def flt : Kd Nat := scalar (Value.float .f64) (fun _ => rfl)
theorem heap_flt : Heap flt := ⟨fun _ h => h⟩
section
variable {w : World} {A : Option Addr} {n : Nat}
theorem at_flt {xs : List Nat} (h : flt.C w A n xs) (i : Int) (h0 : 0 ≤ i) (h1 : i < n) : ∃ ad, A = some ad ∧ w.cell? (ad.add i.toNat) = some (.float .f64 (rdOf (0 : Nat) xs i)) :=
  ReadsOf.at_ (reads_of_C (enc := Value.float .f64) (d := (0 : Nat)) (h1 := fun _ => rfl) h) i h0 h1
end
end Kd
end Go.Proofs.YtdkhaibibpekoaaDoorW.PrintWords
set_option linter.unusedVariables false
namespace Go.Proofs.YtdkhaibibpekoaaDoor.Q
open Go.RowKit Go.Proofs.YtdkhaibibpekoaaDoorW.PrintWords

class Later (w w' : World) : Prop where out : Below w.heap.size w w'
instance Later.refl (w : World) : Later w w := ⟨Below.refl _ _⟩
instance Later.alloc (w w' : World) (o : Obj) [h : Later w w'] : Later w (w'.alloc o) := ⟨below_alloc h.out o⟩
instance Later.drewN (w w' : World) (n : Nat) [h : Later w w'] : Later w (w'.drewN n) := ⟨pw_below_drewN h.out n⟩
instance Later.drew (w w' : World) [h : Later w w'] : Later w w'.drew := ⟨below_drew h.out⟩
theorem bx {w w' : World} {g : Nat} {o : Obj} (h : w.heap[g]? = some o) [l : Later w w'] : w'.heap[g]? = some o := blk_below h l.out
theorem rx {α : Type} {d : Kd α} {e : Nat} {w w' : World} {base : Nat} {ok : Nat → Prop} {v : Value} {xs : List α} (h : d.R e w base ok v xs) [l : Later w w'] : d.R e w' base ok v xs := Kd.R_below h l.out
theorem ak {p : Prop} (h : p) : Aside0 p := ⟨h⟩

theorem unary_neg_float (k : FloatKind) (b : Nat) : Op.unary .neg (.float k b) = pure (.float k (Op.negFloat k b)) := rfl
theorem fbits_law (b : Nat) (w : World) : (callFunc 15 #[.float .f64 b]).run Tryd.prog w = .ok (.value (.int .u64 (b : Int))) w := by
  rw [run_callFunc_extern Tryd.func15 (by kernel_rfl) (by kernel_rfl) (by kernel_rfl) (e := Extern.MathFloatBits.float64bits) (by kernel_rfl)]; rfl
theorem ffrom_law (n : Int) (w : World) : (callFunc 20 #[.int .u64 n]).run Tryd.prog w = .ok (.value (.float .f64 n.toNat)) w := by
  rw [run_callFunc_extern Tryd.func20 (by kernel_rfl) (by kernel_rfl) (by kernel_rfl) (e := Extern.MathFloatBits.float64frombits) (by kernel_rfl)]; rfl
theorem fmul_law (P : Program) (t : TypeId) (x y : Nat) (w : World) (h : (Go.floatBits .mul .f64 x y).isSome = true) : (binOp .mul t (.float .f64 x) (.float .f64 y)).run P w = .ok (.float .f64 ((Go.floatBits .mul .f64 x y).getD 0)) w := by
  obtain ⟨r, e⟩ := Option.isSome_iff_exists.1 h
  rw [e]
  exact run_float_arith w .mul t .f64 x y r e
theorem fquo_law (P : Program) (t : TypeId) (x y : Nat) (w : World) (h : (Go.floatBits .quo .f64 x y).isSome = true) : (binOp .quo t (.float .f64 x) (.float .f64 y)).run P w = .ok (.float .f64 ((Go.floatBits .quo .f64 x y).getD 0)) w := by
  obtain ⟨r, e⟩ := Option.isSome_iff_exists.1 h
  rw [e]
  exact run_float_arith w .quo t .f64 x y r e
theorem ftoi_law {P : Program} (src dst : TypeId) (hs : (P.underlying src).isSome = true) (hd : P.underlying dst = some (.int .i64)) (b : Nat) (w : World) (h : (Go.floatToIntVal .f64 b .i64).isSome = true) : (convert src dst (.float .f64 b)).run P w = .ok (.int .i64 ((Go.floatToIntVal .f64 b .i64).getD 0)) w := by
  obtain ⟨r, e⟩ := Option.isSome_iff_exists.1 h
  rw [e]
  exact run_convert_float_int (P := P) w src dst .f64 .i64 b r hs hd e
section
open Go.Proofs.YtdkhaibibpekoaaDoorW.PrintLast
/-- A make of nothing, with a capacity. -/
theorem Kd.R_make0 {α : Type} (d : Kd α) {P : Program} {ops : Array Oper} {o : Oper} {a : Act} {Q : Exit → Act → World → Prop} {rest : List Oper} {w0 W : World} (base e : Nat) (hgd : o.guard = none) {N : Tmp} (hd : o.dst = some N) (t : TypeId) (x y : Operand) (ho : o.op = .makeSlice t x y) (n : Int) (hx : a.eval x = .int .i64 0) (hy : a.eval y = .int .i64 n)
    (ht : P.underlying t = some (.slice e)) (z : Value) (bytes : Nat) (hinfo : (P.info? e).map (fun i => (i.zero, i.size, i.bytes)) = some (some z, d.sz, bytes)) (hz : z.cells.size = d.sz) (hs0 : 0 < d.sz) (hb0 : 0 < bytes)
    (z0 : α) {ok okp : Nat → Prop} (hzero : d.M W base okp z0 z.cells.toList) (hok : ∀ k, okp k → ok k) (hfresh : ok W.heap.size) (h0 : 0 ≤ n) (hl : n.toNat * bytes ≤ 281474976710656) (HB : Below base w0 W) (hbase : base ≤ W.heap.size)
    (h : ∀ v1 w1, d.R e w1 base ok v1 ([] : List α) → Below base w0 w1 → W.grownBy w1 none → (∃ b, v1.ownBlock = some b ∧ W.heap.size ≤ b) → wpList P ops Q rest (a.put o.dst v1) w1) : wpList P ops Q (o :: rest) a W := by
  obtain ⟨m, rfl⟩ := Int.eq_ofNat_of_zero_le h0
  simp only [Int.toNat_natCast] at hl
  obtain ⟨i0, hi, hzz⟩ := Option.map_eq_some_iff.1 hinfo
  simp only [Prod.mk.injEq] at hzz
  obtain ⟨hz0, hz1, hz2⟩ := hzz
  have hm : m ≤ 281474976710656 := Nat.le_trans (Nat.le_mul_of_pos_right _ hb0) hl
  have hr := run_make (P := P) W t e i0 z ht hi hz0 .i64 .i64 (0 : Int) (m : Int) (by omega) (by omega)
    (by
      have h3 : ((i0.bytes * m : Nat) : Int) ≤ 281474976710656 := by rw [hz2, Nat.mul_comm]; omega
      rwa [Int.natCast_mul] at h3) (by omega)
  simp only [Int.toNat_natCast] at hr
  rw [hz1] at hr
  have hrep := Kd.reps_made hz hs0 hzero m
  have full : d.R e (W.alloc (.cells (madeCells z.cells (m * d.sz)) e)) base ok (.slice (some ⟨W.heap.size, 0, none⟩) (List.replicate m z0).length (List.replicate m z0).length) (List.replicate m z0) := by
    refine ⟨fun k hk => ?_, (madeCells z.cells (m * d.sz)).toList, ?_, ?_⟩
    · have : W.heap.size = k := by simpa [Value.ownBlock] using hk
      subst this
      exact hfresh
    · have h2 := World.ownsRow_lit (base := base) (e := e) (size := d.sz) W (madeCells z.cells (m * d.sz)) (List.replicate m z0).length hbase (by simp [maxLen]; omega) (by simpa using hrep.1)
      simpa using h2
    · refine hrep.imp_ (fun p c hp => d.M_mono (fun k hk => ⟨hok k hk.1, fun he => ?_⟩) (Kd.M_below (d.M_bound hp) (below_alloc (Below.refl _ _) _)))
      have h3 : k = W.heap.size := by simpa [Value.ownBlock] using he
      have := hk.2.2.1
      omega
  have nil := Kd.R_take full (m := 0) (Nat.zero_le _)
  rw [List.take_zero, List.length_replicate] at nil
  refine Kd.event_run hgd (v := .slice (some ⟨W.heap.size, 0, none⟩) 0 m) (w1 := W.alloc (.cells (madeCells z.cells (m * d.sz)) e)) ?_ (h _ _ nil (HB.alloc hbase _) (World.grownBy_alloc W _ none) ⟨W.heap.size, by simp [Value.ownBlock], Nat.le_refl _⟩)
  simp [execOp, ho, hx, hy, hr]
end
/-- The table that the program's text lays: what TrailingZeros64 looks up. -/
def dbTab : List Int := [0, 1, 56, 2, 57, 49, 28, 3, 61, 58, 42, 50, 38, 29, 17, 4, 62, 47, 59, 36, 45, 43, 51, 22, 53, 39, 33, 30, 24, 18, 12, 5, 63, 55, 48, 27, 60, 41, 37, 16, 46, 35, 44, 21, 52, 32, 23, 11, 54, 26, 40, 15, 34, 20, 31, 10, 25, 14, 19, 9, 13, 8, 7, 6]
def Laid (w : World) : Prop := ∀ j : Nat, j < 64 → w.cell? ⟨3, j, none⟩ = some (.int .u8 (dbTab.getD j 0))
theorem Laid.below {w w' : World} (h : Laid w) (hb : Below w.heap.size w w') : Laid w' := fun j hj => (hb.cell (p := ⟨3, j, none⟩) (World.block_lt_of_cell? w _ (h j hj))).trans (h j hj)
theorem Laid.drew {w : World} (h : Laid w) : Laid w.drew := fun j hj => by have := h j hj; simpa using this
theorem Laid.drewN {w : World} (h : Laid w) (n : Nat) : Laid (w.drewN n) := fun j hj => by have := h j hj; simpa using this
theorem Laid.alloc {w : World} (h : Laid w) (o : Obj) : Laid (w.alloc o) := h.below (below_alloc (Below.refl _ _) o)
/-- The place in the table. -/
def tzAt (x : Int) : Int := IntKind.u64.wrap ((Go.bits .and .u64 x (IntKind.u64.wrap (-x))) * 285870213051353865) / 288230376151711744
end Go.Proofs.YtdkhaibibpekoaaDoor.Q
