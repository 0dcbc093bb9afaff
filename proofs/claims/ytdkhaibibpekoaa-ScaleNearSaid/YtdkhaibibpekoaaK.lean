/- Small words for the seat of chapter 02: what lives on over draws and new blocks; floats as a kind of element; the two calls that turn floats to bits and back. -/
import Derived.Test.YtdkhaibibpekoaaProg
import Derived.Test.YtdkhaibibpekoaaWWords
import Derived.Test.YtdkhaibibpekoaaWFoot
import Derived.Laws.Externs
import Derived.Laws.FloatArith
import Derived.KernelRfl
namespace Go.Proofs.YtdkhaibibpekoaaW.PrintWords
open Go.RowKit
namespace Kd
def flt : Kd Nat := scalar (Value.float .f64) (fun _ => rfl)
theorem heap_flt : Heap flt := ⟨fun _ h => h⟩
section
variable {w : World} {A : Option Addr} {n : Nat}
theorem at_flt {xs : List Nat} (h : flt.C w A n xs) (i : Int) (h0 : 0 ≤ i) (h1 : i < n) : ∃ ad, A = some ad ∧ w.cell? (ad.add i.toNat) = some (.float .f64 (rdOf (0 : Nat) xs i)) :=
  ReadsOf.at_ (reads_of_C (enc := Value.float .f64) (d := (0 : Nat)) (h1 := fun _ => rfl) h) i h0 h1
end
end Kd
end Go.Proofs.YtdkhaibibpekoaaW.PrintWords
namespace Go.Proofs.Ytdkhaibibpekoaa.Q
open Go.RowKit Go.Proofs.YtdkhaibibpekoaaW.PrintWords

class Later (w w' : World) : Prop where out : Below w.heap.size w w'
instance Later.refl (w : World) : Later w w := ⟨Below.refl _ _⟩
instance Later.alloc (w w' : World) (o : Obj) [h : Later w w'] : Later w (w'.alloc o) := ⟨below_alloc h.out o⟩
instance Later.drewN (w w' : World) (n : Nat) [h : Later w w'] : Later w (w'.drewN n) := ⟨pw_below_drewN h.out n⟩
instance Later.drew (w w' : World) [h : Later w w'] : Later w w'.drew := ⟨below_drew h.out⟩
theorem bx {w w' : World} {g : Nat} {o : Obj} (h : w.heap[g]? = some o) [l : Later w w'] : w'.heap[g]? = some o := blk_below h l.out
theorem rx {α : Type} {d : Kd α} {e : Nat} {w w' : World} {base : Nat} {ok : Nat → Prop} {v : Value} {xs : List α} (h : d.R e w base ok v xs) [l : Later w w'] : d.R e w' base ok v xs := Kd.R_below h l.out
theorem ak {p : Prop} (h : p) : Aside0 p := ⟨h⟩

theorem unary_neg_float (k : FloatKind) (b : Nat) : Op.unary .neg (.float k b) = pure (.float k (Op.negFloat k b)) := rfl
theorem fbits_law (b : Nat) (w : World) : (callFunc 15 #[.float .f64 b]).run Try.prog w = .ok (.value (.int .u64 (b : Int))) w := by
  rw [run_callFunc_extern Try.func15 (by kernel_rfl) (by kernel_rfl) (by kernel_rfl) (e := Extern.MathFloatBits.float64bits) (by kernel_rfl)]; rfl
theorem ffrom_law (n : Int) (w : World) : (callFunc 8 #[.int .u64 n]).run Try.prog w = .ok (.value (.float .f64 n.toNat)) w := by
  rw [run_callFunc_extern Try.func8 (by kernel_rfl) (by kernel_rfl) (by kernel_rfl) (e := Extern.MathFloatBits.float64frombits) (by kernel_rfl)]; rfl
theorem fmul_law (P : Program) (t : TypeId) (x y : Nat) (w : World) (h : (Go.floatBits .mul .f64 x y).isSome = true) : (binOp .mul t (.float .f64 x) (.float .f64 y)).run P w = .ok (.float .f64 ((Go.floatBits .mul .f64 x y).getD 0)) w := by
  obtain ⟨r, e⟩ := Option.isSome_iff_exists.1 h
  rw [e]
  exact run_float_arith w .mul t .f64 x y r e
theorem fquo_law (P : Program) (t : TypeId) (x y : Nat) (w : World) (h : (Go.floatBits .quo .f64 x y).isSome = true) : (binOp .quo t (.float .f64 x) (.float .f64 y)).run P w = .ok (.float .f64 ((Go.floatBits .quo .f64 x y).getD 0)) w := by
  obtain ⟨r, e⟩ := Option.isSome_iff_exists.1 h
  rw [e]
  exact run_float_arith w .quo t .f64 x y r e
theorem ftoi_law {P : Program} (src dst : TypeId) (hs : (P.underlying src).isSome = true) (hd : P.underlying dst = some (.int .i64)) (b : Nat) (w : World) (h : (Go.floatToIntVal .f64 b .i64).isSome = true) : (convert src dst (.float .f64 b)).run P w = .ok (.int .i64 ((Go.floatToIntVal .f64 b .i64).getD 0)) w := by
  obtain ⟨r, e⟩ := Option.isSome_iff_exists.1 h
  rw [e]
  exact run_convert_float_int (P := P) w src dst .f64 .i64 b r hs hd e
end Go.Proofs.Ytdkhaibibpekoaa.Q
