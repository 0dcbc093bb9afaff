/- Small words that make told proofs shorter: what is known of a block, or of a row, lives on over draws and new blocks. -/
import Derived.Test.YtplbkggdnonfbaaV
namespace Go.Proofs.Ytplbkggdnonfbaa.Q
open Go.RowKit Go.Proofs.YtplbkggdnonfbaaW.PrintWords
/-- The second world is the first with draws and new blocks. -/
class Later (w w' : World) : Prop where out : Below w.heap.size w w'
instance Later.refl (w : World) : Later w w := ⟨Below.refl _ _⟩
instance Later.alloc (w w' : World) (o : Obj) [h : Later w w'] : Later w (w'.alloc o) := ⟨below_alloc h.out o⟩
instance Later.drewN (w w' : World) (n : Nat) [h : Later w w'] : Later w (w'.drewN n) := ⟨pw_below_drewN h.out n⟩
instance Later.drew (w w' : World) [h : Later w w'] : Later w w'.drew := ⟨below_drew h.out⟩
theorem bx {w w' : World} {g : Nat} {o : Obj} (h : w.heap[g]? = some o) [l : Later w w'] : w'.heap[g]? = some o := blk_below h l.out
section
variable {α : Type} {d : Kd α} {e : Nat} {w w' : World} {base : Nat} {ok : Nat → Prop} {v : Value} {xs : List α}
theorem rx (h : d.R e w base ok v xs) [l : Later w w'] : d.R e w' base ok v xs := Kd.R_below h l.out
theorem nx (h : Kd.N d e w base ok v xs) [l : Later w w'] : Kd.N d e w' base ok v xs := Kd.N_below h l.out
theorem sx (h : Kd.S d e w base ok v xs) [l : Later w w'] : Kd.S d e w' base ok v xs := Kd.S_below h l.out
theorem qx (h : Kd.Q d e w base ok v xs) [l : Later w w'] : Kd.Q d e w' base ok v xs := Kd.Q_below h l.out
theorem vx (h : Kd.V d e w base ok v xs) [l : Later w w'] : Kd.V d e w' base ok v xs := Kd.V_below h l.out
end
theorem ak {p : Prop} (h : p) : Aside0 p := ⟨h⟩
theorem oda {p : Prop} [Decidable p] (h : decide p = true := by first | with_reducible assumption | assumption) : p := of_decide_eq_true h
theorem lb {s : Nat} {w w' : World} (h : Below s w w' := by repeat (first | (with_reducible first | exact Aside0.out (by assumption) | apply below_alloc | apply pw_below_drewN | apply below_drew1 | refine below_set ?_ (Aside0.out (by assumption))) | exact Aside0.out (by assumption))) : Below s w w' := h
theorem lk {w w' : World} {S : Nat → Prop} (h : Kept w w' S := by repeat (first | (with_reducible first | exact Aside0.out (by assumption) | apply Kept.alloc | apply Kept.drewN | apply Kept.drew | refine Kept.setCell ?_ (.inr (Aside0.out (by assumption))) _) | exact Aside0.out (by assumption))) : Kept w w' S := h
end Go.Proofs.Ytplbkggdnonfbaa.Q
