/- Small words that make told proofs shorter: what is known of a block, or of a row, lives on over draws and new blocks. -/
import Derived.Test.YtofcjoccnbegdaaWWords
namespace Go.Proofs.Ytofcjoccnbegdaa.Q
open Go.RowKit Go.Proofs.YtofcjoccnbegdaaW.PrintWords

/-- The second world is the first with draws and new blocks. -/
class Later (w w' : World) : Prop where out : Below w.heap.size w w'
instance Later.refl (w : World) : Later w w := ⟨Below.refl _ _⟩
instance Later.alloc (w w' : World) (o : Obj) [h : Later w w'] : Later w (w'.alloc o) := ⟨below_alloc h.out o⟩
instance Later.drewN (w w' : World) (n : Nat) [h : Later w w'] : Later w (w'.drewN n) := ⟨pw_below_drewN h.out n⟩
instance Later.drew (w w' : World) [h : Later w w'] : Later w w'.drew := ⟨below_drew h.out⟩
theorem bx {w w' : World} {g : Nat} {o : Obj} (h : w.heap[g]? = some o) [l : Later w w'] : w'.heap[g]? = some o := blk_below h l.out
theorem rx {α : Type} {d : Kd α} {e : Nat} {w w' : World} {base : Nat} {ok : Nat → Prop} {v : Value} {xs : List α} (h : d.R e w base ok v xs) [l : Later w w'] : d.R e w' base ok v xs := Kd.R_below h l.out
theorem ak {p : Prop} (h : p) : Aside0 p := ⟨h⟩
end Go.Proofs.Ytofcjoccnbegdaa.Q
