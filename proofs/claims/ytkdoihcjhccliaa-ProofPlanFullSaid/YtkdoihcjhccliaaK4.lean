/- Small words: two cells of a block of one's own are written (a graph put together); what else is known lives on. -/
import Derived.Test.YtkdoihcjhccliaaK
set_option linter.unusedVariables false
namespace Go.Proofs.Ytkdoihcjhccliaa.Q
open Go.RowKit Go.Proofs.YtkdoihcjhccliaaW.PrintWords Go.Proofs.YtkdoihcjhccliaaW.PrintLast Go.Proofs.YtkdoihcjhccliaaW.PrintMore
class Put2 (g : Nat) (w W : World) (a b : outParam Value) : Prop where out : Below ((w.setCell ⟨g, 0, none⟩ a).setCell ⟨g, 1, none⟩ b).heap.size ((w.setCell ⟨g, 0, none⟩ a).setCell ⟨g, 1, none⟩ b) W
instance Put2.refl (g : Nat) (w : World) (a b : Value) : Put2 g w ((w.setCell ⟨g, 0, none⟩ a).setCell ⟨g, 1, none⟩ b) a b := ⟨Below.refl _ _⟩
instance Put2.alloc (g : Nat) (w W : World) (a b : Value) (o : Obj) [h : Put2 g w W a b] : Put2 g w (W.alloc o) a b := ⟨below_alloc h.out o⟩
instance Put2.drewN (g : Nat) (w W : World) (a b : Value) (n : Nat) [h : Put2 g w W a b] : Put2 g w (W.drewN n) a b := ⟨pw_below_drewN h.out n⟩
instance Put2.drew (g : Nat) (w W : World) (a b : Value) [h : Put2 g w W a b] : Put2 g w W.drew a b := ⟨below_drew h.out⟩
section
variable {g : Nat} {w W w1 : World} {a b : Value} {t : TypeId} {cs : Array Value} {α : Type} {d : Kd α} {e base : Nat} {ok : Nat → Prop} {v : Value} {xs : List α}
theorem cg4 {p : Addr} {v : Value} (g : Nat) (a b c d : Value) (hx : w.cell? p = some v) (hn : p.block ≠ g) : ((((w.setCell ⟨g, 0, none⟩ a).setCell ⟨g, 1, none⟩ b).setCell ⟨g, 2, none⟩ c).setCell ⟨g, 3, none⟩ d).cell? p = some v := cg ⟨g, 3, none⟩ d (cg ⟨g, 2, none⟩ c (cg ⟨g, 1, none⟩ b (cg ⟨g, 0, none⟩ a hx hn) hn) hn) hn
theorem cR {A : Option Addr} {n c : Nat} (h : Aside0 (d.R e w base ok (.slice A n c) xs)) [l : Later w W] : d.C W A xs.length xs := (Kd.R_reads' (rx h.out)).2.2
theorem fw (h : Aside0 (d.R e w base ok v xs)) (hb : Aside0 (w.heap[g]? = some (.cells cs t (0, 0)))) [f : Put2 g w W a b] (ht : ∀ q, q ∈ e :: d.E → q ≠ t := by decide) : d.R e W base ok v xs :=
  Kd.R_below (Kd.R_mono (Kd.R_far (p := ⟨g, 1, none⟩) (Kd.R_far (p := ⟨g, 0, none⟩) (Kd.R_types h.out hb.out ht) (fun _ hk => hk.2) a) (fun _ hk => hk.2) b) (fun _ h_ => h_.1)) f.out
theorem fr (h : Aside0 (d.R e w base ok v xs)) (hb : Aside0 (w.heap[g]? = some (.cells cs t (0, 0)))) [f : Put2 g w W a b] (hb2 : Below W.heap.size W w1) (ht : ∀ q, q ∈ e :: d.E → q ≠ t := by decide) : d.R e w1 base ok v xs := Kd.R_below (fw h hb ht) hb2
theorem fb {g' : Nat} {cs' : Array Value} {t' : TypeId} (h : Aside0 (w.heap[g']? = some (.cells cs' t' (0, 0)))) (hn : Aside0 (g' ≠ g)) [f : Put2 g w W a b] (hb2 : Below W.heap.size W w1) : w1.heap[g']? = some (.cells cs' t' (0, 0)) :=
  blk_below (blk_below (blk_far (p := ⟨g, 1, none⟩) (blk_far (p := ⟨g, 0, none⟩) h.out hn.out a) hn.out b) f.out) hb2
theorem fp {x0 x1 : Value} (h : Aside0 (w.heap[g]? = some (.cells #[x0, x1] t (0, 0)))) [f : Put2 g w W a b] (hb2 : Below W.heap.size W w1) : w1.heap[g]? = some (.cells #[a, b] t (0, 0)) :=
  blk_below (blk_below (blk_put (cs := #[a, x1]) (blk_put (cs := #[x0, x1]) h.out 0 a rfl) 1 b rfl) f.out) hb2
end
end Go.Proofs.Ytkdoihcjhccliaa.Q
