/- Small words that make told proofs shorter: what is known of a block, or of a row, lives on over draws and new blocks. -/
import Derived.Test.YtpmclhkednehhaaWWords
import Derived.Test.YtpmclhkednehhaaWLast
import Derived.Test.YtpmclhkednehhaaWTab
import Derived.Test.YtpmclhkednehhaaWFour
import Derived.Test.YtpmclhkednehhaaWQPut
import Derived.Test.YtpmclhkednehhaaWApart
import Derived.Test.YtpmclhkednehhaaWArr
import Derived.Test.YtpmclhkednehhaaWZeros
import Derived.Test.YtpmclhkednehhaaWFoot
import Derived.Test.YtpmclhkednehhaaWKept
import Derived.Test.YtpmclhkednehhaaWShare
import Derived.Test.YtpmclhkednehhaaWN
import Derived.Test.YtpmclhkednehhaaWFootNe
import Derived.Test.YtpmclhkednehhaaWAt
import Derived.Test.YtpmclhkednehhaaWEqStruct
import Derived.Test.YtpmclhkednehhaaWRepsOne
import Derived.Test.YtpmclhkednehhaaWInv
import Derived.Test.YtpmclhkednehhaaWInvWords
import Derived.Test.YtpmclhkednehhaaWGuard
import Derived.Test.YtpmclhkednehhaaWNEv
import Derived.Test.YtpmclhkednehhaaWMore
import Derived.OwnWalk
namespace Go.Proofs.Ytpmclhkednehhaa.Q
open Go.RowKit Go.Proofs.YtpmclhkednehhaaW.PrintWords Go.Proofs.YtpmclhkednehhaaW.PrintLast
/-- The second world is the first with draws and new blocks. -/
class Later (w w' : World) : Prop where out : Below w.heap.size w w'
instance Later.refl (w : World) : Later w w := ⟨Below.refl _ _⟩
instance Later.alloc (w w' : World) (o : Obj) [h : Later w w'] : Later w (w'.alloc o) := ⟨below_alloc h.out o⟩
instance Later.drewN (w w' : World) (n : Nat) [h : Later w w'] : Later w (w'.drewN n) := ⟨pw_below_drewN h.out n⟩
instance Later.drew (w w' : World) [h : Later w w'] : Later w w'.drew := ⟨below_drew h.out⟩
theorem bx {w w' : World} {g : Nat} {o : Obj} (h : w.heap[g]? = some o) [l : Later w w'] : w'.heap[g]? = some o := blk_below h l.out
section
variable {α : Type} {d : Kd α} {e : Nat} {w w' : World} {base : Nat} {ok : Nat → Prop} {v : Value} {xs : List α}
theorem rx (h : d.R e w base ok v xs) [l : Later w w'] : d.R e w' base ok v xs := Kd.R_below h l.out
theorem nx (h : Kd.N d e w base ok v xs) [l : Later w w'] : Kd.N d e w' base ok v xs := Kd.N_below h l.out
theorem sx (h : Kd.S d e w base ok v xs) [l : Later w w'] : Kd.S d e w' base ok v xs := Kd.S_below h l.out
theorem qx (h : Kd.Q d e w base ok v xs) [l : Later w w'] : Kd.Q d e w' base ok v xs := Kd.Q_below h l.out
theorem vx (h : Kd.V d e w base ok v xs) [l : Later w w'] : Kd.V d e w' base ok v xs := Kd.V_below h l.out
end
theorem ak {p : Prop} (h : p) : Aside0 p := ⟨h⟩
theorem oda {p : Prop} [Decidable p] (h : decide p = true := by first | with_reducible assumption | assumption) : p := of_decide_eq_true h
theorem lb {s : Nat} {w w' : World} (h : Below s w w' := by repeat (first | (with_reducible first | exact Aside0.out (by assumption) | apply below_alloc | apply pw_below_drewN | apply below_drew1 | refine below_set ?_ (Aside0.out (by assumption))) | exact Aside0.out (by assumption))) : Below s w w' := h
theorem lk {w w' : World} {S : Nat → Prop} (h : Kept w w' S := by repeat (first | (with_reducible first | exact Aside0.out (by assumption) | apply Kept.alloc | apply Kept.drewN | apply Kept.drew | refine Kept.setCell ?_ (.inr (Aside0.out (by assumption))) _) | exact Aside0.out (by assumption))) : Kept w w' S := h
section
variable {w : World} {g : Nat} {t : TypeId} {r : List Value}
theorem bc0 {x : Value} (h : Aside0 (w.heap[g]? = some (.cells (List.toArray (x :: r)) t (0, 0)))) : w.cell? ⟨g, 0, none⟩ = some x := (blk_cell h.out 0).trans rfl
theorem bc1 {x y0 : Value} (h : Aside0 (w.heap[g]? = some (.cells (List.toArray (y0 :: x :: r)) t (0, 0)))) : w.cell? ⟨g, 1, none⟩ = some x := (blk_cell h.out 1).trans rfl
theorem bc2 {x y0 y1 : Value} (h : Aside0 (w.heap[g]? = some (.cells (List.toArray (y0 :: y1 :: x :: r)) t (0, 0)))) : w.cell? ⟨g, 2, none⟩ = some x := (blk_cell h.out 2).trans rfl
theorem bc3 {x y0 y1 y2 : Value} (h : Aside0 (w.heap[g]? = some (.cells (List.toArray (y0 :: y1 :: y2 :: x :: r)) t (0, 0)))) : w.cell? ⟨g, 3, none⟩ = some x := (blk_cell h.out 3).trans rfl
theorem bc4 {x y0 y1 y2 y3 : Value} (h : Aside0 (w.heap[g]? = some (.cells (List.toArray (y0 :: y1 :: y2 :: y3 :: x :: r)) t (0, 0)))) : w.cell? ⟨g, 4, none⟩ = some x := (blk_cell h.out 4).trans rfl
theorem bc5 {x y0 y1 y2 y3 y4 : Value} (h : Aside0 (w.heap[g]? = some (.cells (List.toArray (y0 :: y1 :: y2 :: y3 :: y4 :: x :: r)) t (0, 0)))) : w.cell? ⟨g, 5, none⟩ = some x := (blk_cell h.out 5).trans rfl
theorem bf {cs : Array Value} (h : Aside0 (w.heap[g]? = some (.cells cs t (0, 0)))) (i : Nat) : w.frozen? ⟨g, i, none⟩ = false := blk_frozen h.out i
end
theorem hbc {w W : World} (h : Aside0 (Below w.heap.size w W)) {p : Addr} {v : Value} (e : w.cell? p = some v) : W.cell? p = some v := (h.out.cell (World.block_lt_of_cell? w _ e)).trans e
theorem gw (w : World) {W : World} {g : Nat} (hg : g = W.heap.size) (h : Below w.heap.size w W := by exact lb) : w.heap.size ≤ g := by rw [hg]; exact below_size h
theorem nl {w W : World} {g g' : Nat} {o : Obj} (hg : g' = W.heap.size) (h : Aside0 (w.heap[g]? = some o)) [l : Later w W] : g ≠ g' := by rw [hg]; exact Nat.ne_of_lt (blk_lt (bx h.out))
theorem nr {w W : World} {g g' : Nat} {o : Obj} (hg : g' = W.heap.size) (h : Aside0 (w.heap[g]? = some o)) [l : Later w W] : g' ≠ g := (nl hg h).symm
theorem bs {α β : Type} {y e : α} {f : α → Option β} {r : Option β} (hy : y = e) (H : (some e).bind f = r) : f y = r := by rw [hy]; exact H
theorem ifn {α : Type} {p : Prop} [Decidable p] {a : Option α} {r : α} (h : (if p then a else none) = some r) : p ∧ a = some r := by
  by_cases c : p
  · rw [if_pos c] at h; exact ⟨c, h⟩
  · rw [if_neg c] at h; exact absurd h (by simp)
theorem ifd {α : Type} {p : Prop} [Decidable p] {a : Option α} {r : α} (h : (if p then a else none) = some r) : decide p = true ∧ a = some r := ⟨decide_eq_true (ifn h).1, (ifn h).2⟩
theorem ife {α : Type} {p : Prop} [Decidable p] {a : Option α} {r : α} (h : (if p then a else none) = some r) : p = True ∧ decide p = true ∧ a = some r := ⟨eq_true (ifn h).1, ifd h⟩
abbrev T : Bool := true
abbrev F : Bool := false
theorem sA {α : Type} (l : List α) (i : Nat) (a : α) : l.toArray.setIfInBounds i a = (l.set i a).toArray := List.setIfInBounds_toArray l i a
theorem sZ {α : Type} {a b : α} {l : List α} : (a :: l).set 0 b = b :: l := List.set_cons_zero
theorem sS {α : Type} {a b : α} {l : List α} {n : Nat} : (a :: l).set (n + 1) b = a :: l.set n b := List.set_cons_succ
theorem goesZ {P : Program} {ops : Array Oper} {Q : Exit → Act → World → Prop} {rest : List Oper} {oi : Oper} {a : Act} {w : World} (N : Option Tmp) (hd : oi.dst = N) (hg : oi.guard = none) {f : FuncId} {fn : Func} {as : Array Operand} {ts : Array TypeId} (hf : P.funcs[f]? = some fn) (hname : (fn.name == "runtime.NumGoroutine") = false) (hb : fn.body.isSome = true) (args : Array Value)
    (hop : oi.op = .call { callee := .value (.func f), args := as, argTypes := ts })
    (h : Calls P f args w fun e w' => ∃ v, e = .returned v ∧ wpList P ops Q rest (a.put N v) w') (hargs : as.map a.eval = args := by (try simp only [List.map_toArray, List.map_cons, List.map_nil]); first | done | rfl | (simp only [List.length_drop, List.length_take]; rfl)) : wpList P ops Q (oi :: rest) a w :=
  goesL_ N hd hg hf hname hb args hop hargs h
section
variable {p0 p1 p2 p3 p4 p5 p6 p7 p8 p9 p10 p11 p12 p13 p14 p15 : Prop}
theorem a2 (h0 : p0) (h1 : p1) : Aside0 p0 ∧ Aside0 p1 := ⟨ak h0, ak h1⟩
theorem a3 (h0 : p0) (h1 : p1) (h2 : p2) : Aside0 p0 ∧ Aside0 p1 ∧ Aside0 p2 := ⟨ak h0, a2 h1 h2⟩
theorem a4 (h0 : p0) (h1 : p1) (h2 : p2) (h3 : p3) : Aside0 p0 ∧ Aside0 p1 ∧ Aside0 p2 ∧ Aside0 p3 := ⟨ak h0, a3 h1 h2 h3⟩
theorem a5 (h0 : p0) (h1 : p1) (h2 : p2) (h3 : p3) (h4 : p4) : Aside0 p0 ∧ Aside0 p1 ∧ Aside0 p2 ∧ Aside0 p3 ∧ Aside0 p4 := ⟨ak h0, a4 h1 h2 h3 h4⟩
theorem a6 (h0 : p0) (h1 : p1) (h2 : p2) (h3 : p3) (h4 : p4) (h5 : p5) : Aside0 p0 ∧ Aside0 p1 ∧ Aside0 p2 ∧ Aside0 p3 ∧ Aside0 p4 ∧ Aside0 p5 := ⟨ak h0, a5 h1 h2 h3 h4 h5⟩
theorem a7 (h0 : p0) (h1 : p1) (h2 : p2) (h3 : p3) (h4 : p4) (h5 : p5) (h6 : p6) : Aside0 p0 ∧ Aside0 p1 ∧ Aside0 p2 ∧ Aside0 p3 ∧ Aside0 p4 ∧ Aside0 p5 ∧ Aside0 p6 := ⟨ak h0, a6 h1 h2 h3 h4 h5 h6⟩
theorem a8 (h0 : p0) (h1 : p1) (h2 : p2) (h3 : p3) (h4 : p4) (h5 : p5) (h6 : p6) (h7 : p7) : Aside0 p0 ∧ Aside0 p1 ∧ Aside0 p2 ∧ Aside0 p3 ∧ Aside0 p4 ∧ Aside0 p5 ∧ Aside0 p6 ∧ Aside0 p7 := ⟨ak h0, a7 h1 h2 h3 h4 h5 h6 h7⟩
theorem a9 (h0 : p0) (h1 : p1) (h2 : p2) (h3 : p3) (h4 : p4) (h5 : p5) (h6 : p6) (h7 : p7) (h8 : p8) : Aside0 p0 ∧ Aside0 p1 ∧ Aside0 p2 ∧ Aside0 p3 ∧ Aside0 p4 ∧ Aside0 p5 ∧ Aside0 p6 ∧ Aside0 p7 ∧ Aside0 p8 := ⟨ak h0, a8 h1 h2 h3 h4 h5 h6 h7 h8⟩
theorem a10 (h0 : p0) (h1 : p1) (h2 : p2) (h3 : p3) (h4 : p4) (h5 : p5) (h6 : p6) (h7 : p7) (h8 : p8) (h9 : p9) : Aside0 p0 ∧ Aside0 p1 ∧ Aside0 p2 ∧ Aside0 p3 ∧ Aside0 p4 ∧ Aside0 p5 ∧ Aside0 p6 ∧ Aside0 p7 ∧ Aside0 p8 ∧ Aside0 p9 := ⟨ak h0, a9 h1 h2 h3 h4 h5 h6 h7 h8 h9⟩
theorem a11 (h0 : p0) (h1 : p1) (h2 : p2) (h3 : p3) (h4 : p4) (h5 : p5) (h6 : p6) (h7 : p7) (h8 : p8) (h9 : p9) (h10 : p10) : Aside0 p0 ∧ Aside0 p1 ∧ Aside0 p2 ∧ Aside0 p3 ∧ Aside0 p4 ∧ Aside0 p5 ∧ Aside0 p6 ∧ Aside0 p7 ∧ Aside0 p8 ∧ Aside0 p9 ∧ Aside0 p10 := ⟨ak h0, a10 h1 h2 h3 h4 h5 h6 h7 h8 h9 h10⟩
theorem a12 (h0 : p0) (h1 : p1) (h2 : p2) (h3 : p3) (h4 : p4) (h5 : p5) (h6 : p6) (h7 : p7) (h8 : p8) (h9 : p9) (h10 : p10) (h11 : p11) : Aside0 p0 ∧ Aside0 p1 ∧ Aside0 p2 ∧ Aside0 p3 ∧ Aside0 p4 ∧ Aside0 p5 ∧ Aside0 p6 ∧ Aside0 p7 ∧ Aside0 p8 ∧ Aside0 p9 ∧ Aside0 p10 ∧ Aside0 p11 := ⟨ak h0, a11 h1 h2 h3 h4 h5 h6 h7 h8 h9 h10 h11⟩
theorem a13 (h0 : p0) (h1 : p1) (h2 : p2) (h3 : p3) (h4 : p4) (h5 : p5) (h6 : p6) (h7 : p7) (h8 : p8) (h9 : p9) (h10 : p10) (h11 : p11) (h12 : p12) : Aside0 p0 ∧ Aside0 p1 ∧ Aside0 p2 ∧ Aside0 p3 ∧ Aside0 p4 ∧ Aside0 p5 ∧ Aside0 p6 ∧ Aside0 p7 ∧ Aside0 p8 ∧ Aside0 p9 ∧ Aside0 p10 ∧ Aside0 p11 ∧ Aside0 p12 := ⟨ak h0, a12 h1 h2 h3 h4 h5 h6 h7 h8 h9 h10 h11 h12⟩
theorem a14 (h0 : p0) (h1 : p1) (h2 : p2) (h3 : p3) (h4 : p4) (h5 : p5) (h6 : p6) (h7 : p7) (h8 : p8) (h9 : p9) (h10 : p10) (h11 : p11) (h12 : p12) (h13 : p13) : Aside0 p0 ∧ Aside0 p1 ∧ Aside0 p2 ∧ Aside0 p3 ∧ Aside0 p4 ∧ Aside0 p5 ∧ Aside0 p6 ∧ Aside0 p7 ∧ Aside0 p8 ∧ Aside0 p9 ∧ Aside0 p10 ∧ Aside0 p11 ∧ Aside0 p12 ∧ Aside0 p13 := ⟨ak h0, a13 h1 h2 h3 h4 h5 h6 h7 h8 h9 h10 h11 h12 h13⟩
theorem a15 (h0 : p0) (h1 : p1) (h2 : p2) (h3 : p3) (h4 : p4) (h5 : p5) (h6 : p6) (h7 : p7) (h8 : p8) (h9 : p9) (h10 : p10) (h11 : p11) (h12 : p12) (h13 : p13) (h14 : p14) : Aside0 p0 ∧ Aside0 p1 ∧ Aside0 p2 ∧ Aside0 p3 ∧ Aside0 p4 ∧ Aside0 p5 ∧ Aside0 p6 ∧ Aside0 p7 ∧ Aside0 p8 ∧ Aside0 p9 ∧ Aside0 p10 ∧ Aside0 p11 ∧ Aside0 p12 ∧ Aside0 p13 ∧ Aside0 p14 := ⟨ak h0, a14 h1 h2 h3 h4 h5 h6 h7 h8 h9 h10 h11 h12 h13 h14⟩
theorem a16 (h0 : p0) (h1 : p1) (h2 : p2) (h3 : p3) (h4 : p4) (h5 : p5) (h6 : p6) (h7 : p7) (h8 : p8) (h9 : p9) (h10 : p10) (h11 : p11) (h12 : p12) (h13 : p13) (h14 : p14) (h15 : p15) : Aside0 p0 ∧ Aside0 p1 ∧ Aside0 p2 ∧ Aside0 p3 ∧ Aside0 p4 ∧ Aside0 p5 ∧ Aside0 p6 ∧ Aside0 p7 ∧ Aside0 p8 ∧ Aside0 p9 ∧ Aside0 p10 ∧ Aside0 p11 ∧ Aside0 p12 ∧ Aside0 p13 ∧ Aside0 p14 ∧ Aside0 p15 := ⟨ak h0, a15 h1 h2 h3 h4 h5 h6 h7 h8 h9 h10 h11 h12 h13 h14 h15⟩
end
end Go.Proofs.Ytpmclhkednehhaa.Q
