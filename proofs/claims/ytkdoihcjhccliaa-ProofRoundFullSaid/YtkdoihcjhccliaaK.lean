import Derived.Test.YtkdoihcjhccliaaV
/- Words for told walks. -/
namespace Go.Proofs.Ytkdoihcjhccliaa.Q
open Go.RowKit Go.Proofs.YtkdoihcjhccliaaW.PrintWords Go.Proofs.YtkdoihcjhccliaaW.PrintLast
class Later (w w' : World) : Prop where out : Below w.heap.size w w'
instance Later.refl (w : World) : Later w w := ⟨Below.refl _ _⟩
instance Later.alloc (w w' : World) (o : Obj) [h : Later w w'] : Later w (w'.alloc o) := ⟨fE h.out o⟩
instance Later.drewN (w w' : World) (n : Nat) [h : Later w w'] : Later w (w'.drewN n) := ⟨gq h.out n⟩
instance Later.drew (w w' : World) [h : Later w w'] : Later w w'.drew := ⟨rQ h.out⟩
theorem bx {w w' : World} {g : Nat} {o : Obj} (h : w.heap[g]? = some o) [l : Later w w'] : w'.heap[g]? = some o := bI h l.out
section
variable {α : Type} {d : Kd α} {e : Nat} {w w' : World} {base : Nat} {ok : Nat → Prop} {v : Value} {xs : List α}
theorem rx (h : d.R e w base ok v xs) [l : Later w w'] : d.R e w' base ok v xs := Kd.sD h l.out
theorem sx (h : Kd.S d e w base ok v xs) [l : Later w w'] : Kd.S d e w' base ok v xs := Kd.Vp h l.out
theorem vx (h : Kd.V d e w base ok v xs) [l : Later w w'] : Kd.V d e w' base ok v xs := Kd.rA h l.out
end
theorem ak {p : Prop} (h : p) : ag p := ⟨h⟩
theorem oda {p : Prop} [Decidable p] (h : decide p = true := by first | with_reducible assumption | assumption) : p := of_decide_eq_true h
theorem lb {s : Nat} {w w' : World} (h : Below s w w' := by repeat (first | (with_reducible first | exact ag.out (by assumption) | apply fE | apply gq | apply bJ | refine bR ?_ (ag.out (by assumption))) | exact ag.out (by assumption))) : Below s w w' := h
theorem lk {w w' : World} {S : Nat → Prop} (h : Kept w w' S := by repeat (first | (with_reducible first | exact ag.out (by assumption) | apply Kept.alloc | apply Kept.drewN | apply Kept.drew | refine Kept.setCell ?_ (.inr (ag.out (by assumption))) _) | exact ag.out (by assumption))) : Kept w w' S := h
section
variable {w : World} {g : Nat} {t : TypeId} {r : List Value}
theorem bc0 {x : Value} (h : ag (w.heap[g]? = some (.cells (List.toArray (x :: r)) t (0, 0)))) : w.cell? ⟨g, 0, none⟩ = some x := (aH h.out 0).trans rfl
theorem bc1 {x y0 : Value} (h : ag (w.heap[g]? = some (.cells (List.toArray (y0 :: x :: r)) t (0, 0)))) : w.cell? ⟨g, 1, none⟩ = some x := (aH h.out 1).trans rfl
theorem bc2 {x y0 y1 : Value} (h : ag (w.heap[g]? = some (.cells (List.toArray (y0 :: y1 :: x :: r)) t (0, 0)))) : w.cell? ⟨g, 2, none⟩ = some x := (aH h.out 2).trans rfl
theorem bc3 {x y0 y1 y2 : Value} (h : ag (w.heap[g]? = some (.cells (List.toArray (y0 :: y1 :: y2 :: x :: r)) t (0, 0)))) : w.cell? ⟨g, 3, none⟩ = some x := (aH h.out 3).trans rfl
theorem bf {cs : Array Value} (h : ag (w.heap[g]? = some (.cells cs t (0, 0)))) (i : Nat) : w.frozen? ⟨g, i, none⟩ = false := bG h.out i
end
theorem hbc {w W : World} (h : ag (Below w.heap.size w W)) {p : Addr} {v : Value} (e : w.cell? p = some v) : W.cell? p = some v := (h.out.cell (World.block_lt_of_cell? w _ e)).trans e
theorem gw (w : World) {W : World} {g : Nat} (hg : g = W.heap.size) (h : Below w.heap.size w W := by exact lb) : w.heap.size ≤ g := by rw [hg]; exact ax h
theorem nl {w W : World} {g g' : Nat} {o : Obj} (hg : g' = W.heap.size) (h : ag (w.heap[g]? = some o)) [l : Later w W] : g ≠ g' := by rw [hg]; exact Nat.ne_of_lt (eB (bx h.out))
theorem nr {w W : World} {g g' : Nat} {o : Obj} (hg : g' = W.heap.size) (h : ag (w.heap[g]? = some o)) [l : Later w W] : g' ≠ g := (nl hg h).symm
theorem bs {α β : Type} {y e : α} {f : α → Option β} {r : Option β} (hy : y = e) (H : (some e).bind f = r) : f y = r := by rw [hy]; exact H
theorem ifn {α : Type} {p : Prop} [Decidable p] {a : Option α} {r : α} (h : (if p then a else none) = some r) : p ∧ a = some r := by
  by_cases c : p
  · rw [if_pos c] at h; exact ⟨c, h⟩
  · rw [if_neg c] at h; exact absurd h (by simp)
theorem ifd {α : Type} {p : Prop} [Decidable p] {a : Option α} {r : α} (h : (if p then a else none) = some r) : decide p = true ∧ a = some r := ⟨decide_eq_true (ifn h).1, (ifn h).2⟩
theorem ife {α : Type} {p : Prop} [Decidable p] {a : Option α} {r : α} (h : (if p then a else none) = some r) : p = True ∧ decide p = true ∧ a = some r := ⟨eq_true (ifn h).1, ifd h⟩
abbrev T : Bool := true
abbrev F : Bool := false
theorem sA {α : Type} (l : List α) (i : Nat) (a : α) : l.toArray.setIfInBounds i a = (l.set i a).toArray := List.setIfInBounds_toArray l i a
theorem sZ {α : Type} {a b : α} {l : List α} : (a :: l).set 0 b = b :: l := List.set_cons_zero
theorem sS {α : Type} {a b : α} {l : List α} {n : Nat} : (a :: l).set (n + 1) b = a :: l.set n b := List.set_cons_succ
section
variable {p0 p1 p2 p3 p4 p5 p6 p7 p8 p9 p10 p11 p12 p13 p14 p15 : Prop}
theorem a2 (h0 : p0) (h1 : p1) : ag p0 ∧ ag p1 := ⟨ak h0, ak h1⟩
theorem a3 (h0 : p0) (h1 : p1) (h2 : p2) : ag p0 ∧ ag p1 ∧ ag p2 := ⟨ak h0, a2 h1 h2⟩
theorem a4 (h0 : p0) (h1 : p1) (h2 : p2) (h3 : p3) : ag p0 ∧ ag p1 ∧ ag p2 ∧ ag p3 := ⟨ak h0, a3 h1 h2 h3⟩
theorem a5 (h0 : p0) (h1 : p1) (h2 : p2) (h3 : p3) (h4 : p4) : ag p0 ∧ ag p1 ∧ ag p2 ∧ ag p3 ∧ ag p4 := ⟨ak h0, a4 h1 h2 h3 h4⟩
theorem a6 (h0 : p0) (h1 : p1) (h2 : p2) (h3 : p3) (h4 : p4) (h5 : p5) : ag p0 ∧ ag p1 ∧ ag p2 ∧ ag p3 ∧ ag p4 ∧ ag p5 := ⟨ak h0, a5 h1 h2 h3 h4 h5⟩
theorem a7 (h0 : p0) (h1 : p1) (h2 : p2) (h3 : p3) (h4 : p4) (h5 : p5) (h6 : p6) : ag p0 ∧ ag p1 ∧ ag p2 ∧ ag p3 ∧ ag p4 ∧ ag p5 ∧ ag p6 := ⟨ak h0, a6 h1 h2 h3 h4 h5 h6⟩
theorem a8 (h0 : p0) (h1 : p1) (h2 : p2) (h3 : p3) (h4 : p4) (h5 : p5) (h6 : p6) (h7 : p7) : ag p0 ∧ ag p1 ∧ ag p2 ∧ ag p3 ∧ ag p4 ∧ ag p5 ∧ ag p6 ∧ ag p7 := ⟨ak h0, a7 h1 h2 h3 h4 h5 h6 h7⟩
theorem a9 (h0 : p0) (h1 : p1) (h2 : p2) (h3 : p3) (h4 : p4) (h5 : p5) (h6 : p6) (h7 : p7) (h8 : p8) : ag p0 ∧ ag p1 ∧ ag p2 ∧ ag p3 ∧ ag p4 ∧ ag p5 ∧ ag p6 ∧ ag p7 ∧ ag p8 := ⟨ak h0, a8 h1 h2 h3 h4 h5 h6 h7 h8⟩
theorem a10 (h0 : p0) (h1 : p1) (h2 : p2) (h3 : p3) (h4 : p4) (h5 : p5) (h6 : p6) (h7 : p7) (h8 : p8) (h9 : p9) : ag p0 ∧ ag p1 ∧ ag p2 ∧ ag p3 ∧ ag p4 ∧ ag p5 ∧ ag p6 ∧ ag p7 ∧ ag p8 ∧ ag p9 := ⟨ak h0, a9 h1 h2 h3 h4 h5 h6 h7 h8 h9⟩
theorem a11 (h0 : p0) (h1 : p1) (h2 : p2) (h3 : p3) (h4 : p4) (h5 : p5) (h6 : p6) (h7 : p7) (h8 : p8) (h9 : p9) (h10 : p10) : ag p0 ∧ ag p1 ∧ ag p2 ∧ ag p3 ∧ ag p4 ∧ ag p5 ∧ ag p6 ∧ ag p7 ∧ ag p8 ∧ ag p9 ∧ ag p10 := ⟨ak h0, a10 h1 h2 h3 h4 h5 h6 h7 h8 h9 h10⟩
theorem a12 (h0 : p0) (h1 : p1) (h2 : p2) (h3 : p3) (h4 : p4) (h5 : p5) (h6 : p6) (h7 : p7) (h8 : p8) (h9 : p9) (h10 : p10) (h11 : p11) : ag p0 ∧ ag p1 ∧ ag p2 ∧ ag p3 ∧ ag p4 ∧ ag p5 ∧ ag p6 ∧ ag p7 ∧ ag p8 ∧ ag p9 ∧ ag p10 ∧ ag p11 := ⟨ak h0, a11 h1 h2 h3 h4 h5 h6 h7 h8 h9 h10 h11⟩
theorem a13 (h0 : p0) (h1 : p1) (h2 : p2) (h3 : p3) (h4 : p4) (h5 : p5) (h6 : p6) (h7 : p7) (h8 : p8) (h9 : p9) (h10 : p10) (h11 : p11) (h12 : p12) : ag p0 ∧ ag p1 ∧ ag p2 ∧ ag p3 ∧ ag p4 ∧ ag p5 ∧ ag p6 ∧ ag p7 ∧ ag p8 ∧ ag p9 ∧ ag p10 ∧ ag p11 ∧ ag p12 := ⟨ak h0, a12 h1 h2 h3 h4 h5 h6 h7 h8 h9 h10 h11 h12⟩
theorem a14 (h0 : p0) (h1 : p1) (h2 : p2) (h3 : p3) (h4 : p4) (h5 : p5) (h6 : p6) (h7 : p7) (h8 : p8) (h9 : p9) (h10 : p10) (h11 : p11) (h12 : p12) (h13 : p13) : ag p0 ∧ ag p1 ∧ ag p2 ∧ ag p3 ∧ ag p4 ∧ ag p5 ∧ ag p6 ∧ ag p7 ∧ ag p8 ∧ ag p9 ∧ ag p10 ∧ ag p11 ∧ ag p12 ∧ ag p13 := ⟨ak h0, a13 h1 h2 h3 h4 h5 h6 h7 h8 h9 h10 h11 h12 h13⟩
theorem a15 (h0 : p0) (h1 : p1) (h2 : p2) (h3 : p3) (h4 : p4) (h5 : p5) (h6 : p6) (h7 : p7) (h8 : p8) (h9 : p9) (h10 : p10) (h11 : p11) (h12 : p12) (h13 : p13) (h14 : p14) : ag p0 ∧ ag p1 ∧ ag p2 ∧ ag p3 ∧ ag p4 ∧ ag p5 ∧ ag p6 ∧ ag p7 ∧ ag p8 ∧ ag p9 ∧ ag p10 ∧ ag p11 ∧ ag p12 ∧ ag p13 ∧ ag p14 := ⟨ak h0, a14 h1 h2 h3 h4 h5 h6 h7 h8 h9 h10 h11 h12 h13 h14⟩
theorem a16 (h0 : p0) (h1 : p1) (h2 : p2) (h3 : p3) (h4 : p4) (h5 : p5) (h6 : p6) (h7 : p7) (h8 : p8) (h9 : p9) (h10 : p10) (h11 : p11) (h12 : p12) (h13 : p13) (h14 : p14) (h15 : p15) : ag p0 ∧ ag p1 ∧ ag p2 ∧ ag p3 ∧ ag p4 ∧ ag p5 ∧ ag p6 ∧ ag p7 ∧ ag p8 ∧ ag p9 ∧ ag p10 ∧ ag p11 ∧ ag p12 ∧ ag p13 ∧ ag p14 ∧ ag p15 := ⟨ak h0, a15 h1 h2 h3 h4 h5 h6 h7 h8 h9 h10 h11 h12 h13 h14 h15⟩
end
end Go.Proofs.Ytkdoihcjhccliaa.Q
set_option linter.unusedVariables false
namespace Go.Proofs.Ytkdoihcjhccliaa.Q
open Go.RowKit Go.Proofs.YtkdoihcjhccliaaW.PrintWords Go.Proofs.YtkdoihcjhccliaaW.PrintLast Go.Proofs.YtkdoihcjhccliaaW.PrintMore
section
variable {P : Program} {ops : Array Oper} {Q : Exit → Act → World → Prop} {md : Region.Mode} {S : World → Prop} {ds : List Nat} {R : Bool × List (List Nat × List Nat)} {B : List Nat} {oi : Oper} {v : Value} {fuel : Nat} {l l' : Array Bool} {a a' : Act} {w : World} {rest : List Oper}
theorem pv (X : ag (oO md ops = R)) (i n : Nat) (h : dn P md ops Q S ds fuel l' a' w) (hi : ops[i]? = some oi := by rfl) (hN : oi.dst = some n := by rfl) (hl : l.setIfInBounds i true = l' := by simp only [sA, sZ, sS]; rfl)
    (hc : anyT R l.toList l'.toList i = true := by kernel_rfl) (hy : Yields P ops oi v a := by (refine Or.inl ⟨by rfl, ?_⟩; intro w'; go_simp; with_reducible rfl))
    (ha : a.put (some n) v = a' := by simp only [Act.put, sA, sZ, sS, jA, jG]; rfl) (hQ : ∀ c a w, Q (.panic c) (a.put oi.dst v) w → Q (.panic c) a w := by exact fun _ _ _ h => h) :
    dn P md ops Q S ds (fuel + 1) l a w := aaE l' hi hN (UC X.out hc) hQ hy ha h
theorem pu (X : ag (oO md ops = R)) (i n : Nat) (h : dn P md ops Q S ds fuel l' a' w) (hi : ops[i]? = some oi := by rfl) (hN : oi.dst = some n := by rfl) (hl : l.setIfInBounds i true = l' := by simp only [sA, sZ, sS]; rfl)
    (hc : anyT R l.toList l'.toList i = true := by kernel_rfl) (hy : Yields P ops oi undef a := by exact Or.inr ⟨by rfl, rfl⟩)
    (ha : a.put (some n) undef = a' := by simp only [Act.put, sA, sZ, sS, jA, jG]; rfl) (hQ : ∀ c a w, Q (.panic c) (a.put oi.dst undef) w → Q (.panic c) a w := by exact fun _ _ _ h => h) :
    dn P md ops Q S ds (fuel + 1) l a w := aaE l' hi hN (UC X.out hc) hQ hy ha h
theorem tv (X : ag (oO md ops = R)) (Y : ag (gM R.2 B = true)) (hS : S w) (i n : Nat) (h : dn P md ops Q S ds fuel l' a' w) (hi : ops[i]? = some oi := by rfl) (hN : oi.dst = some n := by rfl) (hl : l.setIfInBounds i true = l' := by simp only [sA, sZ, sS]; rfl)
    (hc : Vv R B ds l.toList l'.toList i = true := by kernel_rfl) (hy : YieldsIf P ops S oi v a := by (refine Or.inl ⟨by rfl, ?_⟩; intro w' hS; (repeat (have s_ := And.left hS; replace hS := And.right hS)); (try change _ = _ at hS); go_simp; with_reducible rfl))
    (ha : a.put (some n) v = a' := by simp only [Act.put, sA, sZ, sS, jA, jG]; rfl) (hQ : ∀ c a w, Q (.panic c) (a.put oi.dst v) w → Q (.panic c) a w := by exact fun _ _ _ h => h) :
    dn P md ops Q S ds (fuel + 1) l a w := Vm l' hi hN (SK X.out Y.out hc) hQ hy hS ha h
def Cs : List (Addr × Value) → World → Prop
  | [], _ => True
  | [(p, v)], w => w.cell? p = some v
  | (p, v) :: x :: r, w => w.cell? p = some v ∧ Cs (x :: r) w
theorem cN : Cs [] w := trivial
theorem cY {p : Addr} (h : w.cell? p = some v) : Cs [(p, v)] w.drew := h
theorem cX {p : Addr} {x : Addr × Value} {r : List (Addr × Value)} (h : w.cell? p = some v) (k : Cs (x :: r) w.drew) : Cs ((p, v) :: x :: r) w.drew := ⟨h, k⟩
theorem stC {id : Nat} {ps : List (Addr × Value)} (n : Nat) (ds : List Nat) (hS : Cs ps w.drew) (hT : oO .any ops = R) (hB : gM R.2 B = true)
    (h : Cs ps w.drew → ag (oO .any ops = R) → ag (gM R.2 B = true) → dn P .any ops Q (Cs ps) ds n l a w.drew) (hm : P.follows .mixedOrders = true := by kernel_rfl) (hn : ops.size = n := by rfl)
    (hl : Array.replicate n false = l := by simp only [Array.replicate_succ, Array.replicate_zero, List.push_toArray, List.nil_append, List.cons_append]; rfl) : (Code.region id ops true).wp P Q a w := aaD l hm hn hl hS fun k => Mc hT hB (h k)
theorem gl (N : Tmp) {f : FuncId} {fn : Func} {as : Array Operand} {ts : Array TypeId} (hf : P.funcs[f]? = some fn) (args : Array Value) (h : Calls P f args w fun e w' => ∃ v, e = .returned v ∧ wpList P ops Q rest (a.put (some N) v) w')
    (hd : oi.dst = some N := by rfl) (hg : oi.guard = none := by rfl) (hname : (fn.name == "runtime.NumGoroutine") = false := by kernel_rfl) (hb : fn.body.isSome = true := by rfl)
    (hop : oi.op = .call { callee := .value (.func f), args := as, argTypes := ts } := by rfl) (hargs : as.map a.eval = args := by (try simp only [List.map_toArray, List.map_cons, List.map_nil]); first | done | rfl | (simp only [List.length_drop, List.length_take]; rfl)) :
    wpList P ops Q (oi :: rest) a w := aaF (some N) hd hg hf hname hb args hop hargs h
theorem pl (N : Tmp) {f : FuncId} {fn : Func} {as : Array Operand} {ts : Array TypeId} (hf : P.funcs[f]? = some fn) (args : Array Value) (h : Calls P f args w fun e w' => ∃ c, e = .panicked c ∧ Q (.panic c) a w')
    (hd : oi.dst = some N := by rfl) (hg : oi.guard = none := by rfl) (hname : (fn.name == "runtime.NumGoroutine") = false := by kernel_rfl) (hb : fn.body.isSome = true := by rfl)
    (hop : oi.op = .call { callee := .value (.func f), args := as, argTypes := ts } := by rfl) (hargs : as.map a.eval = args := by (try simp only [List.map_toArray, List.map_cons, List.map_nil]); first | done | rfl | (simp only [List.length_drop, List.length_take]; rfl)) :
    wpList P ops Q (oi :: rest) a w := by
  refine wpList_plain hg fun K hK => ?_
  have he := wU hf hname hb args w
  have hrun : (execOp a.eval oi).run P w = .ok (.enter f args) w := by
    unfold execOp
    simp [hop, resolve, Deferred.ofValue, invoke, Act.eval, hargs, he]
  unfold Oper.wp
  rw [hrun, Oper.upon_enter]
  exact h.mono fun e w' ⟨c, he, hq⟩ => by rw [he]; exact hq
theorem bxe (N : Tmp) (cs : Array Value) (t : TypeId) (h : ∀ g, g = w.heap.size → ∀ w1, w1.heap[g]? = some (.cells cs t (0, 0)) → Below w.heap.size w w1 → wpList P ops Q rest (a.put oi.dst (.pointer (some ⟨g, 0, none⟩))) w1)
    (hd : oi.dst = some N := by rfl) (hgd : oi.guard = none := by rfl) (hrun : (execOp a.eval oi).run P w = .ok (.value (.pointer (some ⟨w.heap.size, 0, none⟩))) (w.alloc (.cells cs t (0, 0))) := by first | (go_simp; done) | (go_simp; rfl)) :
    wpList P ops Q (oi :: rest) a w := LW hgd hd hrun h
end
section
variable {w w' w1 w2 : World} {g t : Nat} {o : Obj} {x0 x1 x2 x3 : Value}
theorem cf1 (h : ag (w.heap[g]? = some (.cells #[x0] t (0, 0)))) : w.cell? ⟨g, 0, none⟩ = some x0 ∧ w.frozen? ⟨g, 0, none⟩ = false := ⟨bc0 h, bf h 0⟩
theorem cf2 (h : ag (w.heap[g]? = some (.cells #[x0, x1] t (0, 0)))) : w.cell? ⟨g, 0, none⟩ = some x0 ∧ w.cell? ⟨g, 1, none⟩ = some x1 ∧ w.frozen? ⟨g, 0, none⟩ = false ∧ w.frozen? ⟨g, 1, none⟩ = false := ⟨bc0 h, bc1 h, bf h 0, bf h 1⟩
theorem cf3 (h : ag (w.heap[g]? = some (.cells #[x0, x1, x2] t (0, 0)))) : w.cell? ⟨g, 0, none⟩ = some x0 ∧ w.cell? ⟨g, 1, none⟩ = some x1 ∧ w.cell? ⟨g, 2, none⟩ = some x2 ∧ w.frozen? ⟨g, 0, none⟩ = false ∧ w.frozen? ⟨g, 1, none⟩ = false ∧ w.frozen? ⟨g, 2, none⟩ = false := ⟨bc0 h, bc1 h, bc2 h, bf h 0, bf h 1, bf h 2⟩
theorem cf4 (h : ag (w.heap[g]? = some (.cells #[x0, x1, x2, x3] t (0, 0)))) : w.cell? ⟨g, 0, none⟩ = some x0 ∧ w.cell? ⟨g, 1, none⟩ = some x1 ∧ w.cell? ⟨g, 2, none⟩ = some x2 ∧ w.cell? ⟨g, 3, none⟩ = some x3 ∧ w.frozen? ⟨g, 0, none⟩ = false ∧ w.frozen? ⟨g, 1, none⟩ = false ∧ w.frozen? ⟨g, 2, none⟩ = false ∧ w.frozen? ⟨g, 3, none⟩ = false := ⟨bc0 h, bc1 h, bc2 h, bc3 h, bf h 0, bf h 1, bf h 2, bf h 3⟩
theorem nn {a b : Nat} (h : ag (a ≠ b)) : a ≠ b ∧ b ≠ a := ⟨h.out, h.out.symm⟩
theorem bo (h : ag (w.heap[g]? = some o)) [l : Later w w1] (hb : Below w1.heap.size w1 w2) : w2.heap[g]? = some o := bI (bx h.out) hb
theorem bl {s : World} (hb : Below w1.heap.size w1 w2) (h : Below s.heap.size s w1 := by exact lb) : Below s.heap.size s w2 := jw h hb
theorem xb (h : ag (w.heap[g]? = some o)) [l : Later w w'] : ag (w'.heap[g]? = some o) := ⟨bx h.out⟩
variable {α : Type} {d : Kd α} {e base : Nat} {ok : Nat → Prop} {v : Value} {xs : List α}
theorem ro (h : ag (d.R e w base ok v xs)) [l : Later w w1] (hb : Below w1.heap.size w1 w2) : d.R e w2 base ok v xs := Kd.sD (rx h.out) hb
theorem an {p : Addr} {v : Value} (hx : w.cell? p = some v) (hg : ag (w.heap.size ≤ g)) : p.block ≠ g := Nat.ne_of_lt (Nat.lt_of_lt_of_le (World.block_lt_of_cell? _ _ hx) hg.out)
theorem cg {p : Addr} {v : Value} (q : Addr) (u : Value) (hx : w.cell? p = some v) (hn : p.block ≠ q.block) : (w.setCell q u).cell? p = some v := (cell_far hn u).trans hx
end
section
variable {α : Type} {p q s : Prop} [Decidable p] [Decidable q] [Decidable s] {a b r : Option α} {x : α}
theorem ip (h : (if p then a else b) = r) (hp : p := by rfl) : a = r := by rw [if_pos hp] at h; exact h
theorem if2 (h : (if p then (if q then a else none) else none) = some x) : decide p = true ∧ decide q = true ∧ a = some x := ⟨(ifd h).1, ifd (ifd h).2⟩
theorem if3 (h : (if p then (if q then (if s then a else none) else none) else none) = some x) : decide p = true ∧ decide q = true ∧ decide s = true ∧ a = some x := ⟨(ifd h).1, if2 (ifd h).2⟩
theorem be {β : Type} [BEq β] [LawfulBEq β] {y z : β} (h : y = z) : (y == z) = true := beq_iff_eq.mpr h
theorem bn {β : Type} [BEq β] [LawfulBEq β] {y z : β} (h : ¬ y = z) : (y == z) = false := beq_eq_false_iff_ne.mpr h
theorem be2 {β : Type} [BEq β] [LawfulBEq β] {y z : β} (h : y = z) : (y == z) = true ∧ (y != z) = false := ⟨be h, bne_eq_false_iff_eq.mpr h⟩
theorem bn2 {β : Type} [BEq β] [LawfulBEq β] {y z : β} (h : ¬ y = z) : (y == z) = false ∧ (y != z) = true := ⟨bn h, bne_iff_ne.mpr h⟩
theorem wq {i n : Int} {E : Prop} (f : 0 ≤ i → i < n → E) (h0 : decide (0 ≤ i) = true := by first | with_reducible assumption | assumption) (h1 : decide (i < n) = true := by first | with_reducible assumption | assumption) : (0 ≤ i) = True ∧ (i < n) = True ∧ E :=
  ⟨eq_true (oda h0), eq_true (oda h1), f (oda h0) (oda h1)⟩
end
theorem da {p : Prop} (h : p := by first | decide | assumption | (simp_all; done)) : p := h
theorem er {p : Prop} (h : p := by first | rfl | (simp [dx, dz] <;> rfl) | (simp [*, dx, dz] <;> rfl)) : p := h
theorem sr {p : Prop} (h : p := by first | rfl | (simp [*]; done)) : p := h
end Go.Proofs.Ytkdoihcjhccliaa.Q
/- Words for told walks. -/
set_option linter.unusedVariables false
namespace Go.Proofs.Ytkdoihcjhccliaa.Q
open Go.RowKit Go.Proofs.YtkdoihcjhccliaaW.PrintWords Go.Proofs.YtkdoihcjhccliaaW.PrintLast Go.Proofs.YtkdoihcjhccliaaW.PrintMore
class IB (g : Nat) (w W : World) (a b : outParam Value) : Prop where out : Below ((w.setCell ⟨g, 0, none⟩ a).setCell ⟨g, 1, none⟩ b).heap.size ((w.setCell ⟨g, 0, none⟩ a).setCell ⟨g, 1, none⟩ b) W
instance IB.refl (g : Nat) (w : World) (a b : Value) : IB g w ((w.setCell ⟨g, 0, none⟩ a).setCell ⟨g, 1, none⟩ b) a b := ⟨Below.refl _ _⟩
instance IB.alloc (g : Nat) (w W : World) (a b : Value) (o : Obj) [h : IB g w W a b] : IB g w (W.alloc o) a b := ⟨fE h.out o⟩
instance IB.drewN (g : Nat) (w W : World) (a b : Value) (n : Nat) [h : IB g w W a b] : IB g w (W.drewN n) a b := ⟨gq h.out n⟩
instance IB.drew (g : Nat) (w W : World) (a b : Value) [h : IB g w W a b] : IB g w W.drew a b := ⟨rQ h.out⟩
section
variable {g : Nat} {w W w1 : World} {a b : Value} {t : TypeId} {cs : Array Value} {α : Type} {d : Kd α} {e base : Nat} {ok : Nat → Prop} {v : Value} {xs : List α}
theorem cg4 {p : Addr} {v : Value} (g : Nat) (a b c d : Value) (hx : w.cell? p = some v) (hn : p.block ≠ g) : ((((w.setCell ⟨g, 0, none⟩ a).setCell ⟨g, 1, none⟩ b).setCell ⟨g, 2, none⟩ c).setCell ⟨g, 3, none⟩ d).cell? p = some v := cg ⟨g, 3, none⟩ d (cg ⟨g, 2, none⟩ c (cg ⟨g, 1, none⟩ b (cg ⟨g, 0, none⟩ a hx hn) hn) hn) hn
theorem cR {A : Option Addr} {n c : Nat} (h : ag (d.R e w base ok (.slice A n c) xs)) [l : Later w W] : d.C W A xs.length xs := (Kd.aA (rx h.out)).2.2
theorem fw (h : ag (d.R e w base ok v xs)) (hb : ag (w.heap[g]? = some (.cells cs t (0, 0)))) [f : IB g w W a b] (ht : ∀ q, q ∈ e :: d.E → q ≠ t := by decide) : d.R e W base ok v xs :=
  Kd.sD (Kd.cO (Kd.dN (p := ⟨g, 1, none⟩) (Kd.dN (p := ⟨g, 0, none⟩) (Kd.fC h.out hb.out ht) (fun _ hk => hk.2) a) (fun _ hk => hk.2) b) (fun _ h_ => h_.1)) f.out
theorem fr (h : ag (d.R e w base ok v xs)) (hb : ag (w.heap[g]? = some (.cells cs t (0, 0)))) [f : IB g w W a b] (hb2 : Below W.heap.size W w1) (ht : ∀ q, q ∈ e :: d.E → q ≠ t := by decide) : d.R e w1 base ok v xs := Kd.sD (fw h hb ht) hb2
theorem fb {g' : Nat} {cs' : Array Value} {t' : TypeId} (h : ag (w.heap[g']? = some (.cells cs' t' (0, 0)))) (hn : ag (g' ≠ g)) [f : IB g w W a b] (hb2 : Below W.heap.size W w1) : w1.heap[g']? = some (.cells cs' t' (0, 0)) :=
  bI (bI (dY (p := ⟨g, 1, none⟩) (dY (p := ⟨g, 0, none⟩) h.out hn.out a) hn.out b) f.out) hb2
theorem fp {x0 x1 : Value} (h : ag (w.heap[g]? = some (.cells #[x0, x1] t (0, 0)))) [f : IB g w W a b] (hb2 : Below W.heap.size W w1) : w1.heap[g]? = some (.cells #[a, b] t (0, 0)) :=
  bI (bI (rC (cs := #[a, x1]) (rC (cs := #[x0, x1]) h.out 0 a rfl) 1 b rfl) f.out) hb2
end
end Go.Proofs.Ytkdoihcjhccliaa.Q
/- More small words. -/
namespace Go.Proofs.Ytkdoihcjhccliaa.Q
open Go.RowKit Go.Proofs.YtkdoihcjhccliaaW.PrintWords Go.Proofs.YtkdoihcjhccliaaW.PrintLast
theorem nb {p q : Prop} (h : p) (n : ¬ p := by first | assumption | decide) : q := absurd h n
theorem bz {p : Prop} (h : p := by repeat' (first | (with_reducible first | refine dw ?_ _ | refine aK ?_ | refine bg ?_ _ | refine dY ?_ (ag.out (by assumption)) _ | exact bx (ag.out (by assumption)) | refine rC (cs := ?_) ?_ _ _ ?_) | rfl)) : p := h
end Go.Proofs.Ytkdoihcjhccliaa.Q
