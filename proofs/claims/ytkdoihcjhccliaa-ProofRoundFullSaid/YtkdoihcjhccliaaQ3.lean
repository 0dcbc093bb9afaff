-- PRINTED by print.py (a twelfth state) out of the translation. Not trusted: Lean checks it.
import Derived.Test.YtkdoihcjhccliaaQ0
namespace Go.Proofs.Ytkdoihcjhccliaa.Q
open Go.RowKit Go.Proofs.YtkdoihcjhccliaaW.PrintWords Go.Proofs.YtkdoihcjhccliaaW.PrintLast Go.Proofs.YtkdoihcjhccliaaW.PrintMore
attribute [local go_sem] dF dG eG eH cz cB dH dI   -- for this text's walks alone
set_option linter.unusedVariables false
set_option linter.unusedSimpArgs false

-- NOT PRINTED: function 86 (proof_look_1)

/-! ### GIVEN: pY: function 48 -/
theorem pY.told : True := trivial

/-! ### GIVEN: aQ: function 51 -/
/-- What a look gives up with. -/
def gave (c : Int) : Ending := .panicked [{ v := .iface 128 (.agg #[.int .i64 c]), recovered := false }]
/-- Code 0: what is good; else what is bad. -/
def oQ (r : Int) (good bad : Prop) : Prop := (r = 0 ∧ good) ∨ (r ≠ 0 ∧ bad)
theorem oQ.ok {good bad : Prop} (h : good) : oQ 0 good bad := .inl ⟨rfl, h⟩
theorem oQ.no {r : Int} {good bad : Prop} (hr : r ≠ 0) (h : bad) : oQ r good bad := .inr ⟨hr, h⟩
theorem oQ.good {r : Int} {good bad : Prop} (h : oQ r good bad) (hr : r = 0) : good := h.elim (·.2) fun z => absurd hr z.1
theorem oQ.bad {r : Int} {good bad : Prop} (h : oQ r good bad) (hr : r ≠ 0) : bad := h.elim (fun z => absurd z.1 hr) (·.2)
def aQ.f (a0 : Bool) (a1 : Int) : Option Unit := if a0 = true then some () else none
theorem aQ.calls (a0 : Bool) (a1 : Int) (w : World) (h : aQ.f a0 a1 = some ()) :
    Calls Try.prog 51 #[.bool a0, .int .i64 a1] w fun e w' => e = .returned (.tuple #[]) ∧ ll w w' := by
  cases a0 with
  | false => simp [aQ.f] at h
  | true =>
    go_enter Try.func51, Try.ntmps51
    go_wp2
    first | go_end0 | ((try simp only [Exit.inBlock, Exit.then]); refine bodyPost_ret (results_none rfl _ _ _) rfl ?_)
    exact ⟨by first | rfl | (simp; done), by repeat (first | exact ll.refl _ | apply ll.step)⟩
theorem aQ.bad (a1 : Int) (w : World) :
    Calls Try.prog 51 #[.bool false, .int .i64 a1] w fun e w' => e = gave a1 ∧ w' = w := by
  go_enter Try.func51, Try.ntmps51
  go_wp2
  exact ⟨rfl, rfl, rfl⟩
theorem fO {K : Act → World → Prop} {Q : Exit → Act → World → Prop} {c : List PanicEntry} {a : Act} {w : World} (h : Q (.panic c) a w) : Exit.then K Q (.panic c) a w := h
theorem fu {n : Nat} {Q : Exit → Act → World → Prop} {c : List PanicEntry} {a : Act} {w : World} (h : Q (.panic c) a w) : Exit.inBlock n Q (.panic c) a w := h
theorem fP {P : Program} {fn : Func} {R : Ending → World → Prop} {c : List PanicEntry} {a : Act} {w : World} (hd : a.defers = []) (h : R (.panicked c) w) : bodyPost P fn R (.panic c) a w := ⟨hd, h⟩
theorem panicsL_ {P : Program} {ops : Array Oper} {Q : Exit → Act → World → Prop} {rest : List Oper} {oi : Oper} {a : Act} {w : World} (N : Option Tmp) (hd : oi.dst = N) (hg : oi.guard = none) {f : FuncId} {fn : Func} {as0 : Array Operand} {ts : Array TypeId} (hf : P.funcs[f]? = some fn) (hname : (fn.name == "runtime.NumGoroutine") = false) (hb : fn.body.isSome = true) (args : Array Value)
    (hop : oi.op = .call { callee := .value (.func f), args := as0, argTypes := ts }) (hargs : as0.map a.eval = args)
    (h : Calls P f args w fun e w' => ∃ c, e = .panicked c ∧ Q (.panic c) a w') : wpList P ops Q (oi :: rest) a w := by
  refine wpList_plain hg fun K hK => ?_
  have he := wU hf hname hb args w
  have hrun : (execOp a.eval oi).run P w = .ok (.enter f args) w := by
    unfold execOp
    simp [hop, resolve, Deferred.ofValue, invoke, Act.eval, hargs, he]
  unfold Oper.wp
  rw [hrun, Oper.upon_enter]
  exact h.mono fun e w' ⟨c, he, hq⟩ => by rw [he]; exact hq
theorem Md {P : Program} {ops : Array Oper} {Q : Exit → Act → World → Prop} {oi : Oper} {N : Option Tmp} {a : Act} {w : World} {K : Act → World → Prop} {f : FuncId} {fn : Func} {as0 : Array Operand} {ts : Array TypeId} (hf : P.funcs[f]? = some fn) (hname : (fn.name == "runtime.NumGoroutine") = false) (hb : fn.body.isSome = true) (args : Array Value)
    (hw : Region.wanted oi (yielded ops a.tmps) = true) (hN : oi.dst = N) (hop : oi.op = .call { callee := .value (.func f), args := as0, argTypes := ts }) (hargs : as0.map a.eval = args)
    (h : Calls P f args w fun e w' => ∃ c, e = .panicked c ∧ Q (.panic c) a w') : if Region.wanted oi (yielded ops a.tmps) = true then Oper.wp P oi a w K Q else K (a.put N undef) w := by
  rw [if_pos hw]
  have he := wU hf hname hb args w
  have hrun : (execOp a.eval oi).run P w = .ok (.enter f args) w := by
    unfold execOp
    simp [hop, resolve, Deferred.ofValue, invoke, Act.eval, hargs, he]
  unfold Oper.wp
  rw [hrun, Oper.upon_enter]
  exact h.mono fun e w' ⟨c, he, hq⟩ => by rw [he]; exact hq
/-- A make of nothing, with a capacity. -/
theorem Kd.Vw {α : Type} (d : Kd α) {P : Program} {ops : Array Oper} {o : Oper} {a : Act} {Q : Exit → Act → World → Prop} {rest : List Oper} {w0 W : World} (base e : Nat) (hgd : o.guard = none) {N : Tmp} (hd : o.dst = some N) (t : TypeId) (x y : Operand) (ho : o.op = .makeSlice t x y) (n : Int) (hx : a.eval x = .int .i64 0) (hy : a.eval y = .int .i64 n)
    (ht : P.underlying t = some (.slice e)) (z : Value) (bytes : Nat) (hinfo : (P.info? e).map (fun i => (i.zero, i.size, i.bytes)) = some (some z, d.sz, bytes)) (hz : z.cells.size = d.sz) (hs0 : 0 < d.sz) (hb0 : 0 < bytes)
    (z0 : α) {ok okp : Nat → Prop} (hzero : d.M W base okp z0 z.cells.toList) (hok : ∀ k, okp k → ok k) (hfresh : ok W.heap.size) (h0 : 0 ≤ n) (hl : n.toNat * bytes ≤ 281474976710656) (HB : Below base w0 W) (hbase : base ≤ W.heap.size)
    (h : ∀ v1 w1, d.R e w1 base ok v1 ([] : List α) → Below base w0 w1 → W.grownBy w1 none → (∃ b, v1.ownBlock = some b ∧ W.heap.size ≤ b) → wpList P ops Q rest (a.put o.dst v1) w1) : wpList P ops Q (o :: rest) a W := by
  obtain ⟨m, rfl⟩ := Int.eq_ofNat_of_zero_le h0
  simp only [Int.toNat_natCast] at hl
  obtain ⟨i0, hi, hzz⟩ := Option.map_eq_some_iff.1 hinfo
  simp only [Prod.mk.injEq] at hzz
  obtain ⟨hz0, hz1, hz2⟩ := hzz
  have hm : m ≤ 281474976710656 := Nat.le_trans (Nat.le_mul_of_pos_right _ hb0) hl
  have hr := run_make (P := P) W t e i0 z ht hi hz0 .i64 .i64 (0 : Int) (m : Int) (by omega) (by omega)
    (by
      have h3 : ((i0.bytes * m : Nat) : Int) ≤ 281474976710656 := by rw [hz2, Nat.mul_comm]; omega
      rwa [Int.natCast_mul] at h3) (by omega)
  simp only [Int.toNat_natCast] at hr
  rw [hz1] at hr
  have hrep := Kd.zQ hz hs0 hzero m
  have full : d.R e (W.alloc (.cells (madeCells z.cells (m * d.sz)) e)) base ok (.slice (some ⟨W.heap.size, 0, none⟩) (List.replicate m z0).length (List.replicate m z0).length) (List.replicate m z0) := by
    refine ⟨fun k hk => ?_, (madeCells z.cells (m * d.sz)).toList, ?_, ?_⟩
    · have : W.heap.size = k := by simpa [Value.ownBlock] using hk
      subst this
      exact hfresh
    · have h2 := World.ownsRow_lit (base := base) (e := e) (size := d.sz) W (madeCells z.cells (m * d.sz)) (List.replicate m z0).length hbase (by simp [maxLen]; omega) (by simpa using hrep.1)
      simpa using h2
    · refine hrep.zn (fun p c hp => d.M_mono (fun k hk => ⟨hok k hk.1, fun he => ?_⟩) (Kd.Ir (d.M_bound hp) (fE (Below.refl _ _) _)))
      have h3 : k = W.heap.size := by simpa [Value.ownBlock] using he
      have := hk.2.2.1
      omega
  have nil := Kd.LV full (m := 0) (Nat.zero_le _)
  rw [List.take_zero, List.length_replicate] at nil
  refine Kd.zZ hgd (v := .slice (some ⟨W.heap.size, 0, none⟩) 0 m) (w1 := W.alloc (.cells (madeCells z.cells (m * d.sz)) e)) ?_ (h _ _ nil (HB.alloc hbase _) (World.grownBy_alloc W _ none) ⟨W.heap.size, by simp [Value.ownBlock], Nat.le_refl _⟩)
  simp [execOp, ho, hx, hy, hr]
/-- A call of a function value. -/
theorem callsV_ {P : Program} {ops : Array Oper} {Q : Exit → Act → World → Prop} {rest : List Oper} {oi : Oper} {a : Act} {w : World} (hg : oi.guard = none) {f : FuncId} {fn : Func} {x : Operand} {caps : Array Value}
    (hop : oi.op = .call { callee := .value x, args := #[], argTypes := #[] }) (hx : a.eval x = .func (.func f) #[] caps) (hf : P.funcs[f]? = some fn) (hname : (fn.name == "runtime.NumGoroutine") = false) (hb : fn.body.isSome = true)
    (h : Calls P f caps w fun e w' => (∃ v, e = .returned v ∧ wpList P ops Q rest (a.put oi.dst v) w') ∨ ∃ c, e = .panicked c ∧ Q (.panic c) a w') : wpList P ops Q (oi :: rest) a w := by
  refine wpList_plain hg fun K hK => ?_
  have he := wU hf hname hb caps w
  have hrun : (execOp a.eval oi).run P w = .ok (.enter f caps) w := by
    unfold execOp
    simp [hop, resolve, Deferred.ofValue, invoke, hx, he]
  unfold Oper.wp
  rw [hrun, Oper.upon_enter]
  refine h.mono fun e w'' hh => ?_
  rcases hh with ⟨v, rfl, hk⟩ | ⟨c, rfl, hk⟩
  · exact hK _ _ hk
  · exact hk

set_option maxRecDepth 100000 in
theorem zA (p : Addr) (y c : Int) (older : List PanicEntry) (w : World) (hp : p.block < w.heap.size) (hc : w.cell? p = some (.int .i64 y)) (hz : w.frozen? p = false) :
    CallsD Try.prog 86 #[.pointer (some p)] (.panicking ({ v := .iface 128 (.agg #[.int .i64 c]), recovered := false } :: older)) w fun e u' w' =>
      e = .returned (.tuple #[]) ∧ u' = .panicking ({ v := .iface 128 (.agg #[.int .i64 c]), recovered := true } :: older) ∧ w' = ((w.alloc (.cells #[.int .i64 c] 128)).setCell p (.int .i64 c)) := by
  have hta : ∀ (v : Value) (W : World), (Instr.typeAssert (.iface 128 v) 20 128 true).run Try.prog W = .ok (.tuple #[v, .bool true]) W := fun v W => by rfl
  have hu128 := Try.underlying128
  refine callsD_of_wpS Try.func86 rfl fun c₀ cs hu => ?_
  apply wpS_seq
  apply wpS_region
  simp [wpOpsS, go_sem, recoverD, hu, Try.ntmps86, Exit.thenS, hta]
  have hc1 : (w.alloc (.cells #[.int .i64 c] 128)).cell? p = some (.int .i64 y) := by rw [World.cell?_alloc_lt _ _ _ hp]; exact hc
  have hz1 : (w.alloc (.cells #[.int .i64 c] 128)).frozen? p = false := by first | (rw [frozen?_alloc_cells]; exact hz) | (simpa using hz)
  have hc2 := aH (wV w (.cells #[.int .i64 c] 128)) 0
  apply wpS_seq
  apply wpS_region
  simp [wpOpsS, go_sem, Exit.thenS, Array.replicate]
  refine wpS_cond (t := true) (by simp [Act.eval]) ?_
  simp only [if_true]
  apply wpS_region
  simp [wpOpsS, go_sem, hc1, hz1, hc2, bodyPostS, results, Try.results86]

set_option maxRecDepth 100000 in
theorem IE (p : Addr) (w : World) :
    CallsD Try.prog 86 #[.pointer (some p)] .returning w fun e u' w' => e = .returned (.tuple #[]) ∧ u' = .returning ∧ w' = w.alloc (.cells #[.int .i64 0] 128) := by
  have hta : ∀ (W : World), (Instr.typeAssert .nilIface 20 128 true).run Try.prog W = .ok (.tuple #[.agg #[.int .i64 0], .bool false]) W := fun W => by kernel_rfl
  have hu128 := Try.underlying128
  refine callsD_of_wpS Try.func86 rfl fun c₀ cs hu => ?_
  apply wpS_seq
  apply wpS_region
  simp [wpOpsS, go_sem, recoverD, hu, Try.ntmps86, Exit.thenS, hta]
  apply wpS_seq
  apply wpS_region
  simp [wpOpsS, go_sem, Exit.thenS, Array.replicate]
  refine wpS_cond (t := false) (by simp [Act.eval]) ?_
  simp only [Bool.false_eq_true, if_false]
  refine wpS_of_wp (wp_skip ?_)
  cases c₀
  simp_all [bodyPostS, results, Try.results86]

/-- What a look leaves: its own variables are new; all that was is as the call left it. -/
theorem pY.any {f : FuncId} {fn : Func} {caps : Array Value} {w : World} {G : World → Prop} {R : Ending → World → Prop} (r0 : Int) (hf : Try.prog.funcs[f]? = some fn) (hname : (fn.name == "runtime.NumGoroutine") = false) (hb : fn.body.isSome = true)
    (hc : Calls Try.prog f caps (w.alloc (.cells #[.int .i64 0] 30)) fun e w' => oQ r0 (e = .returned (.tuple #[])) (e = gave r0) ∧ w'.heap[w.heap.size]? = some (.cells #[.int .i64 0] 30 (0, 0)) ∧ G w')
    (hR : ∀ w' w'', G w' → Below w.heap.size w' w'' → R (.returned (.int .i64 r0)) w'') :
    Calls Try.prog 48 #[.func (.func f) #[] caps] w R := by
  have hmf : ∀ (fn : Fn) (first cap : Array Value) (w : World), (Instr.makeFunc fn first cap).run Try.prog w = .ok (.func fn first cap) w := fun _ _ _ _ => rfl
  have HR := ag.mk @hR
  clear hR
  go_enter_defers Try.func48, Try.ntmps48
  go_wp2
  rw [wU hf hname hb caps _, Oper.upon_enter]
  refine hc.mono fun e w' ⟨hg, hbk, hG⟩ => ?_
  have hcz : w'.cell? ⟨w.heap.size, 0, none⟩ = some (.int .i64 0) := (aH hbk 0).trans rfl
  have hfz := bG hbk 0
  have HG := ag.mk hG
  have HK := ag.mk hbk
  clear hG hbk
  rcases hg with ⟨rfl, rfl⟩ | ⟨hr, rfl⟩
  · dsimp only
    go_wp2
    refine leaves_cons (f := 86) (args := #[.pointer (some ⟨w.heap.size, 0, none⟩)]) (by simp) (by simp [go_sem]) ?_
    refine (IE _ _).mono ?_
    rintro e u' w'' ⟨rfl, rfl, rfl⟩
    have bk := bg (rC HK.out 0 (.int .i64 0) rfl) (.cells #[.int .i64 0] 128)
    have d0 := (aH bk 0)
    have hs : w.heap.size ≤ w'.heap.size := Nat.le_of_lt (eB HK.out)
    have k := ((Below.refl w.heap.size w').setCell (p := ⟨w.heap.size, 0, none⟩) (Nat.le_refl _) (.int .i64 0)).alloc (by simpa [World.setCell] using hs) (.cells #[.int .i64 0] 128)
    have fin := HR.out _ _ HG.out k
    simp [Leaves, settle, results, Try.results48, go_sem, d0, fin]
  · unfold gave
    dsimp only
    refine leaves_cons (f := 86) (args := #[.pointer (some ⟨w.heap.size, 0, none⟩)]) (by simp) (by simp [go_sem]) ?_
    refine (zA _ 0 r0 [] _ (eB HK.out) hcz hfz).mono ?_
    rintro e u' w'' ⟨rfl, rfl, rfl⟩
    have bk := rC (bg HK.out (.cells #[.int .i64 r0] 128)) 0 (.int .i64 r0) rfl
    have d0 := (aH bk 0)
    have hs : w.heap.size ≤ w'.heap.size := Nat.le_of_lt (eB HK.out)
    have k := ((Below.refl w.heap.size w').alloc hs (.cells #[.int .i64 r0] 128)).setCell (p := ⟨w.heap.size, 0, none⟩) (Nat.le_refl _) (.int .i64 r0)
    have fin := HR.out _ _ HG.out k
    simp [Leaves, settle, results, Try.results48, go_sem, d0, fin]

/-! ### lM: function 94 -/
def lM.f (ay : Int) (IG : Int) (Gf : Int) (Gg : Int) : Option (Bool) := if Gf ≥ 0 then (if Gf ≤ 1048576 then (if Gg ≥ (-1048576) then (some (decide (Gg ≤ 1048576))) else (some false)) else (some false)) else (some false)
set_option maxHeartbeats 8000000 in
set_option maxRecDepth 100000 in
theorem lM.calls (ay : Int) (IG : Int) (Gf : Int) (Gg : Int) (r : Bool) (w : World) (h : lM.f ay IG Gf Gg = some r) :
    Calls Try.prog 94 #[.agg #[.int .i64 ay, .int .i64 IG, .int .i64 Gf, .int .i64 Gg]] w fun e w' => e = .returned (.bool r) ∧ Below w.heap.size w w' := by
 have hu98 := Try.underlying98
 have HB := ak (Below.refl w.heap.size w)
 have H : (if Gf ≥ 0 then (if Gf ≤ 1048576 then (if Gg ≥ (-1048576) then (some (decide (Gg ≤ 1048576))) else (some false)) else (some false)) else (some false)) = some r := h
 clear h
 by_cases c2 : Gf ≥ 0
 rotate_left
 ·
  rw [if_neg c2] at H
  have c2b0 := decide_eq_false c2
  clear c2
  obtain rfl := Option.some.inj H
  go_enter Try.func94, Try.ntmps94
  go_wp2_with (first | ((with_reducible refine aC (N := 1) rfl ?_); refine bxe 1 #[.int .i64 ay, .int .i64 IG, .int .i64 Gf, .int .i64 Gg] 98 ?_; intro oF hg w11 hbox hb; have n0_ := ak (bl hb); have n1_ := ak (hbox); have n2_ := ak ((by rw [hg]; exact (ax lb) : w.heap.size ≤ oF)); have n3_ := ak ((by rw [hg]; exact (ax lb) : w.heap.size ≤ oF)); clear HB; have HB := n0_; have lN := n1_; have Vx := n2_; have Vy := n3_; clear n0_ n1_ n2_ n3_; clear hb hbox hg; have hcz12_0 : w11.cell? ⟨oF, 0, none⟩ = some (.int .i64 ay) := (aH lN.out 0).trans rfl; have hcz12_1 : w11.cell? ⟨oF, 1, none⟩ = some (.int .i64 IG) := (aH lN.out 1).trans rfl; have hcz12_2 : w11.cell? ⟨oF, 2, none⟩ = some (.int .i64 Gf) := (aH lN.out 2).trans rfl; have hcz12_3 : w11.cell? ⟨oF, 3, none⟩ = some (.int .i64 Gg) := (aH lN.out 3).trans rfl; have hfz12_0 := bG lN.out 0; have hfz12_1 := bG lN.out 1; have hfz12_2 := bG lN.out 2; have hfz12_3 := bG lN.out 3))
  go_ret
  exact ⟨er, lb⟩

 rw [if_pos c2] at H
 have c2b0 := decide_eq_true c2
 clear c2
 by_cases c3 : Gf ≤ 1048576
 rotate_left
 ·
  rw [if_neg c3] at H
  have c3b0 := decide_eq_false c3
  clear c3
  obtain rfl := Option.some.inj H
  go_enter Try.func94, Try.ntmps94
  go_wp2_with (first | ((with_reducible refine aC (N := 1) rfl ?_); refine bxe 1 #[.int .i64 ay, .int .i64 IG, .int .i64 Gf, .int .i64 Gg] 98 ?_; intro oF hg w9 hbox hb; have n0_ := ak (bl hb); have n1_ := ak (hbox); have n2_ := ak ((by rw [hg]; exact (ax lb) : w.heap.size ≤ oF)); have n3_ := ak ((by rw [hg]; exact (ax lb) : w.heap.size ≤ oF)); clear HB; have HB := n0_; have lN := n1_; have Vx := n2_; have Vy := n3_; clear n0_ n1_ n2_ n3_; clear hb hbox hg; have hcz10_0 : w9.cell? ⟨oF, 0, none⟩ = some (.int .i64 ay) := (aH lN.out 0).trans rfl; have hcz10_1 : w9.cell? ⟨oF, 1, none⟩ = some (.int .i64 IG) := (aH lN.out 1).trans rfl; have hcz10_2 : w9.cell? ⟨oF, 2, none⟩ = some (.int .i64 Gf) := (aH lN.out 2).trans rfl; have hcz10_3 : w9.cell? ⟨oF, 3, none⟩ = some (.int .i64 Gg) := (aH lN.out 3).trans rfl; have hfz10_0 := bG lN.out 0; have hfz10_1 := bG lN.out 1; have hfz10_2 := bG lN.out 2; have hfz10_3 := bG lN.out 3))
  go_ret
  exact ⟨er, lb⟩
 rw [if_pos c3] at H
 have c3b0 := decide_eq_true c3
 clear c3
 by_cases c4 : Gg ≥ (-1048576)
 rotate_left
 ·
  rw [if_neg c4] at H
  have c4b0 := decide_eq_false c4
  clear c4
  obtain rfl := Option.some.inj H
  go_enter Try.func94, Try.ntmps94
  go_wp2_with (first | ((with_reducible refine aC (N := 1) rfl ?_); refine bxe 1 #[.int .i64 ay, .int .i64 IG, .int .i64 Gf, .int .i64 Gg] 98 ?_; intro oF hg w7 hbox hb; have n0_ := ak (bl hb); have n1_ := ak (hbox); have n2_ := ak ((by rw [hg]; exact (ax lb) : w.heap.size ≤ oF)); have n3_ := ak ((by rw [hg]; exact (ax lb) : w.heap.size ≤ oF)); clear HB; have HB := n0_; have lN := n1_; have Vx := n2_; have Vy := n3_; clear n0_ n1_ n2_ n3_; clear hb hbox hg; have UD : w7.cell? ⟨oF, 0, none⟩ = some (.int .i64 ay) := (aH lN.out 0).trans rfl; have UE : w7.cell? ⟨oF, 1, none⟩ = some (.int .i64 IG) := (aH lN.out 1).trans rfl; have hcz8_2 : w7.cell? ⟨oF, 2, none⟩ = some (.int .i64 Gf) := (aH lN.out 2).trans rfl; have hcz8_3 : w7.cell? ⟨oF, 3, none⟩ = some (.int .i64 Gg) := (aH lN.out 3).trans rfl; have UF := bG lN.out 0; have UG := bG lN.out 1; have hfz8_2 := bG lN.out 2; have hfz8_3 := bG lN.out 3))
  go_ret
  exact ⟨er, lb⟩
 rw [if_pos c4] at H
 have c4b0 := decide_eq_true c4
 clear c4
 obtain rfl := Option.some.inj H
 go_enter Try.func94, Try.ntmps94
 go_wp2_with (first | ((with_reducible refine aC (N := 1) rfl ?_); refine bxe 1 #[.int .i64 ay, .int .i64 IG, .int .i64 Gf, .int .i64 Gg] 98 ?_; intro oF hg w5 hbox hb; have n0_ := ak (bl hb); have n1_ := ak (hbox); have n2_ := ak ((by rw [hg]; exact (ax lb) : w.heap.size ≤ oF)); have n3_ := ak ((by rw [hg]; exact (ax lb) : w.heap.size ≤ oF)); clear HB; have HB := n0_; have lN := n1_; have Vx := n2_; have Vy := n3_; clear n0_ n1_ n2_ n3_; clear hb hbox hg; have hcz6_0 : w5.cell? ⟨oF, 0, none⟩ = some (.int .i64 ay) := (aH lN.out 0).trans rfl; have hcz6_1 : w5.cell? ⟨oF, 1, none⟩ = some (.int .i64 IG) := (aH lN.out 1).trans rfl; have hcz6_2 : w5.cell? ⟨oF, 2, none⟩ = some (.int .i64 Gf) := (aH lN.out 2).trans rfl; have hcz6_3 : w5.cell? ⟨oF, 3, none⟩ = some (.int .i64 Gg) := (aH lN.out 3).trans rfl; have hfz6_0 := bG lN.out 0; have hfz6_1 := bG lN.out 1; have hfz6_2 := bG lN.out 2; have hfz6_3 := bG lN.out 3))
 go_ret
 exact ⟨er, lb⟩
end Go.Proofs.Ytkdoihcjhccliaa.Q
