/- An edge that fits is taken: typed by hand. -/
import Derived.Test.YtpmclhkednehhaaQ2
import Derived.Test.YtpmclhkednehhaaNetB
set_option linter.unusedVariables false
set_option linter.unusedSimpArgs false
namespace Go.Proofs.Ytpmclhkednehhaa.Q
open Go.RowKit Go.Proofs.YtpmclhkednehhaaW.PrintWords Go.Proofs.YtpmclhkednehhaaW.PrintLast Go.Proofs.YtpmclhkednehhaaW.PrintMore
theorem shape_node.yes (p : Nat) (n x : Int) (W : World) (k0 : W.cell? ⟨p, 0, none⟩ = some (.int .i64 n)) (x0 : 0 ≤ x) (x1 : x < n) :
    Calls Try.prog 33 #[.pointer (some ⟨p, 0, none⟩), .int .i64 x] W fun e w' => e = .returned (.bool true) ∧ Drawn0 W w' := by
  refine (shape_node.calls p n x W k0).mono ?_
  rintro e w' ⟨rfl, rfl⟩
  exact ⟨by rw [decide_eq_true x0, decide_eq_true x1]; rfl, Drawn0.refl _⟩
set_option maxHeartbeats 8000000 in
set_option maxRecDepth 100000 in
theorem Net_fits.yes (p : Nat) (n : Int) (e0 : S39) (W : World) (v : Value) (h : W.heap[p]? = some (.cells #[.int .i64 n, v] 44 (0, 0))) (a0 : 0 ≤ e0.f0) (a1 : e0.f0 < n) (b0 : 0 ≤ e0.f1) (b1 : e0.f1 < n) (hl : graph_label.f e0.f0 e0.f1 e0.f2 e0.f3 = some true) :
    Calls Try.prog 37 #[.pointer (some ⟨p, 0, none⟩), .agg #[.int .i64 e0.f0, .int .i64 e0.f1, .int .i64 e0.f2, .int .i64 e0.f3]] W fun e w' => e = .returned (.int .i64 0) ∧ Below W.heap.size W w' := by
  have hu44 := Try.underlying44
  have hu42 := Try.underlying42
  have hu39 := Try.underlying39
  have HP := ak h
  have HL := ak hl
  clear h hl
  have HB := ak (Below.refl W.heap.size W)
  go_enter Try.func37, Try.ntmps37
  go_wp2_with (first
    | ((with_reducible refine gate_dst (N := 3) rfl ?_); refine box_event ?hg (N := 3) ?hd (cs := #[.int .i64 e0.f0, .int .i64 e0.f1, .int .i64 e0.f2, .int .i64 e0.f3]) (t := 39) ?hr ?_; (case hd => rfl); (case hg => rfl); (case hr => first | (go_simp; done) | (go_simp; rfl)); intro ge hg w1 be hb; have HB1 := ak (below_step HB.out hb); have BE := ak be; have HP1 := ak (blk_below HP.out hb); clear hb be hg))
  have k0 := bc0 HP1
  have k1 := bc0 BE
  have k2 := bc1 BE
  have k3 := bc2 BE
  have k4 := bc3 BE
  go_quiet (first
    | (go_at_call 33; (with_reducible refine (shape_node.yes p n e0.f0 _ (bc0 (ak (bx HP1.out))) a0 a1).mono ?_); rintro e w' ⟨rfl, ⟨nd, rfl⟩⟩; (try first | exact ⟨rfl, _, World.drewN_drewN _ _ _⟩ | exact ⟨rfl, _, Eq.trans (World.drewN_drewN _ _ _) (congrArg (World.drewN _) (Nat.add_assoc _ _ _))⟩))
    | (go_at_call 33; (with_reducible refine (shape_node.yes p n e0.f1 _ (bc0 (ak (bx HP1.out))) b0 b1).mono ?_); rintro e w' ⟨rfl, ⟨nd, rfl⟩⟩; (try first | exact ⟨rfl, _, World.drewN_drewN _ _ _⟩ | exact ⟨rfl, _, Eq.trans (World.drewN_drewN _ _ _) (congrArg (World.drewN _) (Nat.add_assoc _ _ _))⟩)))
  go_wp2_with (first
    | (go_at_call 30; (with_reducible refine (graph_label.calls e0.f0 e0.f1 e0.f2 e0.f3 true _ HL.out).mono ?_); rintro e w5 ⟨rfl, hb⟩; have HB5 := ak (below_step lb hb); clear hb))
  go_ret
  exact ⟨rfl, HB5.out⟩
def Net_AddEdge.T6t : Bool × List (List Nat × List Nat) := (true, [([], []), ([], []), ([1], [1]), ([2], [2]), ([3], [3]), ([4], [4]), ([], []), ([6], [6]), ([5, 7], [5, 7]), ([0, 0, 1, 2, 3, 4, 5, 6, 7, 8], [0]), ([9, 0, 1, 2, 3, 4, 5, 6, 7, 8], [9]), ([10, 0, 1, 2, 3, 4, 5, 6, 7, 8], [10]), ([11, 8, 8, 0, 1, 2, 3, 4, 5, 6, 7, 8], [8, 11])])
def Net_AddEdge.B6 : List Nat := [0, 0, 2, 6, 14, 30, 0, 64, 254, 511, 1023, 2047, 4095]
theorem Net_AddEdge.T6 : rtab .any (opsOf Try.f23 6) = Net_AddEdge.T6t := by kernel_rfl
theorem Net_AddEdge.B6w : waitsOk Net_AddEdge.T6t.2 Net_AddEdge.B6 = true := by kernel_rfl
set_option maxHeartbeats 8000000 in
set_option maxRecDepth 100000 in
theorem Net_AddEdge.yes (w0 : World) (p : Nat) (n : Int) (A : Option Addr) (cap : Nat) (E : List S39) (e0 : S39) (W : World) (h : NS w0 p n (.slice A E.length cap) E W) (lt : E.length < 4096) (a0 : 0 ≤ e0.f0) (a1 : e0.f0 < n) (b0 : 0 ≤ e0.f1) (b1 : e0.f1 < n) (hl : graph_label.f e0.f0 e0.f1 e0.f2 e0.f3 = some true) :
    Calls Try.prog 23 #[.pointer (some ⟨p, 0, none⟩), .agg #[.int .i64 e0.f0, .int .i64 e0.f1, .int .i64 e0.f2, .int .i64 e0.f3]] W fun e w' => e = .returned (.tuple #[.int .i64 (E.length : Int), .int .i64 0]) ∧ ∃ (A' : Option Addr) (cap' : Nat), NS w0 p n (.slice A' (E.length + 1) cap') (E ++ [e0]) w' := by
  have hu44 := Try.underlying44
  have hu42 := Try.underlying42
  have hu39 := Try.underlying39
  have hu22 := Try.underlying22
  have N0 := ak h
  have HL := ak hl
  clear h hl
  have d1 : ((E.length : Int) == 4096) = false := beq_eq_false_iff_ne.mpr (by omega)
  have d2 : decide ((E.length : Int) = 4096) = false := decide_eq_false (by omega)
  have d3 : ¬ (E.length : Int) = 4096 := by omega
  go_enter Try.func23, Try.ntmps23
  go_wp2_with (first
    | ((with_reducible refine gate_dst (N := 3) rfl ?_); refine box_event ?hg (N := 3) ?hd (cs := #[.int .i64 e0.f0, .int .i64 e0.f1, .int .i64 e0.f2, .int .i64 e0.f3]) (t := 39) ?hr ?_; (case hd => rfl); (case hg => rfl); (case hr => first | (go_simp; done) | (go_simp; rfl)); intro ge hg w1 be hb; have N1 := ak (N0.out.later hb); have BE := ak be; have NE := ak (show some ge ≠ (Value.slice A E.length cap).ownBlock from fun he => by have := Kd.R_lt N0.out.row ge he.symm; omega); clear hb be hg; have k0 := N1.out.c1; have k1 := bc0 BE; have k2 := bc1 BE; have k3 := bc2 BE; have k4 := bc3 BE)
    | (go_at_call 37; (with_reducible refine (Net_fits.yes p n e0 _ _ N1.out.bp a0 a1 b0 b1 HL.out).mono ?_); rintro e w2 ⟨rfl, hb⟩; have N2 := ak (N1.out.later hb); have BE2 := ak (blk_below BE.out hb); clear hb))
  clear k0 k1 k2 k3 k4
  have N3 := ak (N2.out.later (below_drew (Below.refl _ _)))
  have BE3 := ak (blk_drew BE2.out)
  clear N0 N1 N2 BE BE2
  refine start_ (n := 13) (S := fun w' => w'.cell? ⟨p, 1, none⟩ = some (.slice A E.length cap) ∧ w'.cell? ⟨ge, 0, none⟩ = some (.int .i64 e0.f0) ∧ w'.cell? ⟨ge, 1, none⟩ = some (.int .i64 e0.f1) ∧ w'.cell? ⟨ge, 2, none⟩ = some (.int .i64 e0.f2) ∧ w'.cell? ⟨ge, 3, none⟩ = some (.int .i64 e0.f3)) (ds := [12]) #[false, false, false, false, false, false, false, false, false, false, false, false, false] (by kernel_rfl) rfl rfl ⟨N3.out.c1, bc0 BE3, bc1 BE3, bc2 BE3, bc3 BE3⟩ (fun hHeld => ?_); refine with_tabW Net_AddEdge.T6 Net_AddEdge.B6w (fun HT_ HW_ => ?_)
  generalize w2.drew = w3 at N3 BE3 hHeld ⊢
  refine pure_ (i := 0) (N := some 20) (v := ?_) (a' := ?_) #[true, false, false, false, false, false, false, false, false, false, false, false, false] rfl rfl (any_of HT_.out (by kernel_rfl)) (fun _ _ _ h => h) (Or.inl ⟨by rfl, ?_⟩) ?_ ?_; rotate_left; intro w'; go_simp; with_reducible rfl; rotate_left; simp only [Act.put, List.setIfInBounds_toArray, List.set_cons_zero, List.set_cons_succ, i64_w, i32_w]; rfl
  refine pure_ (i := 1) (N := some 21) (v := ?_) (a' := ?_) #[true, true, false, false, false, false, false, false, false, false, false, false, false] rfl rfl (any_of HT_.out (by kernel_rfl)) (fun _ _ _ h => h) (Or.inl ⟨by rfl, ?_⟩) ?_ ?_; rotate_left; intro w'; go_simp; with_reducible rfl; rotate_left; simp only [Act.put, List.setIfInBounds_toArray, List.set_cons_zero, List.set_cons_succ, i64_w, i32_w]; rfl
  refine pure_ (i := 2) (N := some 22) (v := ?_) (a' := ?_) #[true, true, true, false, false, false, false, false, false, false, false, false, false] rfl rfl (any_of HT_.out (by kernel_rfl)) (fun _ _ _ h => h) (Or.inl ⟨by rfl, ?_⟩) ?_ ?_; rotate_left; intro w'; go_simp; with_reducible rfl; rotate_left; simp only [Act.put, List.setIfInBounds_toArray, List.set_cons_zero, List.set_cons_succ, i64_w, i32_w]; rfl
  refine pure_ (i := 3) (N := some 23) (v := ?_) (a' := ?_) #[true, true, true, true, false, false, false, false, false, false, false, false, false] rfl rfl (any_of HT_.out (by kernel_rfl)) (fun _ _ _ h => h) (Or.inl ⟨by rfl, ?_⟩) ?_ ?_; rotate_left; intro w'; go_simp; with_reducible rfl; rotate_left; simp only [Act.put, List.setIfInBounds_toArray, List.set_cons_zero, List.set_cons_succ, i64_w, i32_w]; rfl
  refine pure_ (i := 4) (N := some 24) (v := ?_) (a' := ?_) #[true, true, true, true, true, false, false, false, false, false, false, false, false] rfl rfl (any_of HT_.out (by kernel_rfl)) (fun _ _ _ h => h) (Or.inl ⟨by rfl, ?_⟩) ?_ ?_; rotate_left; intro w'; go_simp; with_reducible rfl; rotate_left; simp only [Act.put, List.setIfInBounds_toArray, List.set_cons_zero, List.set_cons_succ, i64_w, i32_w]; rfl
  refine take_ (i := 5) (N := some 25) (v := ?_) (a' := ?_) #[true, true, true, true, true, true, false, false, false, false, false, false, false] rfl rfl (take_ofW HT_.out HW_.out (by kernel_rfl)) (fun _ _ _ h => h) (Or.inl ⟨by rfl, ?_⟩) hHeld ?_ ?_; rotate_left; rintro w' ⟨s0, s1, s2, s3, s4⟩; go_simp; with_reducible rfl; rotate_left; simp only [Act.put, List.setIfInBounds_toArray, List.set_cons_zero, List.set_cons_succ, i64_w, i32_w]; rfl
  refine take_ (i := 6) (N := some 26) (v := ?_) (a' := ?_) #[true, true, true, true, true, true, true, false, false, false, false, false, false] rfl rfl (take_ofW HT_.out HW_.out (by kernel_rfl)) (fun _ _ _ h => h) (Or.inl ⟨by rfl, ?_⟩) hHeld ?_ ?_; rotate_left; rintro w' ⟨s0, s1, s2, s3, s4⟩; go_simp; with_reducible rfl; rotate_left; simp only [Act.put, List.setIfInBounds_toArray, List.set_cons_zero, List.set_cons_succ, i64_w, i32_w]; rfl
  refine one_ (i := 7) (N := some 27) #[true, true, true, true, true, true, true, true, false, false, false, false, false] rfl rfl (one_of HT_.out (by kernel_rfl)) (by decide) (fun K hK => ?_)
  refine value_ (w1 := ?_) (v := ?_) (by rfl) rfl ?_ ?_
  rotate_left 2
  ·
   go_simp
   constructor
   ·
    rfl
   ·
    rfl
  refine hK.out _ _ ⟨(N3.out.later (below_alloc (Below.refl _ _) _)).c1, bc0 (ak (blk_alloc BE3.out _)), bc1 (ak (blk_alloc BE3.out _)), bc2 (ak (blk_alloc BE3.out _)), bc3 (ak (blk_alloc BE3.out _))⟩ (fun hHeld => ?_)
  clear hK K
  refine norm_ (a' := ?_) ?_ ?_
  rotate_left
  ·
   show Act.put _ (some 27) _ = _
   simp only [Act.put, List.setIfInBounds_toArray, List.set_cons_zero, List.set_cons_succ, i64_w, i32_w]
   rfl
  refine one_ (i := 8) (N := some 28) #[true, true, true, true, true, true, true, true, true, false, false, false, false] rfl rfl (one_of HT_.out (by kernel_rfl)) (by decide) (fun K hK => ?_)
  refine Kd.R_append_step k39 (w0 := w0) w0.heap.size (by rfl) (.tmp 25) (.tmp 27) 22 39 (.agg #[(.int .i64 0), (.int .i64 0), (.int .i64 0), (.int .i64 0)]) 32 rfl Try.underlying22 info39 rfl (by decide) (by omega) (.slice A E.length cap) E e0 [.int .i64 e0.f0, .int .i64 e0.f1, .int .i64 e0.f2, .int .i64 e0.f3] (fun _ => True) (fun _ => False) rfl rfl ?aP (fun _ hk => hk.elim) ?aF ?aO ?aB ?aS ?aL ?_
  (case aP => exact k39_mkM _ _ _ e0)
  (case aB => exact N3.out.below)
  (case aF => exact (fun _ _ => trivial))
  (case aO => exact N3.out.row)
  (case aS => exact below_size N3.out.below)
  (case aL => omega)
  intro v7 w7 ho hb hg hat
  obtain ⟨A7, c7, e7⟩ := Kd.R_slice ho
  rw [List.length_append] at e7
  subst e7
  have BE7 := ak (blk_grown BE3.out hg NE.out)
  have BP7 := ak (blk_grown N3.out.bp hg (Kd.R_ne N3.out.row N3.out.bp (by decide)))
  have HB7 := ak hb
  have R7 := ak (show Kd.R k39 39 w7 w0.heap.size (fun _ => True) (.slice A7 (E.length + 1) c7) (E ++ [e0]) from ho)
  have P0 := ak N3.out.p0
  clear N3 BE3 ho hb hg hat
  refine hK.out _ _ ⟨bc1 BP7, bc0 BE7, bc1 BE7, bc2 BE7, bc3 BE7⟩ (fun hHeld => ?_)
  clear hK K
  refine norm_ (a' := ?_) ?_ ?_
  rotate_left
  ·
   show Act.put _ (some 28) _ = _
   simp only [Act.put, List.setIfInBounds_toArray, List.set_cons_zero, List.set_cons_succ, i64_w, i32_w]
   rfl
  refine pure_ (i := 9) (N := some 29) (v := ?_) (a' := ?_) #[true, true, true, true, true, true, true, true, true, true, false, false, false] rfl rfl (any_of HT_.out (by kernel_rfl)) (fun _ _ _ h => h) (Or.inl ⟨by rfl, ?_⟩) ?_ ?_; rotate_left; intro w'; go_simp; with_reducible rfl; rotate_left; simp only [Act.put, List.setIfInBounds_toArray, List.set_cons_zero, List.set_cons_succ, i64_w, i32_w]; rfl
  refine pure_ (i := 10) (N := some 30) (v := ?_) (a' := ?_) #[true, true, true, true, true, true, true, true, true, true, true, false, false] rfl rfl (any_of HT_.out (by kernel_rfl)) (fun _ _ _ h => h) (Or.inl ⟨by rfl, ?_⟩) ?_ ?_; rotate_left; intro w'; go_simp; with_reducible rfl; rotate_left; simp only [Act.put, List.setIfInBounds_toArray, List.set_cons_zero, List.set_cons_succ, i64_w, i32_w]; rfl
  refine pure_ (i := 11) (N := some 31) (v := ?_) (a' := ?_) #[true, true, true, true, true, true, true, true, true, true, true, true, false] rfl rfl (any_of HT_.out (by kernel_rfl)) (fun _ _ _ h => h) (Or.inl ⟨by rfl, ?_⟩) ?_ ?_; rotate_left; intro w'; go_simp; with_reducible rfl; rotate_left; simp only [Act.put, List.setIfInBounds_toArray, List.set_cons_zero, List.set_cons_succ, i64_w, i32_w]; rfl
  refine last_ (i := 12) (N := none) #[true, true, true, true, true, true, true, true, true, true, true, true, true] rfl rfl (one_of HT_.out (by kernel_rfl)) (by decide) (fun K hK => ?_)
  have k2 := bf BP7 1
  have k3 := bc1 BP7
  refine skip_ (w1 := ?_) (by rfl) rfl ?_ ?_
  rotate_left
  ·
   go_simp
   rfl
  refine hK.out _ _ ?_
  clear hK K
  refine done_ (done_of HT_.out (by kernel_rfl)) ?_
  have N8 := ak (show NS w0 p n (.slice A7 (E.length + 1) c7) (E ++ [e0]) (w7.setCell ⟨p, 1, none⟩ (.slice A7 (E.length + 1) c7)) from ⟨below_set HB7.out P0.out, blk_put BP7.out 1 _ rfl, P0.out, Kd.R_set R7.out BP7.out (by decide) 1 _⟩)
  generalize w7.setCell ⟨p, 1, none⟩ (.slice A7 (E.length + 1) c7) = w8 at N8 ⊢
  clear k2 k3 HB7 BP7 R7 BE7 HT_ HW_ hHeld
  have k5 := N8.out.c1
  have s1 : Go.RowKit.wrap64 (((E.length + 1 : Nat) : Int) - 1) = (E.length : Int) := by unfold Go.RowKit.wrap64; omega
  have s2 : Go.RowKit.wrap64 ((E.length : Int) + 1 - 1) = (E.length : Int) := by unfold Go.RowKit.wrap64; omega
  have s3 : IntKind.i64.wrap ((E.length : Int) + 1 - 1) = (E.length : Int) := by rw [i64_w]; exact s2
  go_wp2
  first | simp only [s1] | simp only [s2] | simp only [s3] | skip
  exact bodyPost_ret (v := .tuple #[.int .i64 (E.length : Int), .int .i64 0]) (by simp [results, Try.results23, go_sem, s1, s2, s3]) rfl ⟨rfl, _, _, N8.out⟩
end Go.Proofs.Ytpmclhkednehhaa.Q
