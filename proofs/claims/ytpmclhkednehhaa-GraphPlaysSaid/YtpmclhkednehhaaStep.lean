/- A step that asks, and any step: written by genE2.py. -/
import Derived.Test.YtpmclhkednehhaaQ10
import Derived.Test.YtpmclhkednehhaaQ24
import Derived.Test.YtpmclhkednehhaaQ26
import Derived.Test.YtpmclhkednehhaaEdit
set_option linter.unusedVariables false
set_option linter.unusedSimpArgs false
namespace Go.Proofs.Ytpmclhkednehhaa.Q
open Go.RowKit Go.Proofs.YtpmclhkednehhaaW.PrintWords Go.Proofs.YtpmclhkednehhaaW.PrintLast Go.Proofs.YtpmclhkednehhaaW.PrintMore
set_option maxHeartbeats 4000000 in
set_option maxRecDepth 100000 in
theorem editAsk (p : Nat) (n : Int) (E : List S39) (Ad : Option Addr) (cd : Nat) (kd ps : Int) (e0 : S39) (W : World) (h0 : kd ≠ 0) (h1 : kd ≠ 1) (h2 : kd ≠ 2) (h3 : kd ≠ 3) (h4 : kd ≠ 4) (ask : ∀ W' : World, Below W.heap.size W W' → Calls Try.prog 47 #[.pointer (some ⟨p, 0, none⟩), .agg #[.int .i64 n, .slice Ad E.length cd], .agg #[.int .i64 kd, .int .i64 ps, .int .i64 e0.f0, .int .i64 e0.f1, .int .i64 e0.f2, .int .i64 e0.f3]] W' fun e w' => e = .returned (.bool true) ∧ Below W'.heap.size W' w') :
    Calls Try.prog 28 #[.pointer (some ⟨p, 0, none⟩), .agg #[.int .i64 n, .slice Ad E.length cd], .agg #[.int .i64 kd, .int .i64 ps, .int .i64 e0.f0, .int .i64 e0.f1, .int .i64 e0.f2, .int .i64 e0.f3]] W fun e w' => e = .returned (.tuple #[.agg #[.int .i64 n, .slice Ad E.length cd], .bool true]) ∧ Below W.heap.size W w' := by
  have hu24 := Try.underlying24
  have hu39 := Try.underlying39
  have hu22 := Try.underlying22
  have HB := ak (Below.refl W.heap.size W)
  have hu53 := Try.underlying53
  have AK := ak ask
  have d0 : (kd == 0) = false := beq_eq_false_iff_ne.mpr h0
  have d1 : (kd == 1) = false := beq_eq_false_iff_ne.mpr h1
  have d2 : (kd == 2) = false := beq_eq_false_iff_ne.mpr h2
  have d3 : (kd == 3) = false := beq_eq_false_iff_ne.mpr h3
  have d4 : (kd == 4) = false := beq_eq_false_iff_ne.mpr h4
  clear ask h0 h1 h2 h3 h4
  go_enter Try.func28, Try.ntmps28
  go_wp2_with (first
    | ((with_reducible refine gate_dst (N := 4) rfl ?_); refine box_event ?hg (N := 4) ?hd (cs := #[.int .i64 n, .slice Ad E.length cd]) (t := 24) ?hr ?_; (case hd => rfl); (case hg => rfl); (case hr => first | (go_simp; done) | (go_simp; rfl)); intro gg hg w1 bg hb; have HB1 := ak (below_step HB.out hb); have BG := ak bg; clear hb bg hg)
    | ((with_reducible refine gate_dst (N := 5) rfl ?_); refine box_event ?hg (N := 5) ?hd (cs := #[.int .i64 kd, .int .i64 ps, .int .i64 e0.f0, .int .i64 e0.f1, .int .i64 e0.f2, .int .i64 e0.f3]) (t := 53) ?hr ?_; (case hd => rfl); (case hg => rfl); (case hr => first | (go_simp; done) | (go_simp; rfl)); intro g5 hg w2 b5 hb; have HB2 := ak (below_step HB1.out hb); have B52 := ak b5; have BG2 := ak (blk_below BG.out hb); clear hb b5 hg)
    | ((with_reducible refine gate_dst (N := 6) rfl ?_); refine box_event ?hg (N := 6) ?hd (cs := #[.int .i64 0, .slice none 0 0]) (t := 24) ?hr ?_; (case hd => rfl); (case hg => rfl); (case hr => first | (go_simp; done) | (go_simp; rfl)); intro gr hg w3 br hb; have HB3 := ak (below_step HB2.out hb); have GR := ak (show W.heap.size ≤ gr by rw [hg]; exact below_size HB2.out); have NRG := ak (show gg ≠ gr by rw [hg]; exact Nat.ne_of_lt (blk_lt BG2.out)); have N5R := ak (show g5 ≠ gr by rw [hg]; exact Nat.ne_of_lt (blk_lt B52.out)); have BR3 := ak br; have B53 := ak (blk_below B52.out hb); have BG3 := ak (blk_below BG2.out hb); clear hb br hg; have kk := bc0 B53))
  go_region_held3 (fun w' => w'.cell? ⟨gg, 0, none⟩ = some (.int .i64 n) ∧ w'.cell? ⟨gg, 1, none⟩ = some (.slice Ad E.length cd) ∧ w'.cell? ⟨g5, 0, none⟩ = some (.int .i64 kd) ∧ w'.cell? ⟨g5, 1, none⟩ = some (.int .i64 ps) ∧ w'.cell? ⟨g5, 2, none⟩ = some (.int .i64 e0.f0) ∧ w'.cell? ⟨g5, 3, none⟩ = some (.int .i64 e0.f1) ∧ w'.cell? ⟨g5, 4, none⟩ = some (.int .i64 e0.f2) ∧ w'.cell? ⟨g5, 5, none⟩ = some (.int .i64 e0.f3)) (first | exact ⟨bc0 (ak (bx BG3.out)), bc1 (ak (bx BG3.out)), bc0 (ak (bx B53.out)), bc1 (ak (bx B53.out)), bc2 (ak (bx B53.out)), bc3 (ak (bx B53.out)), bc4 (ak (bx B53.out)), bc5 (ak (bx B53.out))⟩ | exact HX | exact HY) (first
    | (go_at_call 47; (with_reducible refine (AK.out _ (below_drew HB3.out)).mono ?_); rintro e w8 ⟨rfl, hb⟩; have HB8 := ak (below_step (below_drew HB3.out) hb); have BG8 := ak (blk_below (blk_drew BG3.out) hb); have B58 := ak (blk_below (blk_drew B53.out) hb); have BR8 := ak (blk_below (blk_drew BR3.out) hb); clear hb; have o2 := bc0 BR8; have o3 := bc1 BR8; have o4 := bf BR8 0; have o5 := bf BR8 1; have HX := (show _ ∧ _ ∧ _ ∧ _ ∧ _ ∧ _ ∧ _ ∧ _ from ⟨bc0 BG8, bc1 BG8, bc0 B58, bc1 B58, bc2 B58, bc3 B58, bc4 B58, bc5 B58⟩); have BG9 := ak (blk_far (blk_far BG8.out NRG.out (p := ⟨gr, 0, none⟩) (.int .i64 n)) NRG.out (p := ⟨gr, 1, none⟩) (.slice Ad E.length cd)); have B59 := ak (blk_far (blk_far B58.out N5R.out (p := ⟨gr, 0, none⟩) (.int .i64 n)) N5R.out (p := ⟨gr, 1, none⟩) (.slice Ad E.length cd)); have HY := (show _ ∧ _ ∧ _ ∧ _ ∧ _ ∧ _ ∧ _ ∧ _ from ⟨bc0 BG9, bc1 BG9, bc0 B59, bc1 B59, bc2 B59, bc3 B59, bc4 B59, bc5 B59⟩); clear BG9 B59))
  --HERE
  have b1 := blk_put (blk_put BR8.out 0 (.int .i64 n) rfl) 1 (.slice Ad E.length cd) rfl
  have y0 := (blk_cell b1 0).trans rfl
  have y1 := (blk_cell b1 1).trans rfl
  go_wp2
  exact bodyPost_ret (v := .tuple #[.agg #[.int .i64 n, .slice Ad E.length cd], .bool true]) (by simp [results, Try.results28, go_sem, y0, y1]) rfl ⟨rfl, below_set (below_set HB8.out GR.out) GR.out⟩
/-- What a step leans on beside Fine. -/
structure Askd (k : Nat) (n : Int) (E : List S39) (e : S39) : Prop where
  cp : compassref03_Copy.f k n E = some (n, E)
  bd : compassref03_Bad.f k n e.f0 e.f1 e.f2 e.f3 = some (fitE n e)
  rev : ∃ X, compassref03_Reverse.f k n E = some (n, X) ∧ X.length ≤ 4096 ∧ ∀ v, outs v X = ins v E
theorem step.ask (k : Nat) (u : World) (p : Nat) (n : Int) (A : Option Addr) (cap : Nat) (E : List S39) (Ad : Option Addr) (cd : Nat) (o : S53) (W : World) (h : NS u p n (.slice A E.length cap) E W) (hr : Kd.C k39 W Ad E.length E) (hc : E.length ≤ cd) (f : Fine k (n, E)) (q : Askd k n E o.e) :
    Calls Try.prog 47 #[.pointer (some ⟨p, 0, none⟩), .agg #[.int .i64 n, .slice Ad E.length cd], .agg #[.int .i64 o.kd, .int .i64 o.pos, .int .i64 o.e.f0, .int .i64 o.e.f1, .int .i64 o.e.f2, .int .i64 o.e.f3]] W fun e w' => e = .returned (.bool true) ∧ Below W.heap.size W w' := by
  by_cases k5 : o.kd = 5
  · rw [k5]
    by_cases r : 0 ≤ o.pos ∧ o.pos < (E.length : Int)
    · obtain ⟨j, ej⟩ := Int.eq_ofNat_of_zero_le r.1
      rw [ej]
      exact askYes u p n A cap E Ad cd o.e W h hr hc j (by omega)
    · exact askNo u p n A cap E Ad cd o.pos o.e W h hr hc r
  · by_cases k6 : o.kd = 6
    · rw [k6]
      by_cases r : 0 ≤ o.pos ∧ o.pos < n
      · obtain ⟨X, rv, xl, io⟩ := q.rev
        exact askOn k X u p n A cap E Ad cd o.pos o.e W h hr hc r.1 r.2 f.len rv xl (io o.pos)
      · exact askOff u p n A cap E Ad cd o.pos o.e W h hr hc r
    · exact askNone o.kd u p n A cap E Ad cd o.pos o.e W h hr hc k5 k6
theorem step.calls (k : Nat) (u : World) (p : Nat) (n : Int) (A : Option Addr) (cap : Nat) (E : List S39) (Ad : Option Addr) (cd : Nat) (o : S53) (n3 : Int) (E3 : List S39) (W : World) (h : NS u p n (.slice A E.length cap) E W) (hr : Kd.C k39 W Ad E.length E) (hc : E.length ≤ cd) (f : Fine k (n, E)) (q : Askd k n E o.e) (ed : (editI o (n, E)).2 = (n3, E3)) :
    Calls Try.prog 28 #[.pointer (some ⟨p, 0, none⟩), .agg #[.int .i64 n, .slice Ad E.length cd], .agg #[.int .i64 o.kd, .int .i64 o.pos, .int .i64 o.e.f0, .int .i64 o.e.f1, .int .i64 o.e.f2, .int .i64 o.e.f3]] W fun e w' => ∃ (A' : Option Addr) (c' : Nat) (A3 : Option Addr) (cap3 : Nat), e = .returned (.tuple #[.agg #[.int .i64 n3, .slice A' E3.length c'], .bool true]) ∧ Step u W w' p (.slice A E.length cap) Ad cd E n3 E3 A' c' A3 cap3 := by
  unfold editI at ed
  by_cases h0 : o.kd = 0
  · rw [if_pos h0] at ed
    simp only [Prod.mk.injEq] at ed
    obtain ⟨rfl, rfl⟩ := ed
    rw [h0]
    exact edit0 k u p n A cap E Ad cd o.pos o.e W h hr hc f.n0 f.n1 f.len f.ends q.cp q.bd
  rw [if_neg h0] at ed
  by_cases h1 : o.kd = 1
  · rw [if_pos h1] at ed
    simp only [Prod.mk.injEq] at ed
    obtain ⟨rfl, rfl⟩ := ed
    rw [h1]
    exact edit1 k u p n A cap E Ad cd o.pos o.e W h hr hc f.n0 f.n1 f.len f.ends q.cp q.bd
  rw [if_neg h1] at ed
  by_cases h2 : o.kd = 2
  · rw [if_pos h2] at ed
    simp only [Prod.mk.injEq] at ed
    obtain ⟨rfl, rfl⟩ := ed
    rw [h2]
    exact edit2 k u p n A cap E Ad cd o.pos o.e W h hr hc f.n0 f.n1 f.len f.ends q.cp q.bd
  rw [if_neg h2] at ed
  by_cases h3 : o.kd = 3
  · rw [if_pos h3] at ed
    simp only [Prod.mk.injEq] at ed
    obtain ⟨rfl, rfl⟩ := ed
    rw [h3]
    exact edit3 k u p n A cap E Ad cd o.pos o.e W h hr hc f.n0 f.n1 f.len f.ends q.cp q.bd
  rw [if_neg h3] at ed
  by_cases h4 : o.kd = 4
  · rw [if_pos h4] at ed
    have e2 : (cutN n E o.pos).2.1 = n3 := by rw [ed]
    have e3 : (cutN n E o.pos).2.2 = E3 := by rw [ed]
    rw [h4, ← e2, ← e3]
    exact edit4 k u p n A cap E Ad cd o.pos o.e W h hr hc f.n0 f.n1 f.len f.ends q.cp q.bd
  rw [if_neg h4] at ed
  simp only [Prod.mk.injEq] at ed
  obtain ⟨rfl, rfl⟩ := ed
  refine (editAsk p n E Ad cd o.kd o.pos o.e W h0 h1 h2 h3 h4 (fun W' hb => step.ask k u p n A cap E Ad cd o W' (h.later hb) (Kd.C_below hr hb) hc f q)).mono ?_
  rintro e w' ⟨rfl, hb⟩
  exact ⟨Ad, cd, A, cap, rfl, h.later hb, keep_below hb _ _, .inl rfl, .inl ⟨rfl, rfl, rfl⟩⟩
end Go.Proofs.Ytpmclhkednehhaa.Q
