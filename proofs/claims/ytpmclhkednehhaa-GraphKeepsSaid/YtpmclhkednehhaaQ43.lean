/- GraphKeeps: the walk, typed by hand. -/
import Derived.Test.YtpmclhkednehhaaQ0
import Derived.Test.YtpmclhkednehhaaQ24
import Derived.Test.YtpmclhkednehhaaQ26
import Derived.Test.YtpmclhkednehhaaQ27
import Derived.Test.YtpmclhkednehhaaQ42
set_option linter.unusedVariables false
set_option linter.unusedSimpArgs false
namespace Go.Proofs.Ytpmclhkednehhaa.Q
open Go.RowKit Go.Proofs.YtpmclhkednehhaaW.PrintWords Go.Proofs.YtpmclhkednehhaaW.PrintLast Go.Proofs.YtpmclhkednehhaaW.PrintMore
set_option maxHeartbeats 8000000 in
set_option maxRecDepth 100000 in
theorem compasslaw03_GraphKeeps.walk (k : Nat) (n : Int) (A : Option Addr) (cE : Nat) (E : List S39) (w : World) (hr0 : Kd.C k39 w A E.length E) (hc0 : E.length ≤ cE) (X : List S39) (c a a0 : Int) (TD0 : compasslaw03_GraphKeeps.Told k n E X c a a0) :
    Calls Try.prog 4 #[.agg #[.int .i64 n, .slice A E.length cE]] w fun e w' => e = .returned (.bool true) ∧ Below w.heap.size w w' := by
  have TD := ak TD0
  clear TD0
  have TW := ak TD.out.two
  have TL := ak TD.out.lab
  have LN := ak TD.out.len
  have CP := ak TD.out.copy
  have RG := ak TD.out.revg
  have SM := ak TD.out.same
  have hu24 := Try.underlying24
  have hu28 := Try.underlying28
  have hu22 := Try.underlying22
  have hu39 := Try.underlying39
  have HR := ak hr0
  have HC := ak hc0
  clear hr0 hc0
  have HB := ak (Below.refl w.heap.size w)
  go_enter Try.func4, Try.ntmps4
  go_wp2_with (first
    | ((with_reducible refine gate_dst (N := 1) rfl ?_); refine box_event ?hg (N := 1) ?hd (cs := #[.int .i64 n, .slice A E.length cE]) (t := 24) ?hr ?_; (case hd => rfl); (case hg => rfl); (case hr => first | (go_simp; done) | (go_simp; rfl)); intro gg hg w1 bg hb; have HB1 := ak (below_step HB.out hb); have BG := ak bg; clear hb bg hg)
    | (go_at_call 8; (with_reducible refine (compasslaw03_awake.calls k a0 TW.out TL.out _).mono ?_); rintro e w2 ⟨rfl, hb⟩; have HB2 := ak (below_step HB1.out hb); have BG2 := ak (blk_below BG.out hb); have k0 := bc0 BG2; have k1 := bc1 BG2; clear hb)
    | (go_at_call 15; (with_reducible refine (compassref03_Copy.calls k n _ _ E n E _ (Kd.C_below HR.out HB2.out) HC.out CP.out).mono ?_); rintro e w3 ⟨v3, rfl, r3, hb⟩; obtain ⟨A3, c3, e3⟩ := Kd.R_slice r3; subst e3; have HB3 := ak (below_step HB2.out hb); have BG3 := ak (blk_below BG2.out hb); have R3 := ak (Kd.R_lower r3 (below_size HB2.out)); clear hb r3)
    | ((with_reducible refine gate_dst (N := 3) rfl ?_); refine box_event ?hg (N := 3) ?hd (cs := #[.int .i64 0, .slice none 0 0]) (t := 24) ?hr ?_; (case hd => rfl); (case hg => rfl); (case hr => first | (go_simp; done) | (go_simp; rfl)); intro gm hg w4 bm hb; have HB4 := ak (below_step HB3.out hb); have BM4 := ak bm; have GM := ak (show w.heap.size ≤ gm by rw [hg]; exact below_size HB3.out); have NB := ak (show gg ≠ gm by rw [hg]; exact Nat.ne_of_lt (blk_lt BG3.out)); have BG4 := ak (blk_below BG3.out hb); have R4 := ak (Kd.R_below R3.out hb); clear hb bm hg; have k2 := bf BM4 0; have k3 := bf BM4 1; have k4 := bc0 BM4; have k5 := bc1 BM4)
    | ((with_reducible refine gate_store (t := 24) (p := 3) rfl ?_); refine store_event (t := 24) (p := 3) (v := ?vo5) (w1 := (w4.setCell ⟨gm, 0, none⟩ (.int .i64 n)).setCell ⟨gm, 1, none⟩ (.slice A3 E.length c3)) ?hg ?ho ?hn ?hr ?_; (case ho => rfl); (case hg => rfl); (case hn => rfl); (case hr => first | (go_simp; done) | (go_simp; rfl)); intro w5 hw; have HB5 := ak (show Below w.heap.size w w5 by rw [hw]; exact below_set (below_set HB4.out GM.out) GM.out); have BG5 := ak (show w5.heap[gg]? = some (.cells #[.int .i64 n, .slice A E.length cE] 24 (0, 0)) by rw [hw]; exact blk_far (blk_far BG4.out NB.out _) NB.out _); have BM5 := ak (show w5.heap[gm]? = some (.cells #[.int .i64 n, .slice A3 E.length c3] 24 (0, 0)) by rw [hw]; exact blk_put (blk_put BM4.out 0 _ rfl) 1 _ rfl); have R5 := ak (show Kd.R k39 39 w5 w.heap.size (fun _ => True) (.slice A3 E.length c3) E by rw [hw]; exact Kd.R_set (Kd.R_set R4.out BM4.out (by decide) 0 _) (blk_put BM4.out 0 _ rfl) (by decide) 1 _); clear hw))
  clear k0 k1 k2 k3 k4 k5
  clear HB1 HB2 HB3 HB4 BG BG2 BG3 BG4 BM4 R3 R4
  have HB6 := ak (show Below w.heap.size w w5.drew from below_drew HB5.out)
  have BG6 := ak (blk_drew BG5.out)
  have BM6 := ak (blk_drew BM5.out)
  have R6 := ak (Kd.R_drew R5.out)
  clear HB5 BG5 BM5 R5
  refine start_ (n := 11) (S := fun w' => w'.cell? ⟨gm, 1, none⟩ = some (.slice A3 E.length c3) ∧ w'.cell? ⟨gg, 1, none⟩ = some (.slice A E.length cE)) (ds := [10]) #[false, false, false, false, false, false, false, false, false, false, false] (by kernel_rfl) rfl rfl ⟨bc1 BM6, bc1 BG6⟩ (fun hHeld => ?_); refine with_tabW compasslaw03_GraphKeeps.tab4 compasslaw03_GraphKeeps.bits4 (fun HT_ HW_ => ?_)
  generalize w5.drew = w6 at HB6 BG6 BM6 R6 hHeld ⊢
  refine pure_ (i := 0) (N := some 16) (v := ?_) (a' := ?_) #[true, false, false, false, false, false, false, false, false, false, false] rfl rfl (any_of HT_.out (by kernel_rfl)) (fun _ _ _ h => h) (Or.inl ⟨by rfl, ?_⟩) ?_ ?_; rotate_left; intro w'; go_simp; with_reducible rfl; rotate_left; simp only [Act.put, List.setIfInBounds_toArray, List.set_cons_zero, List.set_cons_succ, i64_w, i32_w]; rfl
  refine pure_ (i := 2) (N := some 18) (v := ?_) (a' := ?_) #[true, false, true, false, false, false, false, false, false, false, false] rfl rfl (any_of HT_.out (by kernel_rfl)) (fun _ _ _ h => h) (Or.inl ⟨by rfl, ?_⟩) ?_ ?_; rotate_left; intro w'; go_simp; with_reducible rfl; rotate_left; simp only [Act.put, List.setIfInBounds_toArray, List.set_cons_zero, List.set_cons_succ, i64_w, i32_w]; rfl
  refine pure_ (i := 5) (N := some 21) (v := ?_) (a' := ?_) #[true, false, true, false, false, true, false, false, false, false, false] rfl rfl (any_of HT_.out (by kernel_rfl)) (fun _ _ _ h => h) (Or.inl ⟨by rfl, ?_⟩) ?_ ?_; rotate_left; intro w'; go_simp; with_reducible rfl; rotate_left; simp only [Act.put, List.setIfInBounds_toArray, List.set_cons_zero, List.set_cons_succ, i64_w, i32_w]; rfl
  refine take_ (i := 1) (N := some 17) (v := ?_) (a' := ?_) #[true, true, true, false, false, true, false, false, false, false, false] rfl rfl (take_ofW HT_.out HW_.out (by kernel_rfl)) (fun _ _ _ h => h) (Or.inl ⟨by rfl, ?_⟩) hHeld ?_ ?_; rotate_left; rintro w' ⟨s0, s1⟩; go_simp; with_reducible rfl; rotate_left; simp only [Act.put, List.setIfInBounds_toArray, List.set_cons_zero, List.set_cons_succ, i64_w, i32_w]; rfl
  refine take_ (i := 6) (N := some 22) (v := ?_) (a' := ?_) #[true, true, true, false, false, true, true, false, false, false, false] rfl rfl (take_ofW HT_.out HW_.out (by kernel_rfl)) (fun _ _ _ h => h) (Or.inl ⟨by rfl, ?_⟩) hHeld ?_ ?_; rotate_left; rintro w' ⟨s0, s1⟩; go_simp; with_reducible rfl; rotate_left; simp only [Act.put, List.setIfInBounds_toArray, List.set_cons_zero, List.set_cons_succ, i64_w, i32_w]; rfl
  refine pure_ (i := 7) (N := some 23) (v := ?_) (a' := ?_) #[true, true, true, false, false, true, true, true, false, false, false] rfl rfl (any_of HT_.out (by kernel_rfl)) (fun _ _ _ h => h) (Or.inl ⟨by rfl, ?_⟩) ?_ ?_; rotate_left; intro w'; go_simp; with_reducible rfl; rotate_left; simp only [Act.put, List.setIfInBounds_toArray, List.set_cons_zero, List.set_cons_succ, i64_w, i32_w]; rfl
  refine one_ (i := 3) (N := some 19) #[true, true, true, true, false, true, true, true, false, false, false] rfl rfl (one_of HT_.out (by kernel_rfl)) (by decide) (fun K hK => ?_)
  refine value_ (w1 := ?_) (v := ?_) (by rfl) rfl ?_ ?_
  rotate_left 2
  ·
   go_simp
   constructor
   ·
    rfl
   ·
    rfl
  refine hK.out _ _ ⟨(blk_cell (blk_alloc BM6.out _) 1).trans rfl, (blk_cell (blk_alloc BG6.out _) 1).trans rfl⟩ (fun hHeld => ?_)
  clear hK K
  refine norm_ (a' := ?_) ?_ ?_
  rotate_left
  ·
   show Act.put _ (some 19) _ = _
   simp only [Act.put, List.setIfInBounds_toArray, List.set_cons_zero, List.set_cons_succ, i64_w, i32_w]
   rfl
  refine one_ (i := 4) (N := some 20) #[true, true, true, true, true, true, true, true, false, false, false] rfl rfl (one_of HT_.out (by kernel_rfl)) (by decide) (fun K hK => ?_)
  refine Kd.R_append_step k39 (w0 := w) w.heap.size (by rfl) (.tmp 17) (.tmp 19) 22 39 (.agg #[(.int .i64 0), (.int .i64 0), (.int .i64 0), (.int .i64 0)]) 32 rfl Try.underlying22 info39 rfl (by decide) (by omega) (.slice A3 E.length c3) E z7 [.int .i64 0, .int .i64 0, .int .i64 (-7), .int .i64 0] (fun _ => True) (fun _ => False) rfl rfl ?aP (fun _ hk => hk.elim) ?aF ?aO ?aB ?aS ?aL ?_
  (case aP => exact k39_mkM _ _ _ z7)
  (case aB => exact HB6.out)
  (case aF => exact (fun _ _ => trivial))
  (case aO => exact R6.out)
  (case aS => exact below_size HB6.out)
  (case aL => have := LN.out; omega)
  intro v7 w7 ho hb hg hat
  obtain ⟨b, cm, e7, gb, -⟩ := Kd.R_form ho (by simp)
  rw [List.length_append] at e7
  subst e7
  have BG7 := ak (blk_grown BG6.out hg (Kd.R_ne R6.out BG6.out (by decide)))
  have BM7 := ak (blk_grown BM6.out hg (Kd.R_ne R6.out BM6.out (by decide)))
  have HB7 := ak hb
  have R7 := ak (show Kd.R k39 39 w7 w.heap.size (fun _ => True) (.slice (some ⟨b, 0, none⟩) (E.length + 1) cm) (E ++ [z7]) from ho)
  clear HB6 BG6 BM6 R6 ho hb hg hat
  have lc := (Kd.R_reads' R7.out).2.1
  refine hK.out _ _ ⟨bc1 BM7, bc1 BG7⟩ (fun hHeld => ?_)
  clear hK K
  refine norm_ (a' := ?_) ?_ ?_
  rotate_left
  ·
   show Act.put _ (some 20) _ = _
   simp only [Act.put, List.setIfInBounds_toArray, List.set_cons_zero, List.set_cons_succ, i64_w, i32_w]
   rfl

  refine pure_ (i := 8) (N := some 24) (v := ?_) (a' := ?_) #[true, true, true, true, true, true, true, true, true, false, false] rfl rfl (any_of HT_.out (by kernel_rfl)) (fun _ _ _ h => h) (Or.inl ⟨by rfl, ?_⟩) ?_ ?_; rotate_left; intro w'; go_simp; rw [if_pos (show E.length ≤ cm by omega)]; rotate_left; simp only [Act.put, List.setIfInBounds_toArray, List.set_cons_zero, List.set_cons_succ, i64_w, i32_w]; rfl
  refine pure_ (i := 9) (N := some 25) (v := ?_) (a' := ?_) #[true, true, true, true, true, true, true, true, true, true, false] rfl rfl (any_of HT_.out (by kernel_rfl)) (fun _ _ _ h => h) (Or.inl ⟨by rfl, ?_⟩) ?_ ?_; rotate_left; intro w'; go_simp; with_reducible rfl; rotate_left; simp only [Act.put, List.setIfInBounds_toArray, List.set_cons_zero, List.set_cons_succ, i64_w, i32_w]; rfl
  refine last_ (i := 10) (N := none) #[true, true, true, true, true, true, true, true, true, true, true] rfl rfl (one_of HT_.out (by kernel_rfl)) (by decide) (fun K hK => ?_)
  have k2 := bf BM7 1
  have k3 := bc1 BM7
  refine skip_ (w1 := ?_) (by rfl) rfl ?_ ?_
  rotate_left
  ·
   go_simp
   rfl
  refine hK.out _ _ ?_
  clear hK K
  refine done_ (done_of HT_.out (by kernel_rfl)) ?_
  have K0 := ak (show KS w n A cE E gg gm b cm (w7.setCell ⟨gm, 1, none⟩ (.slice (some ⟨b, 0, none⟩) E.length cm)) from ⟨below_set HB7.out GM.out, blk_far BG7.out NB.out _, blk_put BM7.out 1 _ rfl, Kd.R_set R7.out BM7.out (by decide) 1 _⟩)
  generalize w7.setCell ⟨gm, 1, none⟩ (.slice (some ⟨b, 0, none⟩) E.length cm) = w8 at K0 ⊢
  have LE := ak (show E.length ≤ cm by omega)
  clear k2 k3 HB7 BG7 BM7 R7 HT_ HW_ hHeld lc GM NB gb HB
  have hlo := ak (show b < w8.heap.size from Kd.R_lt K0.out.row b rfl)
  obtain ⟨lo, elo⟩ : ∃ m, m = w8.heap.size := ⟨_, rfl⟩
  have LO := ak (show w.heap.size ≤ lo by rw [elo]; exact below_size K0.out.below)
  have LOB := ak (show b < lo by rw [elo]; exact hlo.out)
  clear hlo
  have k0 := K0.out.m0
  have k1 := K0.out.m1
  go_wp2_with (first
    | (go_at_call 11; (with_reducible refine (graph_From.both k n _ _ E _ K0.out.mine LE.out c a TD.out.chk LN.out TD.out.zero).mono ?_); rintro e w9 ⟨pv, rfl, hb, nt⟩; have K1 := ak (K0.out.later hb); have N1 := ak (show NT lo pv c n E w9 by rw [elo]; exact nt); have S9 := ak (show lo ≤ w9.heap.size by rw [elo]; exact below_size hb); clear nt hb elo)
    | ((with_reducible refine gate_dst (N := 5) rfl ?_); refine box_event ?hg (N := 5) ?hd (cs := #[.int .i64 0, .int .i64 0]) (t := 28) ?hr ?_; (case hd => rfl); (case hg => rfl); (case hr => first | (go_simp; done) | (go_simp; rfl)); intro gf hg w10 bf_ hb; have K2 := ak (K1.out.later hb); have N2 := ak (N1.out.later hb); have S10 := ak (show lo ≤ w10.heap.size from Nat.le_trans S9.out (below_size hb)); have BF := ak bf_; have GF := ak (show w.heap.size ≤ gf by rw [hg]; exact below_size K1.out.below); have NF := ak (show gg ≠ gf by rw [hg]; exact Nat.ne_of_lt (blk_lt K1.out.bg)); have NK := ak (show gm ≠ gf by rw [hg]; exact Nat.ne_of_lt (blk_lt K1.out.bm)); have k2 := bf BF 0; have k3 := bf BF 1; have k4 := bc0 BF; have k5 := bc1 BF; clear hb bf_ hg)
    | ((with_reducible refine gate_store (t := 28) (p := 5) rfl ?_); refine store_event (t := 28) (p := 5) (v := ?vo7) (w1 := (w10.setCell ⟨gf, 0, none⟩ (.int .i64 c)).setCell ⟨gf, 1, none⟩ (.int .i64 a)) ?hg ?ho ?hn ?hr ?_; (case ho => rfl); (case hg => rfl); (case hn => rfl); (case hr => first | (go_simp; done) | (go_simp; rfl)); intro w11 hw; have K3 := ak (show KS w n A cE E gg gm b cm w11 by rw [hw]; exact K2.out.put (by decide) GF.out NF.out NK.out BF.out _ _); have N3 := ak (show NT lo pv c n E w11 by rw [hw]; exact N2.out.put (by decide) (by decide) BF.out _ _); have S11 := ak (show lo ≤ w11.heap.size by rw [hw]; exact Nat.le_trans S10.out (((Below.refl 0 w10).setCell (Nat.zero_le _) _).setCell (Nat.zero_le _) _).size); have k6 := K3.out.m0; have k7 := K3.out.m1; clear hw)
    | (go_at_call 13; (with_reducible refine (graph_Reverse.calls k n _ _ E n X _ K3.out.mine LE.out RG.out).mono ?_); rintro e w12 ⟨vr, rfl, rr, hb⟩; obtain ⟨Ar, cr, er_⟩ := Kd.R_slice rr; subst er_; have RR := ak (Kd.R_lower rr S11.out); have K4 := ak (K3.out.later hb); have N4 := ak (N3.out.later hb); clear hb rr)
    | ((with_reducible refine gate_dst (N := 6) rfl ?_); refine box_event ?hg (N := 6) ?hd (cs := #[.int .i64 0, .slice none 0 0]) (t := 24) ?hr ?_; (case hd => rfl); (case hg => rfl); (case hr => first | (go_simp; done) | (go_simp; rfl)); intro gr hg w13 br_ hb; have K5 := ak (K4.out.later hb); have N5 := ak (N4.out.later hb); have BR := ak br_; have GR := ak (show w.heap.size ≤ gr by rw [hg]; exact below_size K4.out.below); have NR1 := ak (show gg ≠ gr by rw [hg]; exact Nat.ne_of_lt (blk_lt K4.out.bg)); have NR2 := ak (show gm ≠ gr by rw [hg]; exact Nat.ne_of_lt (blk_lt K4.out.bm)); have RR2 := ak (Kd.R_below RR.out hb); have k8 := bf BR 0; have k9 := bf BR 1; have k10 := bc0 BR; have k11 := bc1 BR; clear hb br_ hg)
    | ((with_reducible refine gate_store (t := 24) (p := 6) rfl ?_); refine store_event (t := 24) (p := 6) (v := ?vo8) (w1 := (w13.setCell ⟨gr, 0, none⟩ (.int .i64 n)).setCell ⟨gr, 1, none⟩ (.slice Ar X.length cr)) ?hg ?ho ?hn ?hr ?_; (case ho => rfl); (case hg => rfl); (case hn => rfl); (case hr => first | (go_simp; done) | (go_simp; rfl)); intro w14 hw; have K6 := ak (show KS w n A cE E gg gm b cm w14 by rw [hw]; exact K5.out.put (by decide) GR.out NR1.out NR2.out BR.out _ _); have P6 := ak (show PS w n A cE E X lo gg gm gr b cm Ar cr pv c (E ++ [z7]) w14 from ⟨K6.out.below, K6.out.bg, K6.out.bm, by rw [hw]; exact blk_put (blk_put BR.out 0 _ rfl) 1 _ rfl, LOB.out, K6.out.row, by rw [hw]; exact Kd.R_set (Kd.R_set RR2.out BR.out (by decide) 0 _) (blk_put BR.out 0 _ rfl) (by decide) 1 _, by rw [hw]; exact N5.out.put (by decide) (by decide) BR.out _ _⟩); have k12 := K6.out.m0; have k13 := K6.out.m1; clear hw))
  have KF := fun (W' : World) (hb : Below w14.heap.size w14 W') => K6.out.five hb
  have KF0 := ak KF
  clear KF k0 k1 k2 k3 k4 k5 k6 k7 k8 k9 k10 k11 k12 k13
  clear N1 N2 N3 N4 N5 K1 K2 K3 K4 K5 RR RR2 BF BR GF NF NK GR NR1 NR2 S9 S10 S11
  have lm := LN.out
  have lk := K6.out.len
  have b1 : IntKind.i64.wrap ((E.length : Int) + 1) = (E.length : Int) + 1 := by rw [i64_w]; unfold Go.RowKit.wrap64; omega
  have b2 : (0 : Int) ≤ (E.length : Int) + 1 := by omega
  have b3 : (E.length : Int) + 1 ≤ (cm : Int) := by omega
  have b4 : (0 : Int) ≤ (E.length : Int) := by omega
  have b5 : (E.length : Int) < (E.length : Int) + 1 := by omega
  have b6 : ((E.length : Int) + 1).toNat = E.length + 1 := by omega
  have b7 : E.length + 1 ≤ cm := by omega
  clear lm lk
  go_region_held3 (fun w' => w'.cell? ⟨gm, 0, none⟩ = some (.int .i64 n) ∧ w'.cell? ⟨gm, 1, none⟩ = some (.slice (some ⟨b, 0, none⟩) E.length cm) ∧ w'.cell? ⟨gg, 0, none⟩ = some (.int .i64 n) ∧ w'.cell? ⟨gg, 1, none⟩ = some (.slice A E.length cE) ∧ w'.cell? ⟨b, E.length * 4 + 2, none⟩ = some (.int .i64 (-7))) (first | exact KF0.out _ (Below.refl _ _) | exact KF0.out _ (below_drew (Below.refl _ _)) | exact KF0.out _ (pw_below_drewN (Below.refl _ _) _) | exact K8.out.five (Below.refl _ _) | exact K8.out.five (below_drew (Below.refl _ _)))
    (first | (go_at_call 12; (with_reducible refine (compassref03_Same.calls k n _ _ E n _ _ E true _ (Kd.C_below K6.out.mine (below_drew (Below.refl _ _))) LE.out (Kd.C_below HR.out (below_drew K6.out.below)) HC.out SM.out).mono ?_); rintro e w16 ⟨rfl, hb⟩; have P8 := ak (P6.out.later (below_step (below_drew (Below.refl _ _)) hb)); have K8 := ak (K6.out.later (below_step (below_drew (Below.refl _ _)) hb)); have bw := ak (below_step (below_drew (Below.refl w14.heap.size w14)) hb); clear hb))
  clear b1 b2 b3 b4 b5 b6 b7 KF0 K6 K0 K8 bw P6
  have k0 := P8.out.m1
  go_wp2
  clear k0
  obtain ⟨M0, em⟩ : ∃ m, m = E ++ [z7] := ⟨_, rfl⟩
  rw [← em] at P8
  clear em
  go_loopg [56] E.length (fun kq v56 w' => ∃ (i : Nat) (M : List S39), v56 = .int .i64 (i : Int) ∧ Aside0 (kq + i = E.length) ∧ Aside0 (PS w n A cE E X lo gg gm gr b cm Ar cr pv c M w'))
  case atStart => exact ⟨0, _, rfl, ⟨rfl⟩, P8⟩
  case round =>
    clear P8
    obtain ⟨i, M, rfl, HK, S9⟩ := hrel
    by_cases c1 : i < E.length
    · have c1a : decide (i < E.length) = true := decide_eq_true c1
      have c1b : decide ((i : Int) < (E.length : Int)) = true := decide_eq_true (by omega)
      have k0 := S9.out.m1
      obtain ⟨⟨k1, k2, k3, k4⟩, k5, k6, k7, k8⟩ := S9.out.cells (i : Int) (by omega) (by omega)
      have VS := ak (S9.out.put (i : Int) (by omega) (by omega) 0 0 (-9) 0)
      rw [Int.toNat_natCast] at k1 k2 k3 k4 k5 k6 k7 k8 VS
      have hw1 : Go.RowKit.wrap64 ((i : Int) + 1) = ((i + 1 : Nat) : Int) := by have := LN.out; unfold Go.RowKit.wrap64; omega
      go_wp2
      go_roundg (E.length - (i + 1))
      case measure => have := HK.out; omega
      case rel => exact ⟨i + 1, _, by first | (rw [hw1]; done) | (simp only [i64_w, hw1]; done) | (go_num; rw [hw1]; done), ⟨by have := HK.out; omega⟩, VS⟩
    · have c1a : decide (i < E.length) = false := decide_eq_false c1
      have c1b : decide ((i : Int) < (E.length : Int)) = false := decide_eq_false (by omega)
      clear c1
      go_wp2
      clear c1a c1b
      have KF1 := ak (fun (W' : World) (hb : Below wr.heap.size wr W') => S9.out.four hb)
      go_region_held3 (fun w' => w'.cell? ⟨gg, 0, none⟩ = some (.int .i64 n) ∧ w'.cell? ⟨gg, 1, none⟩ = some (.slice A E.length cE) ∧ w'.cell? ⟨gr, 0, none⟩ = some (.int .i64 n) ∧ w'.cell? ⟨gr, 1, none⟩ = some (.slice Ar X.length cr)) (first | exact S11.out.four (Below.refl _ _) | exact S10.out.four (Below.refl _ _) | exact KF1.out _ (Below.refl _ _) | exact KF1.out _ (below_drew (Below.refl _ _)))
        (first
          | (go_at_call 14; (with_reducible refine (compassref03_Reverse.calls k n _ _ E n X _ (Kd.C_below HR.out (below_drew S9.out.below)) HC.out TD.out.rev).mono ?_); rintro e w18 ⟨vs, rfl, rs, hb⟩; obtain ⟨As, cs_, es_⟩ := Kd.R_slice rs; subst es_; have RS := ak rs; have S10 := ak (S9.out.later (below_step (below_drew (Below.refl _ _)) hb)); clear hb rs)
          | (go_at_call 12; (with_reducible refine (compassref03_Same.calls k n _ _ X n _ _ X true _ (Kd.R_reads' S10.out.rr).2.2 (Kd.R_reads' S10.out.rr).2.1 (Kd.R_reads' RS.out).2.2 (Kd.R_reads' RS.out).2.1 TD.out.sameX).mono ?_); rintro e w19 ⟨rfl, hb⟩; have S11 := ak (S10.out.later hb); clear hb))
      clear KF1 S9 S10 RS
      rcases S11.out.net with ⟨cn, epv⟩ | ⟨cn, p, vn, epv, hp0, hbp, hrn⟩
      · subst epv
        go_wp2
        go_ret
        exact ⟨rfl, S11.out.below⟩
      · subst epv
        obtain ⟨An, ccn, evn⟩ := Kd.R_slice hrn
        subst evn
        go_wp2
        have BW := ak S11.out.below
        have BG := ak S11.out.bg
        have BP := ak hbp
        have RN := ak (Kd.R_lower hrn LO.out)
        have CN := (Kd.R_reads' hrn)
        have CL := ak CN.2.1
        have NF := ak (fun (W' : World) (hb : Below w19.heap.size w19 W') => (⟨blk_below hbp hb, Kd.C_below CN.2.2 hb⟩ : W'.heap[p]? = some (.cells #[.int .i64 n, .slice An E.length ccn] 44 (0, 0)) ∧ Kd.C k39 W' An E.length E))
        have BL := ak (Below.refl w19.heap.size w19)
        have FEW := ak (TD.out.few cn)
        clear hrn hbp CN S11 hp0 cn
        refine region_join (σ := Nat × Nat × Value × Value) (fun s => [(72, .pointer (some ⟨p, 0, none⟩)), (73, .pointer (some ⟨p, 0, none⟩)), (74, .pointer (some ⟨p, 0, none⟩)), (75, .agg #[.int .i64 n, s.2.2.1]), (76, .pointer (some ⟨p, 0, none⟩)), (77, .pointer (some ⟨p, 0, none⟩)), (78, .pointer (some ⟨p, 0, none⟩)), (79, .agg #[.int .i64 n, s.2.2.2]), (8, .pointer (some ⟨s.1, 0, none⟩)), (9, .pointer (some ⟨s.2.1, 0, none⟩))]) (fun s W' => AB w n A cE E gg p s.1 s.2.1 (.slice An E.length ccn) s.2.2.1 s.2.2.2 E W') ?_ ?_
        · go_region_held3 (fun w' => True) (trivial)
            (first
              | (go_at_call 16; have RA0 := RA; (with_reducible refine (shape_Plain.calls k p n An ccn E _ (NF.out _ lb).1 (NF.out _ lb).2 CL.out LN.out).mono ?_); rintro e w21 ⟨vb, rfl, rb, hb⟩; obtain ⟨Ab, cb, evb⟩ := Kd.R_slice rb; subst evb; have RB := ak rb; have HB := ak hb; have BL2 := ak (below_step (show Below w19.heap.size w19 _ from lb) hb); (first | (have nbx := nb200 w19.drew HA.out hb) | (have nbx := nb110 w19.drew HA.out hb) | (have nbx := nb101 w19.drew HA.out hb) | (have nbx := nb020 w20 hb) | (have nbx := nb011 w20 hb) | (have nbx := nb002 w21)); obtain ⟨nb1, nb2, nlt, nbo⟩ := nbx; have NB1 := ak nb1; have NB2 := ak nb2; have NLT := ak nlt; have ne1 := Nat.ne_of_lt nlt; have ne2 := Nat.ne_of_gt nlt; have q0 := bc0 NB1; have q1 := bc1 NB1; have q2 := bc0 NB2; have q3 := bc1 NB2; have q4 := bf NB1 0; have q5 := bf NB1 1; have q6 := bf NB2 0; have q7 := bf NB2 1; have o0 := fun o => bc0 (ak (nbo o)); have o1 := fun o => bc1 (ak (nbo o)); have o2 := fun o => bf (ak (nbo o)) 0; have o3 := fun o => bf (ak (nbo o)) 1; have p0 := q0; have p1 := q1; have p2 := q2; have p3 := q3; have p4 := q4; have p5 := q5; have p6 := q6; have p7 := q7; have m1 := ne1; have m2 := ne2; (try simp only [World.size_alloc, World.size_drew] at p0 p1 p2 p3 p4 p5 p6 p7 m1 m2 o0 o1 o2 o3); clear rb hb nb1 nb2 nlt nbo)
              | (go_at_call 16; (with_reducible refine (shape_Plain.calls k p n An ccn E _ (NF.out _ lb).1 (NF.out _ lb).2 CL.out LN.out).mono ?_); rintro e w20 ⟨va, rfl, ra, hb⟩; obtain ⟨Aa, ca, eva⟩ := Kd.R_slice ra; subst eva; have RA := ak ra; have HA := ak hb; have BL1 := ak (below_step (show Below w19.heap.size w19 _ from lb) hb); clear ra hb))
          all_goals (
            refine ⟨(?_, ?_, ?_, ?_), ?_, ?_⟩
            rotate_left 5
            · simp only [putAll, Act.put, List.setIfInBounds_toArray, List.set_cons_zero, List.set_cons_succ]
              rfl
            have s20 := below_size BL1.out
            have s21 := below_size BL2.out
            have s22 := HB.out.size
            have s23 := HA.out.size
            have nlt := NLT.out
            simp only [World.size_alloc, World.size_drew] at NB1 NB2 nlt s22 s23
            try dsimp only
            first
              | refine AB.cast (AB.made (Wl := w21) BW.out BG.out BP.out RN.out lb (by first | exact NB1.out | exact NB2.out) (by first | exact NB1.out | exact NB2.out) (by omega) (by omega) (by omega) (Kd.R_lower (rx (Kd.R_below (rx RA.out) HB.out)) (by (try simp only [World.size_alloc, World.size_drew]); omega)) (Kd.R_lower (rx (Kd.R_new' RB.out (fun k hk => Kd.R_lt (rx RA.out) k hk))) (Nat.le_trans (below_size BW.out) (by (try simp only [World.size_alloc, World.size_drew]); omega)))) (by first | rfl | (go_simp; done) | (go_simp; rfl))
              | refine AB.cast (AB.made (Wl := (w21.alloc (.cells #[.int .i64 0, .slice none 0 0] 24 (0, 0)))) BW.out BG.out BP.out RN.out lb (by first | exact NB1.out | exact NB2.out) (by first | exact NB1.out | exact NB2.out) (by omega) (by omega) (by omega) (Kd.R_lower (rx (Kd.R_below (rx RA.out) HB.out)) (by (try simp only [World.size_alloc, World.size_drew]); omega)) (Kd.R_lower (rx (Kd.R_new' RB.out (fun k hk => Kd.R_lt (rx RA.out) k hk))) (Nat.le_trans (below_size BW.out) (by (try simp only [World.size_alloc, World.size_drew]); omega)))) (by first | rfl | (go_simp; done) | (go_simp; rfl))
              | refine AB.cast (AB.made (Wl := ((w21.alloc (.cells #[.int .i64 0, .slice none 0 0] 24 (0, 0))).alloc (.cells #[.int .i64 0, .slice none 0 0] 24 (0, 0)))) BW.out BG.out BP.out RN.out lb (by first | exact NB1.out | exact NB2.out) (by first | exact NB1.out | exact NB2.out) (by omega) (by omega) (by omega) (Kd.R_lower (rx (Kd.R_below (rx RA.out) HB.out)) (by (try simp only [World.size_alloc, World.size_drew]); omega)) (Kd.R_lower (rx (Kd.R_new' RB.out (fun k hk => Kd.R_lt (rx RA.out) k hk))) (Nat.le_trans (below_size BW.out) (by (try simp only [World.size_alloc, World.size_drew]); omega)))) (by first | rfl | (go_simp; done) | (go_simp; rfl)))
        · rintro ⟨ga, gb, va, vb⟩ w22 S1
          dsimp only at S1
          have S2 := ak S1
          clear S1
          obtain ⟨Aa, ca, eva⟩ := Kd.R_slice S2.out.ra
          subst eva
          obtain ⟨Ab, cb, evb⟩ := Kd.R_slice S2.out.rb
          subst evb
          simp only [putAll, Act.put, List.setIfInBounds_toArray, List.set_cons_zero, List.set_cons_succ]
          clear NF BL BW BG BP RN
          have k0 := S2.out.a1
          go_wp2
          clear k0
          go_loopg [83] E.length (fun kq v83 w' => ∃ (i : Nat) (Y : List S39), v83 = .int .i64 (i : Int) ∧ Aside0 (kq + i = E.length) ∧ Aside0 (Y.length = E.length) ∧ Aside0 (AB w n A cE E gg p ga gb (.slice An E.length ccn) (.slice Aa E.length ca) (.slice Ab E.length cb) Y w'))
          case atStart => exact ⟨0, _, rfl, ⟨rfl⟩, ⟨rfl⟩, S2⟩
          case round =>
            clear S2
            obtain ⟨i, Y, rfl, HK, HY, S3⟩ := hrel
            by_cases c1 : i < E.length
            · have c1a : decide (i < E.length) = true := decide_eq_true c1
              have c1b : decide ((i : Int) < (E.length : Int)) = true := decide_eq_true (by omega)
              obtain ⟨bq, cq, e, -⟩ := Kd.R_form S3.out.ra (by rw [HY.out]; omega)
              injection e with e1 e2 e3
              subst e1
              clear e2 e3
              have k0 := S3.out.a1
              obtain ⟨⟨k1, k2, k3, k4⟩, k5, k6, k7, k8⟩ := S3.out.cells (i : Int) (by omega) (by omega)
              have VS := ak (S3.out.put (i : Int) (by omega) (by omega) 0 0 (-5) 0)
              rw [Int.toNat_natCast] at k1 k2 k3 k4 k5 k6 k7 k8 VS
              have hw1 : Go.RowKit.wrap64 ((i : Int) + 1) = ((i + 1 : Nat) : Int) := by have := LN.out; unfold Go.RowKit.wrap64; omega
              go_wp2
              go_roundg (E.length - (i + 1))
              case measure => have := HK.out; omega
              case rel => exact ⟨i + 1, _, by first | (rw [hw1]; done) | (simp only [i64_w, hw1]; done) | (go_num; rw [hw1]; done), ⟨by have := HK.out; omega⟩, ⟨by rw [List.length_set]; exact HY.out⟩, VS⟩
            · have c1a : decide (i < E.length) = false := decide_eq_false c1
              have c1b : decide ((i : Int) < (E.length : Int)) = false := decide_eq_false (by omega)
              clear c1
              go_wp2
              clear c1a c1b
              have HY0 := ak (show Y.length = E.length + 0 from HY.out)
              clear HY
              go_loopg [11] 8 (fun kq v11 w' => ∃ (i : Nat) (va : Value) (Y : List S39), v11 = .int .i64 (i : Int) ∧ Aside0 (kq + i = 8) ∧ Aside0 (Y.length = E.length + i) ∧ Aside0 (AB w n A cE E gg p ga gb (.slice An E.length ccn) va (.slice Ab E.length cb) Y w'))
              case atStart => exact ⟨0, _, _, rfl, ⟨rfl⟩, HY0, S3⟩
              case round =>
                clear S3 HY0 HK Y
                obtain ⟨i2, va, Y, rfl, HK, HY, S3⟩ := hrel
                obtain ⟨Ac, cc, evc⟩ := Kd.R_slice S3.out.ra
                subst evc
                by_cases c1 : i2 < 8
                · have c1a : decide (i2 < 8) = true := decide_eq_true c1
                  have c1b : decide ((i2 : Int) < 8) = true := decide_eq_true (by omega)
                  have hw1 : Go.RowKit.wrap64 ((i2 : Int) + 1) = ((i2 + 1 : Nat) : Int) := by unfold Go.RowKit.wrap64; omega
                  have aL0 : (Y.length + 1) * 32 ≤ 140737488355328 := by have := FEW.out; have := HY.out; omega
                  have AL := ak aL0
                  clear aL0
                  have k0 := S3.out.a1
                  go_wp2_with (first
                    | ((with_reducible refine gate_builtin (b := .append) (xs := #[.tmp 97, .tmp 99]) rfl ?_); at_builtin; refine Kd.R_append k39 (w0 := w) w.heap.size rfl (.tmp 97) (.tmp 99) 22 39 (.agg #[(.int .i64 0), (.int .i64 0), (.int .i64 0), (.int .i64 0)]) 32 rfl Try.underlying22 info39 rfl (by decide) (by omega) (.slice Ac Y.length cc) Y (⟨0, 0, -5, 0⟩ : S39) [.int .i64 0, .int .i64 0, .int .i64 (-5), .int .i64 0] (fun _ => True) (fun _ => False) rfl (by first | (go_simp; done) | (go_simp; rfl)) ?aP (fun _ hk => hk.elim) (fun _ _ => trivial) ?aO ?aB ?aS ?aL ?_; (case aP => exact k39_mkM _ _ _ (⟨0, 0, -5, 0⟩ : S39)); (case aB => exact S3.out.below); (case aO => exact S3.out.ra); (case aS => exact below_size S3.out.below); (case aL => exact AL.out); intro v7 w7 ho7 hb7 hg7 hat7; obtain ⟨A7, c7, e7⟩ := Kd.R_slice ho7; subst e7; have S4 := ak (S3.out.grow ho7 hb7 hg7 hat7); have ba7 := blk_grown S3.out.ba hg7 (Kd.R_ne S3.out.ra S3.out.ba (by decide)); have k8 : w7.cell? ⟨ga, 1, none⟩ = some (.slice Ac Y.length cc) := (blk_cell ba7 1).trans rfl; have k9 := blk_frozen ba7 1; clear ba7 ho7 hb7 hg7 hat7))
                  go_roundg (8 - (i2 + 1))
                  case measure => have := HK.out; omega
                  case rel => exact ⟨i2 + 1, .slice A7 (Y.length + 1) c7, Y ++ [⟨0, 0, -5, 0⟩], by first | (rw [hw1]; done) | (simp only [i64_w, hw1]; done) | (go_num; done) | (go_num; rw [hw1]; done), ⟨by have := HK.out; omega⟩, ⟨by have := HY.out; rw [List.length_append, List.length_singleton]; omega⟩, by have q := S4; simp only [List.length_append, List.length_singleton] at q; exact q⟩
                · have c1a : decide (i2 < 8) = false := decide_eq_false c1
                  have c1b : decide ((i2 : Int) < 8) = false := decide_eq_false (by omega)
                  clear c1
                  go_wp2
                  clear c1a c1b
                  have KF1 := ak (fun (W' : World) (hb : Below wr.heap.size wr W') => S3.out.four hb)
                  go_region_held3 (fun w' => w'.cell? ⟨gg, 0, none⟩ = some (.int .i64 n) ∧ w'.cell? ⟨gg, 1, none⟩ = some (.slice A E.length cE) ∧ w'.cell? ⟨gb, 0, none⟩ = some (.int .i64 n) ∧ w'.cell? ⟨gb, 1, none⟩ = some (.slice Ab E.length cb)) (first | exact S7.out.four (Below.refl _ _) | exact S6.out.four (Below.refl _ _) | exact S5.out.four (Below.refl _ _) | exact KF1.out _ (Below.refl _ _) | exact KF1.out _ (below_drew (Below.refl _ _)))
                    (first
                      | (go_at_call 12; (with_reducible refine (compassref03_Same.calls k n _ _ E n _ _ E true _ (Kd.R_reads' RP.out).2.2 (Kd.R_reads' RP.out).2.1 (Kd.C_below HR.out S6.out.below) HC.out SM.out).mono ?_); rintro e w27 ⟨rfl, hb⟩; have S7 := ak (S6.out.later hb); clear hb)
                      | (go_at_call 16; (with_reducible refine (shape_Plain.calls k p n An ccn E _ S5.out.bp (Kd.R_reads' S5.out.rn).2.2 CL.out LN.out).mono ?_); rintro e w26 ⟨vp, rfl, rp, hb⟩; obtain ⟨Ap, cp, evp⟩ := Kd.R_slice rp; subst evp; have RP := ak rp; have S6 := ak (S5.out.later hb); clear hb rp)
                      | (go_at_call 12; (with_reducible refine (compassref03_Same.calls k n _ _ E n _ _ E true _ (Kd.C_below (Kd.R_reads' S3.out.rb).2.2 (below_drew (Below.refl _ _))) (Kd.R_reads' S3.out.rb).2.1 (Kd.C_below HR.out (below_drew S3.out.below)) HC.out SM.out).mono ?_); rintro e w25 ⟨rfl, hb⟩; have S5 := ak (S3.out.later (below_step (below_drew (Below.refl _ _)) hb)); clear hb))
                  go_wp2
                  go_ret
                  exact ⟨rfl, S7.out.below⟩
def compasslaw03_GraphKeeps.f (k : Nat) (n : Int) (E : List S39) : Prop := ∃ X c a a0, compasslaw03_GraphKeeps.Told k n E X c a a0
theorem compasslaw03_GraphKeeps.calls (k : Nat) (n : Int) (A : Option Addr) (cE : Nat) (E : List S39) (r : Bool) (w : World) (hr : Kd.C k39 w A E.length E) (hc : E.length ≤ cE) (hr_ : r = true) (h : compasslaw03_GraphKeeps.f k n E) :
    Calls Try.prog 4 #[.agg #[.int .i64 n, .slice A E.length cE]] w fun e w' => e = .returned (.bool r) ∧ Below w.heap.size w w' := by
  subst hr_
  obtain ⟨X, c, a, a0, TD⟩ := h
  exact compasslaw03_GraphKeeps.walk k n A cE E w hr hc X c a a0 TD
end Go.Proofs.Ytpmclhkednehhaa.Q
