/- EulerKeeps: the walk, typed by hand after chapter 04's. -/
import Derived.Test.YtplbkggdnonfbaaQ33
set_option linter.unusedVariables false
set_option linter.unusedSimpArgs false
namespace Go.Proofs.Ytplbkggdnonfbaa.Q
open Go.RowKit Go.Proofs.YtplbkggdnonfbaaW.PrintWords Go.Proofs.YtplbkggdnonfbaaW.PrintLast Go.Proofs.YtplbkggdnonfbaaW.PrintMore
def compasslaw09_EulerKeeps.f (k : Nat) (n : Int) (E : List S45) (d : Bool) : Prop := ∃ st L v c b, compasslaw09_EulerKeeps.Told k n E d st L v c b
set_option maxHeartbeats 8000000 in
set_option maxRecDepth 100000 in
theorem compasslaw09_EulerKeeps.calls (k : Nat) (n : Int) (A : Option Addr) (cE : Nat) (E : List S45) (d : Bool) (r : Bool) (w : World) (hr0 : Kd.C k45 w A E.length E) (hc0 : E.length ≤ cE) (hr_ : r = true) (h : compasslaw09_EulerKeeps.f k n E d) :
    Calls Try.prog 7 #[.agg #[.int .i64 n, .slice A E.length cE], .bool d] w fun e w' => e = .returned (.bool r) ∧ Below w.heap.size w w' := by
  subst hr_
  obtain ⟨st, L, v, c, bo, TD0⟩ := h
  have TD := ak TD0
  clear TD0
  have hu24 := Try.underlying24
  have hu22 := Try.underlying22
  have hu45 := Try.underlying45
  have hu28 := Try.underlying28
  have hu26 := Try.underlying26
  have hu51 := Try.underlying51
  have HR := ak hr0
  have HC := ak hc0
  clear hr0 hc0
  have HB := ak (Below.refl w.heap.size w)
  go_enter Try.func7, Try.ntmps7
  go_wp2_with (first
    | ((with_reducible refine gate_dst (N := 2) rfl ?_); refine box_event ?hg (N := 2) ?hd (cs := #[.int .i64 n, .slice A E.length cE]) (t := 24) ?hr ?_; (case hd => rfl); (case hg => rfl); (case hr => first | (go_simp; done) | (go_simp; rfl)); intro gg hg w1 bg hb; have HB1 := ak (below_step HB.out hb); have BG := ak bg; clear hb bg hg)
    | (go_at_call 8; (with_reducible refine (compasslaw09_awake.calls k true _ TD.out.awake).mono ?_); rintro e w2 ⟨rfl, hb⟩; have HB2 := ak (below_step HB1.out hb); have BG2 := ak (blk_below BG.out hb); have k0 := bc0 BG2; have k1 := bc1 BG2; clear hb)
    | (go_at_call 18; (with_reducible refine (compassref03_Copy.calls k n _ _ E n E _ (Kd.C_below HR.out HB2.out) HC.out TD.out.copy).mono ?_); rintro e w3 ⟨v3, rfl, r3, hb⟩; obtain ⟨A3, c3, e3⟩ := Kd.R_slice r3; subst e3; have HB3 := ak (below_step HB2.out hb); have BG3 := ak (blk_below BG2.out hb); have R3 := ak (Kd.R_lower r3 (below_size HB2.out)); clear hb r3)
    | ((with_reducible refine gate_dst (N := 5) rfl ?_); refine box_event ?hg (N := 5) ?hd (cs := #[.int .i64 0, .slice none 0 0]) (t := 24) ?hr ?_; (case hd => rfl); (case hg => rfl); (case hr => first | (go_simp; done) | (go_simp; rfl)); intro gm hg w4 bm hb; have HB4 := ak (below_step HB3.out hb); have BM4 := ak bm; have GM := ak (show w.heap.size ≤ gm by rw [hg]; exact below_size HB3.out); have NB := ak (show gg ≠ gm by rw [hg]; exact Nat.ne_of_lt (blk_lt BG3.out)); have BG4 := ak (blk_below BG3.out hb); have R4 := ak (Kd.R_below R3.out hb); clear hb bm hg; have k2 := bf BM4 0; have k3 := bf BM4 1; have k4 := bc0 BM4; have k5 := bc1 BM4)
    | ((with_reducible refine gate_store (t := 24) (p := 5) rfl ?_); refine store_event (t := 24) (p := 5) (v := ?vo5) (w1 := (w4.setCell ⟨gm, 0, none⟩ (.int .i64 n)).setCell ⟨gm, 1, none⟩ (.slice A3 E.length c3)) ?hg ?ho ?hn ?hr ?_; (case ho => rfl); (case hg => rfl); (case hn => rfl); (case hr => first | (go_simp; done) | (go_simp; rfl)); intro w5 hw; have HB5 := ak (show Below w.heap.size w w5 by rw [hw]; exact below_set (below_set HB4.out GM.out) GM.out); have BG5 := ak (show w5.heap[gg]? = some (.cells #[.int .i64 n, .slice A E.length cE] 24 (0, 0)) by rw [hw]; exact blk_far (blk_far BG4.out NB.out _) NB.out _); have BM5 := ak (show w5.heap[gm]? = some (.cells #[.int .i64 n, .slice A3 E.length c3] 24 (0, 0)) by rw [hw]; exact blk_put (blk_put BM4.out 0 _ rfl) 1 _ rfl); have R5 := ak (show Kd.R k45 45 w5 w.heap.size (fun _ => True) (.slice A3 E.length c3) E by rw [hw]; exact Kd.R_set (Kd.R_set R4.out BM4.out (by decide) 0 _) (blk_put BM4.out 0 _ rfl) (by decide) 1 _); clear hw))
  clear k0 k1 k2 k3 k4 k5
  clear HB1 HB2 HB3 HB4 BG BG2 BG3 BG4 BM4 R3 R4
  have HB6 := ak (show Below w.heap.size w w5.drew from below_drew HB5.out)
  have BG6 := ak (blk_drew BG5.out)
  have BM6 := ak (blk_drew BM5.out)
  have R6 := ak (Kd.R_drew R5.out)
  clear HB5 BG5 BM5 R5
  refine start_ (n := 11) (S := fun w' => w'.cell? ⟨gm, 1, none⟩ = some (.slice A3 E.length c3) ∧ w'.cell? ⟨gg, 1, none⟩ = some (.slice A E.length cE)) (ds := [10]) #[false, false, false, false, false, false, false, false, false, false, false] (by kernel_rfl) rfl rfl ⟨bc1 BM6, bc1 BG6⟩ (fun hHeld => ?_); refine with_tabW compasslaw09_EulerKeeps.tab4 compasslaw09_EulerKeeps.bits4 (fun HT_ HW_ => ?_)
  generalize w5.drew = w6 at HB6 BG6 BM6 R6 hHeld ⊢
  refine pure_ (i := 0) (N := some 17) (v := ?_) (a' := ?_) #[true, false, false, false, false, false, false, false, false, false, false] rfl rfl (any_of HT_.out (by kernel_rfl)) (fun _ _ _ h => h) (Or.inl ⟨by rfl, ?_⟩) ?_ ?_; rotate_left; intro w'; go_simp; with_reducible rfl; rotate_left; simp only [Act.put, List.setIfInBounds_toArray, List.set_cons_zero, List.set_cons_succ, i64_w, i32_w]; rfl
  refine pure_ (i := 2) (N := some 19) (v := ?_) (a' := ?_) #[true, false, true, false, false, false, false, false, false, false, false] rfl rfl (any_of HT_.out (by kernel_rfl)) (fun _ _ _ h => h) (Or.inl ⟨by rfl, ?_⟩) ?_ ?_; rotate_left; intro w'; go_simp; with_reducible rfl; rotate_left; simp only [Act.put, List.setIfInBounds_toArray, List.set_cons_zero, List.set_cons_succ, i64_w, i32_w]; rfl
  refine pure_ (i := 5) (N := some 22) (v := ?_) (a' := ?_) #[true, false, true, false, false, true, false, false, false, false, false] rfl rfl (any_of HT_.out (by kernel_rfl)) (fun _ _ _ h => h) (Or.inl ⟨by rfl, ?_⟩) ?_ ?_; rotate_left; intro w'; go_simp; with_reducible rfl; rotate_left; simp only [Act.put, List.setIfInBounds_toArray, List.set_cons_zero, List.set_cons_succ, i64_w, i32_w]; rfl
  refine take_ (i := 1) (N := some 18) (v := ?_) (a' := ?_) #[true, true, true, false, false, true, false, false, false, false, false] rfl rfl (take_ofW HT_.out HW_.out (by kernel_rfl)) (fun _ _ _ h => h) (Or.inl ⟨by rfl, ?_⟩) hHeld ?_ ?_; rotate_left; rintro w' ⟨s0, s1⟩; go_simp; with_reducible rfl; rotate_left; simp only [Act.put, List.setIfInBounds_toArray, List.set_cons_zero, List.set_cons_succ, i64_w, i32_w]; rfl
  refine take_ (i := 6) (N := some 23) (v := ?_) (a' := ?_) #[true, true, true, false, false, true, true, false, false, false, false] rfl rfl (take_ofW HT_.out HW_.out (by kernel_rfl)) (fun _ _ _ h => h) (Or.inl ⟨by rfl, ?_⟩) hHeld ?_ ?_; rotate_left; rintro w' ⟨s0, s1⟩; go_simp; with_reducible rfl; rotate_left; simp only [Act.put, List.setIfInBounds_toArray, List.set_cons_zero, List.set_cons_succ, i64_w, i32_w]; rfl
  refine pure_ (i := 7) (N := some 24) (v := ?_) (a' := ?_) #[true, true, true, false, false, true, true, true, false, false, false] rfl rfl (any_of HT_.out (by kernel_rfl)) (fun _ _ _ h => h) (Or.inl ⟨by rfl, ?_⟩) ?_ ?_; rotate_left; intro w'; go_simp; with_reducible rfl; rotate_left; simp only [Act.put, List.setIfInBounds_toArray, List.set_cons_zero, List.set_cons_succ, i64_w, i32_w]; rfl
  refine one_ (i := 3) (N := some 20) #[true, true, true, true, false, true, true, true, false, false, false] rfl rfl (one_of HT_.out (by kernel_rfl)) (by decide) (fun K hK => ?_)
  refine value_ (w1 := ?_) (v := ?_) (by rfl) rfl ?_ ?_
  rotate_left 2
  ·
   go_simp
   constructor
   ·
    rfl
   ·
    rfl
  refine hK.out _ _ ⟨(blk_cell (blk_alloc BM6.out _) 1).trans rfl, (blk_cell (blk_alloc BG6.out _) 1).trans rfl⟩ (fun hHeld => ?_)
  clear hK K
  refine norm_ (a' := ?_) ?_ ?_
  rotate_left
  ·
   show Act.put _ (some 20) _ = _
   simp only [Act.put, List.setIfInBounds_toArray, List.set_cons_zero, List.set_cons_succ, i64_w, i32_w]
   rfl
  refine one_ (i := 4) (N := some 21) #[true, true, true, true, true, true, true, true, false, false, false] rfl rfl (one_of HT_.out (by kernel_rfl)) (by decide) (fun K hK => ?_)
  refine Kd.R_append_step k45 (w0 := w) w.heap.size (by rfl) (.tmp 18) (.tmp 20) 22 45 (.agg #[(.int .i64 0), (.int .i64 0), (.int .i64 0), (.int .i64 0)]) 32 rfl Try.underlying22 info45 rfl (by decide) (by omega) (.slice A3 E.length c3) E z7 [.int .i64 0, .int .i64 0, .int .i64 (-7), .int .i64 0] (fun _ => True) (fun _ => False) rfl rfl ?aP (fun _ hk => hk.elim) ?aF ?aO ?aB ?aS ?aL ?_
  (case aP => exact k45_mkM _ _ _ z7)
  (case aB => exact HB6.out)
  (case aF => exact (fun _ _ => trivial))
  (case aO => exact R6.out)
  (case aS => exact below_size HB6.out)
  (case aL => have := TD.out.len; omega)
  intro v7 w7 ho hb hg hat
  obtain ⟨b, cm, e7, gb, -⟩ := Kd.R_form ho (by simp)
  rw [List.length_append] at e7
  subst e7
  have BG7 := ak (blk_grown BG6.out hg (Kd.R_ne R6.out BG6.out (by decide)))
  have BM7 := ak (blk_grown BM6.out hg (Kd.R_ne R6.out BM6.out (by decide)))
  have HB7 := ak hb
  have R7 := ak (show Kd.R k45 45 w7 w.heap.size (fun _ => True) (.slice (some ⟨b, 0, none⟩) (E.length + 1) cm) (E ++ [z7]) from ho)
  clear HB6 BG6 BM6 R6 ho hb hg hat
  have lc := (Kd.R_reads' R7.out).2.1
  refine hK.out _ _ ⟨bc1 BM7, bc1 BG7⟩ (fun hHeld => ?_)
  clear hK K
  refine norm_ (a' := ?_) ?_ ?_
  rotate_left
  ·
   show Act.put _ (some 21) _ = _
   simp only [Act.put, List.setIfInBounds_toArray, List.set_cons_zero, List.set_cons_succ, i64_w, i32_w]
   rfl

  refine pure_ (i := 8) (N := some 25) (v := ?_) (a' := ?_) #[true, true, true, true, true, true, true, true, true, false, false] rfl rfl (any_of HT_.out (by kernel_rfl)) (fun _ _ _ h => h) (Or.inl ⟨by rfl, ?_⟩) ?_ ?_; rotate_left; intro w'; go_simp; rw [if_pos (show E.length ≤ cm by omega)]; rotate_left; simp only [Act.put, List.setIfInBounds_toArray, List.set_cons_zero, List.set_cons_succ, i64_w, i32_w]; rfl
  refine pure_ (i := 9) (N := some 26) (v := ?_) (a' := ?_) #[true, true, true, true, true, true, true, true, true, true, false] rfl rfl (any_of HT_.out (by kernel_rfl)) (fun _ _ _ h => h) (Or.inl ⟨by rfl, ?_⟩) ?_ ?_; rotate_left; intro w'; go_simp; with_reducible rfl; rotate_left; simp only [Act.put, List.setIfInBounds_toArray, List.set_cons_zero, List.set_cons_succ, i64_w, i32_w]; rfl
  refine last_ (i := 10) (N := none) #[true, true, true, true, true, true, true, true, true, true, true] rfl rfl (one_of HT_.out (by kernel_rfl)) (by decide) (fun K hK => ?_)
  have k2 := bf BM7 1
  have k3 := bc1 BM7
  refine skip_ (w1 := ?_) (by rfl) rfl ?_ ?_
  rotate_left
  ·
   go_simp
   rfl
  refine hK.out _ _ ?_
  clear hK K
  refine done_ (done_of HT_.out (by kernel_rfl)) ?_
  have K0 := ak (show KS w n A cE E gg gm b cm (w7.setCell ⟨gm, 1, none⟩ (.slice (some ⟨b, 0, none⟩) E.length cm)) from ⟨below_set HB7.out GM.out, blk_far BG7.out NB.out _, blk_put BM7.out 1 _ rfl, Kd.R_set R7.out BM7.out (by decide) 1 _⟩)
  generalize w7.setCell ⟨gm, 1, none⟩ (.slice (some ⟨b, 0, none⟩) E.length cm) = w8 at K0 ⊢
  have LE := ak (show E.length ≤ cm by omega)
  clear k2 k3 HB7 BG7 BM7 R7 HT_ HW_ hHeld lc GM NB gb HB
  have k0 := K0.out.m0
  have k1 := K0.out.m1
  have tok1 : True := trivial
  go_wp2_with (first
    | (go_at_call 9; have _t := tok1; (with_reducible refine (euler_Tour.calls k n _ _ E d st L v c _ K0.out.mine LE.out TD.out.tour).mono ?_); rintro e w9 ⟨va, rfl, ra, hb⟩; obtain ⟨Aa, ca, ea⟩ := Kd.R_slice ra; subst ea; have K1 := ak (K0.out.later hb); have RA1 := ak (Kd.R_lower ra (below_size K0.out.below)); clear hb ra tok1 _t)
    | ((with_reducible refine gate_dst (N := 6) rfl ?_); refine box_event ?hg (N := 6) ?hd (cs := #[.int .i64 0, .slice none 0 0]) (t := 28) ?hr ?_; (case hd => rfl); (case hg => rfl); (case hr => first | (go_simp; done) | (go_simp; rfl)); intro ga hg w10 ba hb; have K2 := ak (K1.out.later hb); have BA2 := ak ba; have GA := ak (show w.heap.size ≤ ga by rw [hg]; exact below_size K1.out.below); have NA := ak (show gg ≠ ga by rw [hg]; exact Nat.ne_of_lt (blk_lt K1.out.bg)); have NM := ak (show gm ≠ ga by rw [hg]; exact Nat.ne_of_lt (blk_lt K1.out.bm)); have RA2 := ak (Kd.R_below RA1.out hb); clear hb ba hg; have k2 := bf BA2 0; have k3 := bf BA2 1; have k4 := bc0 BA2; have k5 := bc1 BA2)
    | ((with_reducible refine gate_store (t := 28) (p := 6) rfl ?_); refine store_event (t := 28) (p := 6) (v := ?vo6) (w1 := (w10.setCell ⟨ga, 0, none⟩ (.int .i64 st)).setCell ⟨ga, 1, none⟩ (.slice Aa L.length ca)) ?hg ?ho ?hn ?hr ?_; (case ho => rfl); (case hg => rfl); (case hn => rfl); (case hr => first | (go_simp; done) | (go_simp; rfl)); intro w11 hw; have K3 := ak (show KS w n A cE E gg gm b cm w11 by rw [hw]; exact (K2.out.put GA.out NA.out NM.out BA2.out _ _)); have BA3 := ak (show w11.heap[ga]? = some (.cells #[.int .i64 st, .slice Aa L.length ca] 28 (0, 0)) by rw [hw]; exact blk_put (blk_put BA2.out 0 _ rfl) 1 _ rfl); have RA3 := ak (show Kd.R k51 51 w11 w.heap.size (fun _ => True) (.slice Aa L.length ca) L by rw [hw]; exact Kd.R_set (Kd.R_set RA2.out BA2.out (by decide) 0 _) (blk_put BA2.out 0 _ rfl) (by decide) 1 _); have k6 := K3.out.m0; have k7 := K3.out.m1; clear hw)
    | (go_at_call 9; (with_reducible refine (euler_Tour.calls k n _ _ E d st L v c _ K3.out.mine LE.out TD.out.tour).mono ?_); rintro e w12 ⟨vb, rfl, rb, hb⟩; obtain ⟨Ab, cb, eb⟩ := Kd.R_slice rb; subst eb; have K4 := ak (K3.out.later hb); have BA4 := ak (blk_below BA3.out hb); have RA4 := ak (Kd.R_below RA3.out hb); have RB4 := ak (Kd.R_lower (Kd.R_new' rb (Kd.R_lt RA3.out)) (below_size K3.out.below)); clear hb rb)
    | ((with_reducible refine gate_dst (N := 9) rfl ?_); refine box_event ?hg (N := 9) ?hd (cs := #[.int .i64 0, .slice none 0 0]) (t := 28) ?hr ?_; (case hd => rfl); (case hg => rfl); (case hr => first | (go_simp; done) | (go_simp; rfl)); intro gb hg w13 bb_ hb; have K5 := ak (K4.out.later hb); have BB5 := ak bb_; have GB := ak (show w.heap.size ≤ gb by rw [hg]; exact below_size K4.out.below); have NB2 := ak (show gg ≠ gb by rw [hg]; exact Nat.ne_of_lt (blk_lt K4.out.bg)); have NM2 := ak (show gm ≠ gb by rw [hg]; exact Nat.ne_of_lt (blk_lt K4.out.bm)); have NC2 := ak (show ga ≠ gb by rw [hg]; exact Nat.ne_of_lt (blk_lt BA4.out)); have BA5 := ak (blk_below BA4.out hb); have RA5 := ak (Kd.R_below RA4.out hb); have RB5 := ak (Kd.R_below RB4.out hb); clear hb bb_ hg; have k8 := bf BB5 0; have k9 := bf BB5 1; have k10 := bc0 BB5; have k11 := bc1 BB5)
    | ((with_reducible refine gate_store (t := 28) (p := 9) rfl ?_); refine store_event (t := 28) (p := 9) (v := ?vo9) (w1 := (w13.setCell ⟨gb, 0, none⟩ (.int .i64 st)).setCell ⟨gb, 1, none⟩ (.slice Ab L.length cb)) ?hg ?ho ?hn ?hr ?_; (case ho => rfl); (case hg => rfl); (case hn => rfl); (case hr => first | (go_simp; done) | (go_simp; rfl)); intro w14 hw; have K6 := ak (show KS w n A cE E gg gm b cm w14 by rw [hw]; exact (K5.out.put GB.out NB2.out NM2.out BB5.out _ _)); have S6 := ak (show AS w n A cE E gg ga gb st (.slice Aa L.length ca) (.slice Ab L.length cb) L L w14 by rw [hw]; exact ⟨(K5.out.put GB.out NB2.out NM2.out BB5.out _ _).below, (K5.out.put GB.out NB2.out NM2.out BB5.out _ _).bg, blk_far (blk_far BA5.out NC2.out _) NC2.out _, blk_put (blk_put BB5.out 0 _ rfl) 1 _ rfl, Kd.R_set (Kd.R_set RA5.out BB5.out (by decide) 0 _) (blk_put BB5.out 0 _ rfl) (by decide) 1 _, Kd.R_mono (Kd.R_set (Kd.R_set RB5.out BB5.out (by decide) 0 _) (blk_put BB5.out 0 _ rfl) (by decide) 1 _) (fun _ hk => hk.2)⟩); have k12 := K6.out.m0; have k13 := K6.out.m1; have k14 := S6.out.b0; have k15 := S6.out.b1; clear hw)
    | (go_at_call 15; (with_reducible refine (euler_Covers.calls k n _ _ E st _ _ L d bo _ K6.out.mine LE.out (Kd.R_reads' S6.out.rb).2.2 (Kd.R_reads' S6.out.rb).2.1 TD.out.covers).mono ?_); rintro e w15 ⟨rfl, hb⟩; have K7 := ak (K6.out.later hb); have S7 := ak (S6.out.later hb); clear hb))
  clear k0 k1 k2 k3 k4 k5 k6 k7 k8 k9 k10 k11 k12 k13 k14 k15
  clear K0 K1 K2 K3 K4 K5 K6 S6 BA2 BA3 BA4 BA5 BB5 RA1 RA2 RA3 RA4 RA5 RB4 RB5 NA NM NB2 NM2 NC2 GA GB
  have KF := fun (W' : World) (hb : Below w15.heap.size w15 W') => K7.out.five hb
  have KF0 := ak KF
  clear KF
  have lm := TD.out.len
  have lk := K7.out.len
  have b1 : IntKind.i64.wrap ((E.length : Int) + 1) = (E.length : Int) + 1 := by rw [i64_w]; unfold Go.RowKit.wrap64; omega
  have b2 : (0 : Int) ≤ (E.length : Int) + 1 := by omega
  have b3 : (E.length : Int) + 1 ≤ (cm : Int) := by omega
  have b4 : (0 : Int) ≤ (E.length : Int) := by omega
  have b5 : (E.length : Int) < (E.length : Int) + 1 := by omega
  have b6 : ((E.length : Int) + 1).toNat = E.length + 1 := by omega
  have b7 : E.length + 1 ≤ cm := by omega
  clear lm lk
  go_region_held3 (fun w' => w'.cell? ⟨gm, 0, none⟩ = some (.int .i64 n) ∧ w'.cell? ⟨gm, 1, none⟩ = some (.slice (some ⟨b, 0, none⟩) E.length cm) ∧ w'.cell? ⟨gg, 0, none⟩ = some (.int .i64 n) ∧ w'.cell? ⟨gg, 1, none⟩ = some (.slice A E.length cE) ∧ w'.cell? ⟨b, E.length * 4 + 2, none⟩ = some (.int .i64 (-7))) (first | exact KF0.out _ (Below.refl _ _) | exact KF0.out _ (below_drew (Below.refl _ _)) | exact KF0.out _ (pw_below_drewN (Below.refl _ _) _) | exact K8.out.five (Below.refl _ _) | exact K8.out.five (below_drew (Below.refl _ _)))
    (first | (go_at_call 19; (with_reducible refine (compassref03_Same.calls k n _ _ E n _ _ E true _ (Kd.C_below K7.out.mine (below_drew (Below.refl _ _))) LE.out (Kd.C_below HR.out (below_drew K7.out.below)) HC.out TD.out.same).mono ?_); rintro e w16 ⟨rfl, hb⟩; have K8 := ak (K7.out.later (below_step (below_drew (Below.refl _ _)) hb)); have bw := ak (below_step (below_drew (Below.refl w15.heap.size w15)) hb); clear hb))
  have S8 := ak (S7.out.later bw.out)
  clear K7 K8 KF0 bw b1 b2 b3 b4 b5 b6 b7 S7 LE
  have k0 := S8.out.a1
  have lL := ak TD.out.lenL
  go_wp2
  clear k0
  go_loopg [68] L.length (fun kq v68 w' => ∃ (i : Nat) (X : List S51), v68 = .int .i64 (i : Int) ∧ Aside0 (kq + i = L.length) ∧ Aside0 (X.length = L.length) ∧ Aside0 (AS w n A cE E gg ga gb st (.slice Aa L.length ca) (.slice Ab L.length cb) X L w'))
  case atStart => exact ⟨0, L, rfl, ⟨rfl⟩, ⟨rfl⟩, S8⟩
  case round =>
    clear S8
    obtain ⟨i, X, rfl, HK, HX, S9⟩ := hrel
    by_cases c1 : i < L.length
    · have c1a : decide (i < L.length) = true := decide_eq_true c1
      have c1b : decide ((i : Int) < (L.length : Int)) = true := decide_eq_true (by omega)
      obtain ⟨bp, cp1, e, -⟩ := Kd.R_form S9.out.ra (by rw [HX.out]; omega)
      injection e with e1 e2 e3
      subst e1
      clear e2 e3
      have k0 := S9.out.a1
      obtain ⟨k1, k2, k3, k4⟩ := S9.out.cells (i : Int) (by omega) (by omega)
      have VS := ak (S9.out.put (i : Int) (by omega) (by omega) (-9) false)
      rw [Int.toNat_natCast] at k1 k2 k3 k4 VS
      have hw1 : Go.RowKit.wrap64 ((i : Int) + 1) = ((i + 1 : Nat) : Int) := by have := lL.out; unfold Go.RowKit.wrap64; omega
      go_wp2
      go_roundg (L.length - (i + 1))
      case measure => have := HK.out; omega
      case rel => exact ⟨i + 1, X.set i ⟨-9, false⟩, by first | (rw [hw1]; done) | (simp only [i64_w, hw1]; done) | (go_num; rw [hw1]; done), ⟨by have := HK.out; omega⟩, ⟨by rw [List.length_set]; exact HX.out⟩, VS⟩
    · have c1a : decide (i < L.length) = false := decide_eq_false c1
      have c1b : decide ((i : Int) < (L.length : Int)) = false := decide_eq_false (by omega)
      clear c1
      have k0 := S9.out.g0
      have k1 := S9.out.g1
      have k2 := S9.out.b0
      have k3 := S9.out.b1
      by_cases c0 : c = 0
      · have c0a : (c == 0) = true := beq_iff_eq.mpr c0
        have c0b : (c != 0) = false := bne_eq_false_iff_eq.mpr c0
        by_cases z0 : n = 0
        · have z0a : (n == 0) = true := beq_iff_eq.mpr z0
          have z0b : decide (n = 0) = true := decide_eq_true z0
          have Z := ak z0
          have CC := ak c0
          clear z0 c0
          go_wp2
          go_ret
          exact ⟨rfl, S9.out.below⟩
        · have z0a : (n == 0) = false := beq_eq_false_iff_ne.mpr z0
          have z0b : decide (n = 0) = false := decide_eq_false z0
          obtain rfl : bo = true := TD.out.yes c0 z0
          have Z := ak z0
          have CC := ak c0
          clear z0 c0
          go_wp2_with (first
            | (go_at_call 15; (with_reducible refine (euler_Covers.calls k n _ _ E st _ _ L d true _ (Kd.C_below HR.out S9.out.below) HC.out (Kd.R_reads' S9.out.rb).2.2 (Kd.R_reads' S9.out.rb).2.1 TD.out.covers).mono ?_); rintro e w20 ⟨rfl, hb⟩; have B20 := ak (below_step S9.out.below hb); clear hb))
          go_ret
          exact ⟨rfl, B20.out⟩
      · have c0a : (c == 0) = false := beq_eq_false_iff_ne.mpr c0
        have c0b : (c != 0) = true := bne_iff_ne.mpr c0
        have CC := ak c0
        clear c0
        go_wp2
        go_ret
        exact ⟨rfl, S9.out.below⟩
end Go.Proofs.Ytplbkggdnonfbaa.Q
