/- WalkKeeps: the walk up to the answers of all callees, typed by hand. -/
import Derived.Test.YtacklfnnpiobgaaQ29
set_option linter.unusedVariables false
set_option linter.unusedSimpArgs false
namespace Go.Proofs.Ytacklfnnpiobgaa.Q
open Go.RowKit Go.Proofs.YtacklfnnpiobgaaW.PrintWords Go.Proofs.YtacklfnnpiobgaaW.PrintLast Go.Proofs.YtacklfnnpiobgaaW.PrintMore
def compasslaw04_WalkKeeps.f (k : Nat) (n : Int) (E : List S41) (s : Int) : Prop := ∃ L T S V P O C c d f x y, compasslaw04_WalkKeeps.Told k n E s L T S V P O C c d f x y
set_option maxHeartbeats 8000000 in
set_option maxRecDepth 100000 in
theorem compasslaw04_WalkKeeps.calls (k : Nat) (n : Int) (A : Option Addr) (cE : Nat) (E : List S41) (s : Int) (r : Bool) (w : World) (hr0 : Kd.C k41 w A E.length E) (hc0 : E.length ≤ cE) (hr_ : r = true) (h : compasslaw04_WalkKeeps.f k n E s) :
    Calls Try.prog 11 #[.agg #[.int .i64 n, .slice A E.length cE], .int .i64 s] w fun e w' => e = .returned (.bool r) ∧ Below w.heap.size w w' := by
  subst hr_
  obtain ⟨L, T, S, V, P, O, C, c, d, f, x, y, TD0⟩ := h
  have TD := ak TD0
  clear TD0
  have hu24 := Try.underlying24
  have hu22 := Try.underlying22
  have hu41 := Try.underlying41
  have HR := ak hr0
  have HC := ak hc0
  clear hr0 hc0
  have HB := ak (Below.refl w.heap.size w)
  go_enter Try.func11, Try.ntmps11
  go_wp2_with (first
    | ((with_reducible refine gate_dst (N := 2) rfl ?_); refine box_event ?hg (N := 2) ?hd (cs := #[.int .i64 n, .slice A E.length cE]) (t := 24) ?hr ?_; (case hd => rfl); (case hg => rfl); (case hr => first | (go_simp; done) | (go_simp; rfl)); intro gg hg w1 bg hb; have HB1 := ak (below_step HB.out hb); have BG := ak bg; clear hb bg hg)
    | (go_at_call 12; (with_reducible refine (compasslaw04_awake.calls k true _ TD.out.awake).mono ?_); rintro e w2 ⟨rfl, hb⟩; have HB2 := ak (below_step HB1.out hb); have BG2 := ak (blk_below BG.out hb); have k0 := bc0 BG2; have k1 := bc1 BG2; clear hb)
    | (go_at_call 27; (with_reducible refine (compassref03_Copy.calls k n _ _ E n E _ (Kd.C_below HR.out HB2.out) HC.out TD.out.copy).mono ?_); rintro e w3 ⟨v3, rfl, r3, hb⟩; obtain ⟨A3, c3, e3⟩ := Kd.R_slice r3; subst e3; have HB3 := ak (below_step HB2.out hb); have BG3 := ak (blk_below BG2.out hb); have R3 := ak (Kd.R_lower r3 (below_size HB2.out)); clear hb r3)
    | ((with_reducible refine gate_dst (N := 5) rfl ?_); refine box_event ?hg (N := 5) ?hd (cs := #[.int .i64 0, .slice none 0 0]) (t := 24) ?hr ?_; (case hd => rfl); (case hg => rfl); (case hr => first | (go_simp; done) | (go_simp; rfl)); intro gm hg w4 bm hb; have HB4 := ak (below_step HB3.out hb); have BM4 := ak bm; have GM := ak (show w.heap.size ≤ gm by rw [hg]; exact below_size HB3.out); have NB := ak (show gg ≠ gm by rw [hg]; exact Nat.ne_of_lt (blk_lt BG3.out)); have BG4 := ak (blk_below BG3.out hb); have R4 := ak (Kd.R_below R3.out hb); clear hb bm hg; have k2 := bf BM4 0; have k3 := bf BM4 1; have k4 := bc0 BM4; have k5 := bc1 BM4)
    | ((with_reducible refine gate_store (t := 24) (p := 5) rfl ?_); refine store_event (t := 24) (p := 5) (v := ?vo5) (w1 := (w4.setCell ⟨gm, 0, none⟩ (.int .i64 n)).setCell ⟨gm, 1, none⟩ (.slice A3 E.length c3)) ?hg ?ho ?hn ?hr ?_; (case ho => rfl); (case hg => rfl); (case hn => rfl); (case hr => first | (go_simp; done) | (go_simp; rfl)); intro w5 hw; have HB5 := ak (show Below w.heap.size w w5 by rw [hw]; exact below_set (below_set HB4.out GM.out) GM.out); have BG5 := ak (show w5.heap[gg]? = some (.cells #[.int .i64 n, .slice A E.length cE] 24 (0, 0)) by rw [hw]; exact blk_far (blk_far BG4.out NB.out _) NB.out _); have BM5 := ak (show w5.heap[gm]? = some (.cells #[.int .i64 n, .slice A3 E.length c3] 24 (0, 0)) by rw [hw]; exact blk_put (blk_put BM4.out 0 _ rfl) 1 _ rfl); have R5 := ak (show Kd.R k41 41 w5 w.heap.size (fun _ => True) (.slice A3 E.length c3) E by rw [hw]; exact Kd.R_set (Kd.R_set R4.out BM4.out (by decide) 0 _) (blk_put BM4.out 0 _ rfl) (by decide) 1 _); clear hw))
  clear k0 k1 k2 k3 k4 k5
  clear HB1 HB2 HB3 HB4 BG BG2 BG3 BG4 BM4 R3 R4
  have HB6 := ak (show Below w.heap.size w w5.drew from below_drew HB5.out)
  have BG6 := ak (blk_drew BG5.out)
  have BM6 := ak (blk_drew BM5.out)
  have R6 := ak (Kd.R_drew R5.out)
  clear HB5 BG5 BM5 R5
  refine start_ (n := 11) (S := fun w' => w'.cell? ⟨gm, 1, none⟩ = some (.slice A3 E.length c3) ∧ w'.cell? ⟨gg, 1, none⟩ = some (.slice A E.length cE)) (ds := [10]) #[false, false, false, false, false, false, false, false, false, false, false] (by kernel_rfl) rfl rfl ⟨bc1 BM6, bc1 BG6⟩ (fun hHeld => ?_); refine with_tabW compasslaw04_WalkKeeps.tab4 compasslaw04_WalkKeeps.bits4 (fun HT_ HW_ => ?_)
  generalize w5.drew = w6 at HB6 BG6 BM6 R6 hHeld ⊢
  refine pure_ (i := 0) (N := some 24) (v := ?_) (a' := ?_) #[true, false, false, false, false, false, false, false, false, false, false] rfl rfl (any_of HT_.out (by kernel_rfl)) (fun _ _ _ h => h) (Or.inl ⟨by rfl, ?_⟩) ?_ ?_; rotate_left; intro w'; go_simp; with_reducible rfl; rotate_left; simp only [Act.put, List.setIfInBounds_toArray, List.set_cons_zero, List.set_cons_succ, i64_w, i32_w]; rfl
  refine pure_ (i := 2) (N := some 26) (v := ?_) (a' := ?_) #[true, false, true, false, false, false, false, false, false, false, false] rfl rfl (any_of HT_.out (by kernel_rfl)) (fun _ _ _ h => h) (Or.inl ⟨by rfl, ?_⟩) ?_ ?_; rotate_left; intro w'; go_simp; with_reducible rfl; rotate_left; simp only [Act.put, List.setIfInBounds_toArray, List.set_cons_zero, List.set_cons_succ, i64_w, i32_w]; rfl
  refine pure_ (i := 5) (N := some 29) (v := ?_) (a' := ?_) #[true, false, true, false, false, true, false, false, false, false, false] rfl rfl (any_of HT_.out (by kernel_rfl)) (fun _ _ _ h => h) (Or.inl ⟨by rfl, ?_⟩) ?_ ?_; rotate_left; intro w'; go_simp; with_reducible rfl; rotate_left; simp only [Act.put, List.setIfInBounds_toArray, List.set_cons_zero, List.set_cons_succ, i64_w, i32_w]; rfl
  refine take_ (i := 1) (N := some 25) (v := ?_) (a' := ?_) #[true, true, true, false, false, true, false, false, false, false, false] rfl rfl (take_ofW HT_.out HW_.out (by kernel_rfl)) (fun _ _ _ h => h) (Or.inl ⟨by rfl, ?_⟩) hHeld ?_ ?_; rotate_left; rintro w' ⟨s0, s1⟩; go_simp; with_reducible rfl; rotate_left; simp only [Act.put, List.setIfInBounds_toArray, List.set_cons_zero, List.set_cons_succ, i64_w, i32_w]; rfl
  refine take_ (i := 6) (N := some 30) (v := ?_) (a' := ?_) #[true, true, true, false, false, true, true, false, false, false, false] rfl rfl (take_ofW HT_.out HW_.out (by kernel_rfl)) (fun _ _ _ h => h) (Or.inl ⟨by rfl, ?_⟩) hHeld ?_ ?_; rotate_left; rintro w' ⟨s0, s1⟩; go_simp; with_reducible rfl; rotate_left; simp only [Act.put, List.setIfInBounds_toArray, List.set_cons_zero, List.set_cons_succ, i64_w, i32_w]; rfl
  refine pure_ (i := 7) (N := some 31) (v := ?_) (a' := ?_) #[true, true, true, false, false, true, true, true, false, false, false] rfl rfl (any_of HT_.out (by kernel_rfl)) (fun _ _ _ h => h) (Or.inl ⟨by rfl, ?_⟩) ?_ ?_; rotate_left; intro w'; go_simp; with_reducible rfl; rotate_left; simp only [Act.put, List.setIfInBounds_toArray, List.set_cons_zero, List.set_cons_succ, i64_w, i32_w]; rfl
  refine one_ (i := 3) (N := some 27) #[true, true, true, true, false, true, true, true, false, false, false] rfl rfl (one_of HT_.out (by kernel_rfl)) (by decide) (fun K hK => ?_)
  refine value_ (w1 := ?_) (v := ?_) (by rfl) rfl ?_ ?_
  rotate_left 2
  ·
   go_simp
   constructor
   ·
    rfl
   ·
    rfl
  refine hK.out _ _ ⟨(blk_cell (blk_alloc BM6.out _) 1).trans rfl, (blk_cell (blk_alloc BG6.out _) 1).trans rfl⟩ (fun hHeld => ?_)
  clear hK K
  refine norm_ (a' := ?_) ?_ ?_
  rotate_left
  ·
   show Act.put _ (some 27) _ = _
   simp only [Act.put, List.setIfInBounds_toArray, List.set_cons_zero, List.set_cons_succ, i64_w, i32_w]
   rfl
  refine one_ (i := 4) (N := some 28) #[true, true, true, true, true, true, true, true, false, false, false] rfl rfl (one_of HT_.out (by kernel_rfl)) (by decide) (fun K hK => ?_)
  refine Kd.R_append_step k41 (w0 := w) w.heap.size (by rfl) (.tmp 25) (.tmp 27) 22 41 (.agg #[(.int .i64 0), (.int .i64 0), (.int .i64 0), (.int .i64 0)]) 32 rfl Try.underlying22 info41 rfl (by decide) (by omega) (.slice A3 E.length c3) E z7 [.int .i64 0, .int .i64 0, .int .i64 (-7), .int .i64 0] (fun _ => True) (fun _ => False) rfl rfl ?aP (fun _ hk => hk.elim) ?aF ?aO ?aB ?aS ?aL ?_
  (case aP => exact k41_mkM _ _ _ z7)
  (case aB => exact HB6.out)
  (case aF => exact (fun _ _ => trivial))
  (case aO => exact R6.out)
  (case aS => exact below_size HB6.out)
  (case aL => have := TD.out.len; omega)
  intro v7 w7 ho hb hg hat
  obtain ⟨b, cm, e7, gb, -⟩ := Kd.R_form ho (by simp)
  rw [List.length_append] at e7
  subst e7
  have BG7 := ak (blk_grown BG6.out hg (Kd.R_ne R6.out BG6.out (by decide)))
  have BM7 := ak (blk_grown BM6.out hg (Kd.R_ne R6.out BM6.out (by decide)))
  have HB7 := ak hb
  have R7 := ak (show Kd.R k41 41 w7 w.heap.size (fun _ => True) (.slice (some ⟨b, 0, none⟩) (E.length + 1) cm) (E ++ [z7]) from ho)
  clear HB6 BG6 BM6 R6 ho hb hg hat
  have lc := (Kd.R_reads' R7.out).2.1
  refine hK.out _ _ ⟨bc1 BM7, bc1 BG7⟩ (fun hHeld => ?_)
  clear hK K
  refine norm_ (a' := ?_) ?_ ?_
  rotate_left
  ·
   show Act.put _ (some 28) _ = _
   simp only [Act.put, List.setIfInBounds_toArray, List.set_cons_zero, List.set_cons_succ, i64_w, i32_w]
   rfl

  refine pure_ (i := 8) (N := some 32) (v := ?_) (a' := ?_) #[true, true, true, true, true, true, true, true, true, false, false] rfl rfl (any_of HT_.out (by kernel_rfl)) (fun _ _ _ h => h) (Or.inl ⟨by rfl, ?_⟩) ?_ ?_; rotate_left; intro w'; go_simp; rw [if_pos (show E.length ≤ cm by omega)]; rotate_left; simp only [Act.put, List.setIfInBounds_toArray, List.set_cons_zero, List.set_cons_succ, i64_w, i32_w]; rfl
  refine pure_ (i := 9) (N := some 33) (v := ?_) (a' := ?_) #[true, true, true, true, true, true, true, true, true, true, false] rfl rfl (any_of HT_.out (by kernel_rfl)) (fun _ _ _ h => h) (Or.inl ⟨by rfl, ?_⟩) ?_ ?_; rotate_left; intro w'; go_simp; with_reducible rfl; rotate_left; simp only [Act.put, List.setIfInBounds_toArray, List.set_cons_zero, List.set_cons_succ, i64_w, i32_w]; rfl
  refine last_ (i := 10) (N := none) #[true, true, true, true, true, true, true, true, true, true, true] rfl rfl (one_of HT_.out (by kernel_rfl)) (by decide) (fun K hK => ?_)
  have k2 := bf BM7 1
  have k3 := bc1 BM7
  refine skip_ (w1 := ?_) (by rfl) rfl ?_ ?_
  rotate_left
  ·
   go_simp
   rfl
  refine hK.out _ _ ?_
  clear hK K
  refine done_ (done_of HT_.out (by kernel_rfl)) ?_
  have K0 := ak (show KS w n A cE E gg gm b cm (w7.setCell ⟨gm, 1, none⟩ (.slice (some ⟨b, 0, none⟩) E.length cm)) from ⟨below_set HB7.out GM.out, blk_far BG7.out NB.out _, blk_put BM7.out 1 _ rfl, Kd.R_set R7.out BM7.out (by decide) 1 _⟩)
  generalize w7.setCell ⟨gm, 1, none⟩ (.slice (some ⟨b, 0, none⟩) E.length cm) = w8 at K0 ⊢
  have LE := ak (show E.length ≤ cm by omega)
  clear k2 k3 HB7 BG7 BM7 R7 HT_ HW_ hHeld lc GM NB gb HB
  have k0 := K0.out.m0
  have k1 := K0.out.m1
  have tok1 : True := trivial
  go_wp2_with (first
    | (go_at_call 13; have _t := tok1; (with_reducible refine (walk_Levels.calls k n _ _ E s L c _ K0.out.mine LE.out TD.out.lev).mono ?_); rintro e w9 ⟨va, rfl, ra, hb⟩; obtain ⟨Aa, ca, ea⟩ := Kd.R_slice ra; subst ea; have K1 := ak (K0.out.later hb); have RA1 := ak (Kd.R_lower ra (below_size K0.out.below)); have k2 := K1.out.m0; have k3 := K1.out.m1; clear hb ra tok1 _t)
    | (go_at_call 13; (with_reducible refine (walk_Levels.calls k n _ _ E s L c _ K1.out.mine LE.out TD.out.lev).mono ?_); rintro e w10 ⟨vb, rfl, rb, hb⟩; obtain ⟨Ab, cb, eb⟩ := Kd.R_slice rb; subst eb; have K2 := ak (K1.out.later hb); have RA2 := ak (Kd.R_below RA1.out hb); have RB2 := ak (Kd.R_lower (Kd.R_new' rb (Kd.R_lt RA1.out)) (below_size K1.out.below)); have k4 := K2.out.m0; have k5 := K2.out.m1; clear hb rb)
    | (go_at_call 19; (with_reducible refine (walk_Visit.calls k n _ _ E V P d _ K2.out.mine LE.out TD.out.visit).mono ?_); rintro e w11 ⟨x1, x2, rfl, rx1, rx2, hb⟩; have K3 := ak (K2.out.later hb); have RA3 := ak (Kd.R_below RA2.out hb); have RB3 := ak (Kd.R_below RB2.out hb); have k6 := K3.out.m0; have k7 := K3.out.m1; clear hb rx1 rx2)
    | (go_at_call 23; (with_reducible refine (walk_Parts.calls k n _ _ E T f _ K3.out.mine LE.out TD.out.parts).mono ?_); rintro e w12 ⟨vc, rfl, rc, hb⟩; obtain ⟨Ac, cc, ec⟩ := Kd.R_slice rc; subst ec; have K4 := ak (K3.out.later hb); have RA4 := ak (Kd.R_below RA3.out hb); have RB4 := ak (Kd.R_below RB3.out hb); have RC4 := ak (Kd.R_lower (Kd.R_new' rc (Kd.R_lt RA3.out)) (below_size K3.out.below)); have k8 := K4.out.m0; have k9 := K4.out.m1; clear hb rc)
    | (go_at_call 21; (with_reducible refine (walk_Strong.calls k n _ _ E S x _ K4.out.mine LE.out TD.out.strong).mono ?_); rintro e w13 ⟨vd, rfl, rd, hb⟩; obtain ⟨Ad, cd, ed⟩ := Kd.R_slice rd; subst ed; have K5 := ak (K4.out.later hb); have RA5 := ak (Kd.R_elder' RA4.out (Kd.R_base rd) hb); have RB5 := ak (Kd.R_elder' RB4.out (Kd.R_base rd) hb); have RC5 := ak (Kd.R_elder' RC4.out (Kd.R_base rd) hb); have RD5 := ak (Kd.R_lower (Kd.R_new' rd (Kd.R_lt RA4.out)) (below_size K4.out.below)); have k10 := K5.out.m0; have k11 := K5.out.m1; clear hb rd)
    | (go_at_call 16; (with_reducible refine (walk_Order.calls k n _ _ E O C y _ K5.out.mine LE.out TD.out.order).mono ?_); rintro e w14 ⟨x3, x4, rfl, rx3, rx4, hb⟩; have K6 := ak (K5.out.later hb); have RA6 := ak (Kd.R_below RA5.out hb); have RB6 := ak (Kd.R_below RB5.out hb); have RC6 := ak (Kd.R_below RC5.out hb); have RD6 := ak (Kd.R_below RD5.out hb); clear hb rx3 rx4))
  clear k0 k1 k2 k3 k4 k5 k6 k7 k8 k9 k10 k11
  clear K0 K1 K2 K3 K4 K5 RA1 RA2 RA3 RA4 RA5 RB2 RB3 RB4 RB5 RC4 RC5 RD5
  have KF := fun (W' : World) (hb : Below w14.heap.size w14 W') => K6.out.five hb
  have KF0 := ak KF
  clear KF
  have LM := ak TD.out.len
  have lm := TD.out.len
  have lk := K6.out.len
  have b1 : IntKind.i64.wrap ((E.length : Int) + 1) = (E.length : Int) + 1 := by rw [i64_w]; unfold Go.RowKit.wrap64; omega
  have b2 : (0 : Int) ≤ (E.length : Int) + 1 := by omega
  have b3 : (E.length : Int) + 1 ≤ (cm : Int) := by omega
  have b4 : (0 : Int) ≤ (E.length : Int) := by omega
  have b5 : (E.length : Int) < (E.length : Int) + 1 := by omega
  have b6 : ((E.length : Int) + 1).toNat = E.length + 1 := by omega
  have b7 : E.length + 1 ≤ cm := by omega
  clear lm lk
  go_region_held3 (fun w' => w'.cell? ⟨gm, 0, none⟩ = some (.int .i64 n) ∧ w'.cell? ⟨gm, 1, none⟩ = some (.slice (some ⟨b, 0, none⟩) E.length cm) ∧ w'.cell? ⟨gg, 0, none⟩ = some (.int .i64 n) ∧ w'.cell? ⟨gg, 1, none⟩ = some (.slice A E.length cE) ∧ w'.cell? ⟨b, E.length * 4 + 2, none⟩ = some (.int .i64 (-7))) (first | exact KF0.out _ (Below.refl _ _) | exact KF0.out _ (below_drew (Below.refl _ _)) | exact KF0.out _ (pw_below_drewN (Below.refl _ _) _) | exact K7.out.five (Below.refl _ _) | exact K7.out.five (below_drew (Below.refl _ _)))
    (first | (go_at_call 28; (with_reducible refine (compassref03_Same.calls k n _ _ E n _ _ E true _ (Kd.C_below K6.out.mine (below_drew (Below.refl _ _))) LE.out (Kd.C_below HR.out (below_drew K6.out.below)) HC.out TD.out.same).mono ?_); rintro e w15 ⟨rfl, hb⟩; have K7 := ak (K6.out.later (below_step (below_drew (Below.refl _ _)) hb)); have bw := ak (below_step (below_drew (Below.refl w14.heap.size w14)) hb); clear hb))
  have RA7 := ak (Kd.R_below RA6.out bw.out)
  have RB7 := ak (Kd.R_below RB6.out bw.out)
  have RC7 := ak (Kd.R_below RC6.out bw.out)
  have RD7 := ak (Kd.R_below RD6.out bw.out)
  have k0 := K7.out.g0
  have k1 := K7.out.g1
  have B7 := ak K7.out.below
  clear RA6 RB6 RC6 RD6 KF0 K6 bw b1 b2 b3 b4 b5 b6 b7 LM
  go_wp2_with (first
    | (go_at_call 14; (with_reducible refine (compassref04_Levels.calls k n _ _ E s L c _ (Kd.C_below HR.out B7.out) HC.out TD.out.lev4).mono ?_); rintro e w16 ⟨vw, rfl, rw_, hb⟩; obtain ⟨Aw, cw, ew⟩ := Kd.R_slice rw_; subst ew; have K8 := ak (K7.out.later hb); have RA8 := ak (Kd.R_below RA7.out hb); have RB8 := ak (Kd.R_below RB7.out hb); have RC8 := ak (Kd.R_below RC7.out hb); have RD8 := ak (Kd.R_below RD7.out hb); have RW8 := ak (Kd.R_lower (Kd.R_new' (Kd.R_new' rw_ (Kd.R_lt RA7.out)) (Kd.R_lt RD7.out)) (below_size B7.out)); have B8 := ak (below_step B7.out hb); have k2 := K8.out.g0; have k3 := K8.out.g1; clear hb rw_)
    | (go_at_call 24; (with_reducible refine (compassref04_Parts.calls k n _ _ E T f _ (Kd.C_below HR.out B8.out) HC.out TD.out.parts4).mono ?_); rintro e w17 ⟨vp, rfl, rp, hb⟩; obtain ⟨Ap, cp, ep⟩ := Kd.R_slice rp; subst ep; have S9 := ak (show AS w (.slice Aa L.length ca) (.slice Ab L.length cb) (.slice Ac T.length cc) (.slice Ad S.length cd) (.slice Aw L.length cw) (.slice Ap T.length cp) L L T S w17 from ⟨below_step B8.out hb, Kd.R_mono (Kd.R_below RA8.out hb) (fun _ hk => hk.2), Kd.R_mono (Kd.R_below RD8.out hb) (fun _ hk => hk.2), Kd.R_mono (Kd.R_below RB8.out hb) (fun _ hk => ⟨hk.1.2, hk.2⟩), Kd.R_mono (Kd.R_below RC8.out hb) (fun _ hk => ⟨hk.1.2, hk.2⟩), Kd.R_mono (Kd.R_below RW8.out hb) (fun _ hk => ⟨hk.1.2, hk.2⟩), Kd.R_mono (Kd.R_lower (Kd.R_new' (Kd.R_new' rp (Kd.R_lt RA8.out)) (Kd.R_lt RD8.out)) (below_size B8.out)) (fun _ hk => ⟨hk.1.2, hk.2⟩)⟩); clear hb rp))
  clear k0 k1 k2 k3 K7 K8 B7 B8 RA7 RA8 RB7 RB8 RC7 RC8 RD7 RD8 RW8
  clear HR HC LE hu24 hu22 hu41
  have lL := ak TD.out.lenL
  have lS := ak TD.out.lenS
  go_loopg [93] L.length (fun kq v93 w' => ∃ (i : Nat) (X : List Int), v93 = .int .i64 (i : Int) ∧ Aside0 (kq + i = L.length) ∧ Aside0 (X.length = L.length) ∧ Aside0 (AS w (.slice Aa L.length ca) (.slice Ab L.length cb) (.slice Ac T.length cc) (.slice Ad S.length cd) (.slice Aw L.length cw) (.slice Ap T.length cp) X L T S w'))
  case atStart => exact ⟨0, L, rfl, ⟨rfl⟩, ⟨rfl⟩, S9⟩
  case round =>
    clear S9
    obtain ⟨i, X, rfl, HK, HX, S9⟩ := hrel
    by_cases c1 : i < L.length
    · have c1a : decide (i < L.length) = true := decide_eq_true c1
      have c1b : decide ((i : Int) < (L.length : Int)) = true := decide_eq_true (by omega)
      obtain ⟨ba, cp1, e, -⟩ := Kd.R_form S9.out.ra (by rw [HX.out]; omega)
      injection e with e1 e2 e3
      subst e1
      clear e2 e3
      obtain ⟨k2, k3⟩ := Kd.R_celln 0 S9.out.ra (i : Int) (by omega) (by omega)
      have VS := ak (S9.out.setA (i : Int) (-9))
      rw [Int.toNat_natCast] at k2 k3 VS
      have hw1 : Go.RowKit.wrap64 ((i : Int) + 1) = ((i + 1 : Nat) : Int) := by have := lL.out; unfold Go.RowKit.wrap64; omega
      go_wp2
      go_roundg (L.length - (i + 1))
      case measure => have := HK.out; omega
      case rel => exact ⟨i + 1, X.set i (-9), by first | (rw [hw1]; done) | (simp only [i64_w, hw1]; done) | (go_num; rw [hw1]; done), ⟨by have := HK.out; omega⟩, ⟨by rw [List.length_set]; exact HX.out⟩, VS⟩
    · have c1a : decide (i < L.length) = false := decide_eq_false c1
      have c1b : decide ((i : Int) < (L.length : Int)) = false := decide_eq_false (by omega)
      clear c1
      go_wp2
      clear HK HX c1a c1b
      go_loopg [102] S.length (fun kq v102 w' => ∃ (i : Nat) (Y : List Int), v102 = .int .i64 (i : Int) ∧ Aside0 (kq + i = S.length) ∧ Aside0 (Y.length = S.length) ∧ Aside0 (AS w (.slice Aa L.length ca) (.slice Ab L.length cb) (.slice Ac T.length cc) (.slice Ad S.length cd) (.slice Aw L.length cw) (.slice Ap T.length cp) X L T Y w'))
      case atStart => exact ⟨0, S, rfl, ⟨rfl⟩, ⟨rfl⟩, S9⟩
      case round =>
        clear S9
        obtain ⟨i, Y, rfl, HK, HX, S9⟩ := hrel
        by_cases c1 : i < S.length
        · have c1a : decide (i < S.length) = true := decide_eq_true c1
          have c1b : decide ((i : Int) < (S.length : Int)) = true := decide_eq_true (by omega)
          obtain ⟨ba, cp1, e, -⟩ := Kd.R_form S9.out.rd (by rw [HX.out]; omega)
          injection e with e1 e2 e3
          subst e1
          clear e2 e3
          obtain ⟨k2, k3⟩ := Kd.R_celln 0 S9.out.rd (i : Int) (by omega) (by omega)
          have VS := ak (S9.out.setD (i : Int) (-9))
          rw [Int.toNat_natCast] at k2 k3 VS
          have hw1 : Go.RowKit.wrap64 ((i : Int) + 1) = ((i + 1 : Nat) : Int) := by have := lS.out; unfold Go.RowKit.wrap64; omega
          go_wp2
          go_roundg (S.length - (i + 1))
          case measure => have := HK.out; omega
          case rel => exact ⟨i + 1, Y.set i (-9), by first | (rw [hw1]; done) | (simp only [i64_w, hw1]; done) | (go_num; rw [hw1]; done), ⟨by have := HK.out; omega⟩, ⟨by rw [List.length_set]; exact HX.out⟩, VS⟩
        · have c1a : decide (i < S.length) = false := decide_eq_false c1
          have c1b : decide ((i : Int) < (S.length : Int)) = false := decide_eq_false (by omega)
          clear c1
          have t1 : True := trivial
          go_wp2_with (first
            | (go_at_call 15; have _t := t1; (with_reducible refine (compasslaw04_ints.calls k _ _ L _ _ L true _ (Kd.R_reads' S9.out.rb).2.2 (Kd.R_reads' S9.out.rb).2.1 (Kd.R_reads' S9.out.rw).2.2 (Kd.R_reads' S9.out.rw).2.1 TD.out.intsL).mono ?_); rintro e w20 ⟨rfl, ⟨n1, rfl⟩⟩; have S10 := ak (S9.out.later (pw_below_drewN (Below.refl _ _) n1)); clear t1 _t)
            | (go_at_call 15; (with_reducible refine (compasslaw04_ints.calls k _ _ T _ _ T true _ (Kd.R_reads' S10.out.rc).2.2 (Kd.R_reads' S10.out.rc).2.1 (Kd.R_reads' S10.out.rp).2.2 (Kd.R_reads' S10.out.rp).2.1 TD.out.intsT).mono ?_); rintro e w21 ⟨rfl, ⟨n2, rfl⟩⟩; have S11 := ak (S10.out.later (pw_below_drewN (Below.refl _ _) n2))))
          go_ret
          exact ⟨rfl, below_step S9.out.below (pw_below_drewN (Below.refl _ _) _)⟩
end Go.Proofs.Ytacklfnnpiobgaa.Q
