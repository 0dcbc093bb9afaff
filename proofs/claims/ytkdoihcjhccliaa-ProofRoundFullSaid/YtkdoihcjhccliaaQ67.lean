import Derived.Test.YtkdoihcjhccliaaK
import Derived.Test.YtkdoihcjhccliaaV
import Derived.Test.YtkdoihcjhccliaaQ0
import Derived.Test.YtkdoihcjhccliaaQ3
namespace Go.Proofs.Ytkdoihcjhccliaa.Q
open Go.RowKit Go.Proofs.YtkdoihcjhccliaaW.PrintWords Go.Proofs.YtkdoihcjhccliaaW.PrintLast Go.Proofs.YtkdoihcjhccliaaW.PrintMore
attribute [local go_sem] dF dG eG eH cz cB dH dI   -- for this text's walks alone
set_option linter.unusedVariables false
set_option linter.unusedSimpArgs false

/-! ### bK: function 70 -/
def bK.l0 : Nat → Int → Int → List (S98) → Int → List (S98) → Option (Int × (List (S98)))
  | 0, _, _, _, _, _ => none
  | k + 1, x4, X5, yZ, PL, Jj => if x4 < (yZ.length : Int) then (if 0 ≤ x4 then (if Jj.length < 4398046511104 then (bK.l0 k (wrap64 (x4 + 1)) X5 yZ PL (Jj ++ [(⟨(aa yZ x4).f0, (aa yZ x4).f1, (aa yZ x4).f2, (aa yZ x4).f3⟩ : S98)])) else (none)) else (none)) else (some (PL, Jj))
def bK.f (k : Nat) (ay : Int) (ae : List (S98)) : Option (Int × (List (S98))) := bK.l0 k 0 ay ae ay ([] : List (S98))
def bK.T5 : Bool × List (List Nat × List Nat) := (true, [([], []), ([0], [0]), ([], []), ([2], [2]), ([], []), ([3, 4], [3, 4]), ([5], [5]), ([6], [6]), ([1, 7], [1, 7]), ([0, 1, 2, 3, 4, 5, 6, 7, 8], []), ([9, 8, 8, 0, 1, 2, 3, 4, 5, 6, 7, 8], [8, 9])])
def bK.B5 : List Nat := [0, 1, 0, 4, 0, 28, 60, 124, 255, 511, 1023]
theorem bK.tab5 : oO .any (opsOf Try.f70 5) = bK.T5 := by kernel_rfl
theorem bK.bits5 : gM bK.T5.2 bK.B5 = true := by kernel_rfl
set_option maxHeartbeats 8000000 in
set_option maxRecDepth 100000 in
theorem bK.calls (k : Nat) (ay : Int) (bX : Option Addr) (bN : Nat) (ae : List (S98)) (r1 : Int) (r2 : List (S98)) (w : World) (dB : Kd.C k98 w bX ae.length ae) (dC : ae.length ≤ bN) (h : bK.f k ay ae = some (r1, r2)) :
    Calls Try.prog 70 #[.agg #[.int .i64 ay, .slice bX ae.length bN]] w fun e w' => ∃ v1_ : Value, e = .returned (.agg #[.int .i64 r1, v1_]) ∧ Kd.R k98 98 w' w.heap.size (fun _ => True) v1_ r2 ∧ Below w.heap.size w w' := by
 have hu24 := Try.underlying24; have hu98 := Try.underlying98; have bU := ak dB; have eU := ak dC; clear dB dC; have HB := ak (Below.refl w.heap.size w); have H : (bK.l0 k 0 ay ae ay ([] : List (S98))) = some (r1, r2) := h; clear h; have H' := ak H; clear H
 go_enter Try.func70, Try.ntmps70
 go_wp2_with (first | ((with_reducible refine aC (N := 1) rfl ?_); refine bxe 1 #[.int .i64 ay, .slice bX ae.length bN] 24 ?_; intro gb475 hg w2 hbox hb; have n_ := a4 (bl hb) hbox (gw w hg) (gw w hg); clear HB; obtain ⟨HB, oo, GW475, GE475⟩ := n_; clear hb hbox hg) | ((with_reducible refine aC (N := 2) rfl ?_); refine bxe 2 #[.int .i64 0, .slice none 0 0] 24 ?_; intro Tq hg w3 hbox hb; have n_ := a7 (bo oo hb) (bl hb) hbox (gw w hg) (gw w hg) (nl hg oo) (nr hg oo); clear oo HB; obtain ⟨oo, HB, wM, GW476, GE476, Cf, acV⟩ := n_; clear hb hbox hg; have ⟨_, _⟩ := nn Cf; have ⟨_, _, _, _⟩ := cf2 oo) | ((with_reducible refine aC (N := 3) rfl ?_); refine bxe 3 #[.int .i64 0, .slice none 0 0] 24 ?_; intro X6 hg w6 hbox hb; have n_ := a10 (bo oo hb) (bo wM hb) (bl hb) hbox (gw w hg) (gw w hg) (nl hg oo) (nr hg oo) (nl hg wM) (nr hg wM); clear oo wM HB; obtain ⟨oo, wM, HB, r9, GW477, GE477, Cg, G8, PM, Ch⟩ := n_; clear hb hbox hg; have ⟨_, _⟩ := nn G8; have ⟨_, _⟩ := nn Ch; have ⟨_, _, _, _⟩ := cf2 r9))
 go_loopg [4] k (fun kq v4 w' => ∃ (kJ : Int) (qI : List (S98)) (Ci : Value), v4 = .int .i64 kJ ∧ ag (bK.l0 kq kJ ay ae ay qI = some (r1, r2)) ∧ ag (kq ≤ k) ∧ ag (Kd.R k98 98 w' w.heap.size (fun _ => True) Ci qI) ∧ ag (w'.heap[gb475]? = some (.cells #[.int .i64 ay, (.slice bX ae.length bN)] 24 (0, 0))) ∧ ag (w'.heap[Tq]? = some (.cells #[.int .i64 0, (.slice none 0 0)] 24 (0, 0))) ∧ ag (w'.heap[X6]? = some (.cells #[.int .i64 ay, Ci] 24 (0, 0))) ∧ ag (Below w.heap.size w w'))
 case atStart => exact ⟨(0), (([] : List (S98))), (.slice none 0 0), sr, H', ⟨Nat.le_refl _⟩, ⟨by first | exact Kd.uo _ _ _ _ _ | exact Kd.yP _ _ _ _ _ | exact Kd.uw _ _ _ _ _ | exact Kd.yN _ _ _ _ _ | exact Kd.yO _ _ _ _ _⟩, ⟨bz⟩, ⟨bz⟩, ⟨bz⟩, ⟨lb⟩⟩
 clear H'; obtain ⟨kJ, qI, Ci, rfl, HA, HK1, lV, oo, wM, r9, HB⟩ := hrel
 cases gk with
 | zero => exact absurd HA.out (by simp [bK.l0])
 | succ k1 => ?_
 have H := HA.out; clear HA
 simp only [bK.l0] at H
 by_cases c10 : kJ < (ae.length : Int)
 rotate_left
 ·
  rw [if_neg c10] at H; have c10b0 := decide_eq_false c10; clear c10
  simp only [Option.some.injEq, Prod.mk.injEq] at H
  obtain ⟨rfl, rfl⟩ := H; have ⟨_, _⟩ := nn Cf; have ⟨_, _⟩ := nn Cg; have ⟨_, _, _, _⟩ := cf2 oo; have ⟨_, _⟩ := nn Ch; have ⟨_, _, _, _⟩ := cf2 r9; have ⟨_, _, _, _⟩ := cf2 wM; obtain ⟨Ao26, co26, eo26⟩ := Kd.bT lV.out; subst eo26
  go_wp2
  refine bodyPost_ret (results_cell_row rfl _ _ Tq 24 #[.int .i64 ay, .slice Ao26 qI.length co26] (0, 0) _ rfl bz Try.underlying24 rfl (by kernel_rfl)) rfl ?_
  exact ⟨_, by first | rfl | (simp [dx, dz] <;> rfl) | (simp [*, dx, dz] <;> rfl), by exact rx (Kd.cO (Kd.dN (p := ⟨Tq, 1, none⟩) (Kd.dN (p := ⟨Tq, 0, none⟩) (Kd.fC lV.out wM.out (by decide)) (fun _ hk => hk.2) (.int .i64 ay)) (fun _ hk => hk.2) (.slice Ao26 qI.length co26)) (fun _ hk => trivial)), lb⟩
 rw [if_pos c10] at H; have c10b0 := decide_eq_true c10; clear c10; replace H := ifd H; obtain ⟨c11b0, H⟩ := H; replace H := ifn H; obtain ⟨c12, H⟩ := H; have LMc12 := ak c12; clear c12; obtain ⟨y479, X7⟩ : ∃ y_ : List (S98), y_ = (qI ++ [(⟨(aa ae kJ).f0, (aa ae kJ).f1, (aa ae kJ).f2, (aa ae kJ).f3⟩ : S98)]) := ⟨_, rfl⟩; replace H : (bK.l0 k1 (wrap64 (kJ + 1)) ay ae ay y479) = some (r1, r2) := by first | (rw [X7]; exact H) | exact H
 have Ny479 := ak X7; clear X7; have H' := ak H; clear H; have ⟨_, _⟩ := nn Cf; have ⟨_, _⟩ := nn Cg; have ⟨_, _, _, _⟩ := cf2 oo
 try go_wp2
 have n_ := a5 (Kd.fH lV.out) (aK oo.out) (aK wM.out) (aK r9.out) (bJ HB.out); clear lV oo wM r9 HB; obtain ⟨lV, oo, wM, r9, HB⟩ := n_; obtain ⟨p478, q478, ad478, e478, Fb, Fe, Ff, Fg⟩ := wq (dU bU.out kJ); have Fh := Fg; have Fj := Ff; have Fp := Fe; have Fq := Fb; cases e478
 (try replace Fb := hbc HB Fb)
 (try replace Fe := hbc HB Fe)
 (try replace Ff := hbc HB Ff)
 (try replace Fg := hbc HB Fg)
 refine stC 11 [10] (cX (bc0 r9) (cX (bc1 r9) (cX (bc0 oo) (cX (bc1 oo) (cX (hbc HB Fq) (cX (hbc HB Fp) (cX (hbc HB Fj) (cY (hbc HB Fh))))))))) bK.tab5 bK.bits5 fun hHeld HT_ HW_ => ?_
 generalize wr.drew = w16 at lV oo wM r9 HB Fb Fe Ff Fg hHeld ⊢
 refine pv HT_ 0 15 ?_; refine pv HT_ 2 17 ?_; refine pv HT_ 4 19 ?_; refine tv HT_ HW_ hHeld 1 16 ?_; refine tv HT_ HW_ hHeld 3 18 ?_; refine pv HT_ 5 20 ?_; refine tv HT_ HW_ hHeld 6 21 ?_
 refine wT (i := 7) (N := some 22) #[T, T, T, T, T, T, T, T, F, F, F] rfl rfl (gP HT_.out (by kernel_rfl)) (by decide) (fun K hK => ?_)
 refine zV (w1 := ?_) (v := ?_) (by rfl) rfl ?_ ?_
 rotate_left 2
 ·
  go_simp
  constructor
  ·
   rfl
  ·
   rfl
 refine hK.out _ _ ⟨(aH (bg r9.out _) 0).trans rfl, (aH (bg r9.out _) 1).trans rfl, (aH (bg oo.out _) 0).trans rfl, (aH (bg oo.out _) 1).trans rfl, (World.cell?_alloc_lt _ _ _ (World.block_lt_of_cell? _ _ ((hbc HB Fq)))).trans ((hbc HB Fq)), (World.cell?_alloc_lt _ _ _ (World.block_lt_of_cell? _ _ ((hbc HB Fp)))).trans ((hbc HB Fp)), (World.cell?_alloc_lt _ _ _ (World.block_lt_of_cell? _ _ ((hbc HB Fj)))).trans ((hbc HB Fj)), (World.cell?_alloc_lt _ _ _ (World.block_lt_of_cell? _ _ ((hbc HB Fh)))).trans ((hbc HB Fh))⟩ (fun hHeld => ?_)
 clear hK K
 refine ol (a' := ?_) ?_ ?_
 rotate_left
 ·
  show Act.put _ (some 22) _ = _
  simp only [Act.put, sA, sZ, sS, jA, jG]
  rfl
 refine wT (i := 8) (N := some 23) #[T, T, T, T, T, T, T, T, T, F, F] rfl rfl (gP HT_.out (by kernel_rfl)) (by decide) (fun K hK => ?_)
 refine Kd.kV k98 (w0 := w) w.heap.size (by rfl) (.tmp 16) (.tmp 22) 22 98 (.agg #[(.int .i64 0), (.int .i64 0), (.int .i64 0), (.int .i64 0)]) 32 rfl Try.underlying22 Ec rfl (by decide) (by omega) Ci qI (⟨(aa ae kJ).f0, (aa ae kJ).f1, (aa ae kJ).f2, (aa ae kJ).f3⟩ : S98) [.int .i64 ((aa ae kJ).f0), .int .i64 ((aa ae kJ).f1), .int .i64 ((aa ae kJ).f2), .int .i64 ((aa ae kJ).f3)] (fun _ => True) (fun _ => False) rfl rfl ?aP (fun _ hk => hk.elim) ?aF ?aO ?aB ?aS ?aL ?_
 (case aP => exact sG _ _ _ (⟨(aa ae kJ).f0, (aa ae kJ).f1, (aa ae kJ).f2, (aa ae kJ).f3⟩ : S98))
 (case aB => exact lb)
 (case aF => exact (fun _ _ => trivial))
 (case aO => exact (rx lV.out))
 (case aS => exact (ax lb))
 (case aL => have := LMc12.out; omega)
 intro v480 w17 ho hb hg hat; rw [← Ny479.out] at ho
 have n_ := a5 (bH (bx oo.out) hg (Kd.gQ lV.out oo.out (by decide))) (bH (bx wM.out) hg (Kd.gQ lV.out wM.out (by decide))) (bH (bx r9.out) hg (Kd.gQ lV.out r9.out (by decide))) hb ho; clear oo wM r9 HB lV; obtain ⟨oo, wM, r9, HB, acW⟩ := n_
 clear ho hb hg hat; obtain ⟨Ao18, co18, eo18⟩ := Kd.bT acW.out
 (first | subst eo18 | (injection eo18 with f1_ f2_ f3_; have f4_ := f1_.symm; have f5_ := f3_.symm; clear f1_ f2_ f3_; subst f4_; subst f5_))
 refine hK.out _ _ ⟨(aH r9.out 0).trans rfl, (aH r9.out 1).trans rfl, (aH oo.out 0).trans rfl, (aH oo.out 1).trans rfl, (hbc HB Fq), (hbc HB Fp), (hbc HB Fj), (hbc HB Fh)⟩ (fun hHeld => ?_)
 clear hK K
 refine ol (a' := ?_) ?_ ?_
 rotate_left
 ·
  show Act.put _ (some 23) _ = _
  simp only [Act.put, sA, sZ, sS, jA, jG]
  rfl
 refine pv HT_ 9 24 ?_
 refine um (i := 10) (N := none) #[T, T, T, T, T, T, T, T, T, T, T] rfl rfl (gP HT_.out (by kernel_rfl)) (by decide) (fun K hK => ?_)
 have hs19 : w17.cell? ⟨X6, 1, none⟩ = some (Ci) := (aH r9.out 1).trans rfl; have hfs19 := bf r9 1; have hns19_0 := Cg.out; have hns19_1 := PM.out; have hms19_0 := G8.out; have hms19_1 := Ch.out
 refine tV (w1 := ?_) (by rfl) rfl ?_ ?_
 rotate_left
 ·
  go_simp
  rfl
 refine hK.out _ _ ?_
 clear hK K
 refine kN (fV HT_.out (by kernel_rfl)) ?_
 try go_wp2
 go_roundg k1
 case measure => have := HK1.out; omega
 case rel => exact ⟨(wrap64 (kJ + 1)), (y479), (.slice Ao18 y479.length co18), sr, H', ⟨by have := HK1.out; omega⟩, ⟨by exact rx (Kd.cO (Kd.dN (p := ⟨X6, 1, none⟩) (Kd.fC acW.out r9.out (by decide)) (fun _ hk => hk.2) (.slice Ao18 y479.length co18)) (fun _ hk => trivial))⟩, ⟨bz⟩, ⟨bz⟩, ⟨bz⟩, ⟨lb⟩⟩
end Go.Proofs.Ytkdoihcjhccliaa.Q
