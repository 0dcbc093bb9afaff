import Derived.Test.YtkdoihcjhccliaaK
import Derived.Test.YtkdoihcjhccliaaV
import Derived.Test.YtkdoihcjhccliaaQ0
import Derived.Test.YtkdoihcjhccliaaQ3
namespace Go.Proofs.Ytkdoihcjhccliaa.Q
open Go.RowKit Go.Proofs.YtkdoihcjhccliaaW.PrintWords Go.Proofs.YtkdoihcjhccliaaW.PrintLast Go.Proofs.YtkdoihcjhccliaaW.PrintMore
attribute [local go_sem] dF dG eG eH cz cB dH dI   -- for this text's walks alone
set_option linter.unusedVariables false
set_option linter.unusedSimpArgs false

/-! ### aJ: function 56 -/
def aJ.l0 : Nat → List Int → Int → Int → List (S98) → Int → List (S98) → Option (Int × (List (S98)))
  | 0, _, _, _, _, _, _ => none
  | k + 1, x1, x6, Yd, sV, PU, Jk => if x6 < (sV.length : Int) then (if 0 ≤ x6 then (if x6 < (x1.length : Int) then (if Jk.length < 4398046511104 then ((some (Jk ++ [(⟨(aa sV x6).f0, (aa sV x6).f1, wrap64 (((aa sV x6).f2) - (rd x1 x6)), (aa sV x6).f3⟩ : S98)] : List (S98))).bind fun Ef => (if Ef.length < 4398046511104 then (aJ.l0 k x1 (wrap64 (x6 + 1)) Yd sV PU (Ef ++ [(⟨(aa sV x6).f1, (aa sV x6).f0, rd x1 x6, wrap64 (-((aa sV x6).f3))⟩ : S98)])) else (none))) else (none)) else (none)) else (none)) else (some (PU, Jk))
def aJ.f (k : Nat) (ay : Int) (ae : List (S98)) (l1 : List Int) : Option (Int × (List (S98))) := aJ.l0 k l1 0 ay ae ay ([] : List (S98))
def aJ.T6 : Bool × List (List Nat × List Nat) := (true, [([], []), ([0], [0]), ([], []), ([2], [2]), ([], []), ([4], [4]), ([], []), ([6], [6]), ([], []), ([], []), ([8, 9], [8, 9]), ([10], [10]), ([7, 11], [7, 11]), ([], []), ([13], [13]), ([3, 5, 12, 14], [3, 5, 12, 14]), ([15], [15]), ([1, 16], [1, 16]), ([0, 1, 2, 3, 4, 5, 6, 7, 8, 9, 10, 11, 12, 13, 14, 15, 16, 17], []), ([18, 17, 17, 0, 1, 2, 3, 4, 5, 6, 7, 8, 9, 10, 11, 12, 13, 14, 15, 16, 17], [17, 18])])
def aJ.B6 : List Nat := [0, 1, 0, 4, 0, 16, 0, 64, 0, 0, 768, 1792, 4032, 0, 8192, 32764, 65532, 131071, 262143, 524287]
theorem aJ.UK : oO .any (opsOf Try.f56 6) = aJ.T6 := by kernel_rfl
theorem aJ.GG : gM aJ.T6.2 aJ.B6 = true := by kernel_rfl
def aJ.T7 : Bool × List (List Nat × List Nat) := (true, [([], []), ([0], [0]), ([], []), ([2], [2]), ([], []), ([4], [4]), ([], []), ([], []), ([6, 7], [6, 7]), ([8], [8]), ([], []), ([10], [10]), ([11], [11]), ([3, 5, 9, 12], [3, 5, 9, 12]), ([13], [13]), ([1, 14], [1, 14]), ([0, 1, 2, 3, 4, 5, 6, 7, 8, 9, 10, 11, 12, 13, 14, 15], []), ([16, 15, 15, 0, 1, 2, 3, 4, 5, 6, 7, 8, 9, 10, 11, 12, 13, 14, 15], [15, 16])])
def aJ.B7 : List Nat := [0, 1, 0, 4, 0, 16, 0, 0, 192, 448, 0, 1024, 3072, 8188, 16380, 32767, 65535, 131071]
theorem aJ.UL : oO .any (opsOf Try.f56 7) = aJ.T7 := by kernel_rfl
theorem aJ.GH : gM aJ.T7.2 aJ.B7 = true := by kernel_rfl
set_option maxHeartbeats 8000000 in
set_option maxRecDepth 100000 in
theorem aJ.calls (k : Nat) (ay : Int) (bX : Option Addr) (bN : Nat) (ae : List (S98)) (A1 : Option Addr) (c1 : Nat) (l1 : List Int) (r1 : Int) (r2 : List (S98)) (w : World) (dB : Kd.C k98 w bX ae.length ae) (dC : ae.length ≤ bN) (hr1 : Kd.C (Kd.int .i64) w A1 l1.length l1) (hc1 : l1.length ≤ c1) (h : aJ.f k ay ae l1 = some (r1, r2)) :
    Calls Try.prog 56 #[.agg #[.int .i64 ay, .slice bX ae.length bN], .slice A1 l1.length c1] w fun e w' => ∃ v1_ : Value, e = .returned (.agg #[.int .i64 r1, v1_]) ∧ Kd.R k98 98 w' w.heap.size (fun _ => True) v1_ r2 ∧ Below w.heap.size w w' := by
 have hu24 := Try.underlying24; have hu98 := Try.underlying98; have bU := ak dB; have eU := ak dC; clear dB dC; have HR1 := ak hr1; have HC1 := ak hc1; clear hr1 hc1; have HB := ak (Below.refl w.heap.size w); have H : (aJ.l0 k l1 0 ay ae ay ([] : List (S98))) = some (r1, r2) := h; clear h; have H' := ak H; clear H
 go_enter Try.func56, Try.ntmps56
 go_wp2_with (first | ((with_reducible refine aC (N := 2) rfl ?_); refine bxe 2 #[.int .i64 ay, .slice bX ae.length bN] 24 ?_; intro Ye hg w3 hbox hb; have n_ := a4 (bl hb) hbox (gw w hg) (gw w hg); clear HB; obtain ⟨HB, kW, GW328, GE328⟩ := n_; clear hb hbox hg) | ((with_reducible refine aC (N := 4) rfl ?_); refine bxe 4 #[.int .i64 0, .slice none 0 0] 24 ?_; intro KV hg w4 hbox hb; have n_ := a7 (bo kW hb) (bl hb) hbox (gw w hg) (gw w hg) (nl hg kW) (nr hg kW); clear kW HB; obtain ⟨kW, HB, mF, GW329, GE329, Cu, ade⟩ := n_; clear hb hbox hg; have ⟨_, _⟩ := nn Cu; have ⟨_, _, _, _⟩ := cf2 kW) | ((with_reducible refine aC (N := 5) rfl ?_); refine bxe 5 #[.int .i64 0, .slice none 0 0] 24 ?_; intro yx hg w7 hbox hb; have n_ := a10 (bo kW hb) (bo mF hb) (bl hb) hbox (gw w hg) (gw w hg) (nl hg kW) (nr hg kW) (nl hg mF) (nr hg mF); clear kW mF HB; obtain ⟨kW, mF, HB, kr, GW330, GE330, yz, Cv, Hf, yA⟩ := n_; clear hb hbox hg; have ⟨_, _⟩ := nn Cv; have ⟨_, _⟩ := nn yA; have ⟨_, _, _, _⟩ := cf2 kr))
 go_loopg [6] k (fun kq v6 w' => ∃ (eD : Int) (o7 : List (S98)) (xz : Value), v6 = .int .i64 eD ∧ ag (aJ.l0 kq l1 eD ay ae ay o7 = some (r1, r2)) ∧ ag (kq ≤ k) ∧ ag (Kd.R k98 98 w' w.heap.size (fun _ => True) xz o7) ∧ ag (w'.heap[Ye]? = some (.cells #[.int .i64 ay, (.slice bX ae.length bN)] 24 (0, 0))) ∧ ag (w'.heap[KV]? = some (.cells #[.int .i64 0, (.slice none 0 0)] 24 (0, 0))) ∧ ag (w'.heap[yx]? = some (.cells #[.int .i64 ay, xz] 24 (0, 0))) ∧ ag (Below w.heap.size w w'))
 case atStart => exact ⟨(0), (([] : List (S98))), (.slice none 0 0), sr, H', ⟨Nat.le_refl _⟩, ⟨by first | exact Kd.uo _ _ _ _ _ | exact Kd.yP _ _ _ _ _ | exact Kd.uw _ _ _ _ _ | exact Kd.yN _ _ _ _ _ | exact Kd.yO _ _ _ _ _⟩, ⟨bz⟩, ⟨bz⟩, ⟨bz⟩, ⟨lb⟩⟩
 clear H'; obtain ⟨eD, o7, xz, rfl, HA, HK1, iY, kW, mF, kr, HB⟩ := hrel
 cases gk with
 | zero => exact absurd HA.out (by simp [aJ.l0])
 | succ k1 => ?_
 have H := HA.out; clear HA
 simp only [aJ.l0] at H
 by_cases c11 : eD < (ae.length : Int)
 rotate_left
 ·
  rw [if_neg c11] at H; have c11b0 := decide_eq_false c11; clear c11
  simp only [Option.some.injEq, Prod.mk.injEq] at H
  obtain ⟨rfl, rfl⟩ := H; have ⟨_, _⟩ := nn Cu; have ⟨_, _⟩ := nn yz; have ⟨_, _, _, _⟩ := cf2 kW; have ⟨_, _⟩ := nn yA; have ⟨_, _, _, _⟩ := cf2 kr; have ⟨_, _, _, _⟩ := cf2 mF; obtain ⟨Ao40, co40, eo40⟩ := Kd.bT iY.out; subst eo40
  go_wp2
  refine bodyPost_ret (results_cell_row rfl _ _ KV 24 #[.int .i64 ay, .slice Ao40 o7.length co40] (0, 0) _ rfl bz Try.underlying24 rfl (by kernel_rfl)) rfl ?_
  exact ⟨_, by first | rfl | (simp [dx, dz] <;> rfl) | (simp [*, dx, dz] <;> rfl), by exact rx (Kd.cO (Kd.dN (p := ⟨KV, 1, none⟩) (Kd.dN (p := ⟨KV, 0, none⟩) (Kd.fC iY.out mF.out (by decide)) (fun _ hk => hk.2) (.int .i64 ay)) (fun _ hk => hk.2) (.slice Ao40 o7.length co40)) (fun _ hk => trivial)), lb⟩
 rw [if_pos c11] at H; have c11b0 := decide_eq_true c11; clear c11; replace H := if2 H; obtain ⟨c12b0, c13b0, H⟩ := H; replace H := ifn H; obtain ⟨c14, H⟩ := H; have LMc14 := ak c14; clear c14; obtain ⟨Ef, Yf⟩ : ∃ y_ : List (S98), y_ = (o7 ++ [(⟨(aa ae eD).f0, (aa ae eD).f1, wrap64 (((aa ae eD).f2) - (rd l1 eD)), (aa ae eD).f3⟩ : S98)]) := ⟨_, rfl⟩; replace H : (if Ef.length < 4398046511104 then (aJ.l0 k1 l1 (wrap64 (eD + 1)) ay ae ay (Ef ++ [(⟨(aa ae eD).f1, (aa ae eD).f0, rd l1 eD, wrap64 (-((aa ae eD).f3))⟩ : S98)])) else (none)) = some (r1, r2) := by first | (rw [Yf]; exact H) | exact H
 have Ny334 := ak Yf; clear Yf; replace H := ifn H; obtain ⟨c15, H⟩ := H; have LMc15 := ak c15; clear c15; obtain ⟨y338, Yg⟩ : ∃ y_ : List (S98), y_ = (Ef ++ [(⟨(aa ae eD).f1, (aa ae eD).f0, rd l1 eD, wrap64 (-((aa ae eD).f3))⟩ : S98)]) := ⟨_, rfl⟩; replace H : (aJ.l0 k1 l1 (wrap64 (eD + 1)) ay ae ay y338) = some (r1, r2) := by first | (rw [Yg]; exact H) | exact H
 have Ny338 := ak Yg; clear Yg; have H' := ak H; clear H; have ⟨_, _⟩ := nn Cu; have ⟨_, _⟩ := nn yz; have ⟨_, _, _, _⟩ := cf2 kW; obtain ⟨p331, q331, adf, e331, PV, PW, PX, PY⟩ := wq (dU bU.out eD); cases e331
 (try replace PV := hbc HB PV)
 (try replace PW := hbc HB PW)
 (try replace PX := hbc HB PX)
 (try replace PY := hbc HB PY)
 try go_wp2_with (first | ((with_reducible refine aC (N := 7) rfl ?_); refine bxe 7 #[.int .i64 0, .int .i64 0, .int .i64 0, .int .i64 0] 98 ?_; intro kw hg w19 hbox hb; have n_ := a14 (Kd.sD (Kd.Sz (rx iY.out) kw (Nat.le_of_eq hg.symm)) hb) (bo kW hb) (bo mF hb) (bo kr hb) (bl hb) hbox (gw w hg) (gw w hg) (nl hg kW) (nr hg kW) (nl hg mF) (nr hg mF) (nl hg kr) (nr hg kr); clear iY kW mF kr HB; obtain ⟨iY, kW, mF, kr, HB, gD, GW332, GE332, adg, PZ, adh, P5, Hg, Cw⟩ := n_; clear hb hbox hg; have ⟨_, _⟩ := nn PZ; have ⟨_, _⟩ := nn P5; have ⟨_, _⟩ := nn Cw; have ⟨_, _, _, _, _, _, _, _⟩ := cf4 gD))
 have n0_ : ag (Kd.R k98 98 ((((w19.setCell ⟨kw, 0, none⟩ (.int .i64 ((aa ae eD).f0))).setCell ⟨kw, 1, none⟩ (.int .i64 ((aa ae eD).f1))).setCell ⟨kw, 2, none⟩ (.int .i64 ((aa ae eD).f2))).setCell ⟨kw, 3, none⟩ (.int .i64 ((aa ae eD).f3))) w.heap.size (fun k_ => k_ ≠ kw) xz o7) := ⟨by exact rx (Kd.cO (Kd.dN (p := ⟨kw, 3, none⟩) (Kd.dN (p := ⟨kw, 2, none⟩) (Kd.dN (p := ⟨kw, 1, none⟩) (Kd.dN (p := ⟨kw, 0, none⟩) (Kd.cO iY.out (fun k_ hk => (⟨hk, hk.2⟩ : _ ∧ k_ ≠ kw))) (fun _ hk => hk.2) (.int .i64 ((aa ae eD).f0))) (fun _ hk => hk.2) (.int .i64 ((aa ae eD).f1))) (fun _ hk => hk.2) (.int .i64 ((aa ae eD).f2))) (fun _ hk => hk.2) (.int .i64 ((aa ae eD).f3))) (fun _ hk => hk.1.2))⟩
 have n1_ : ag (((((w19.setCell ⟨kw, 0, none⟩ (.int .i64 ((aa ae eD).f0))).setCell ⟨kw, 1, none⟩ (.int .i64 ((aa ae eD).f1))).setCell ⟨kw, 2, none⟩ (.int .i64 ((aa ae eD).f2))).setCell ⟨kw, 3, none⟩ (.int .i64 ((aa ae eD).f3))).heap[Ye]? = some (.cells #[.int .i64 ay, .slice (some adf) ae.length bN] 24 (0, 0))) := ⟨bz⟩
 have n2_ : ag (((((w19.setCell ⟨kw, 0, none⟩ (.int .i64 ((aa ae eD).f0))).setCell ⟨kw, 1, none⟩ (.int .i64 ((aa ae eD).f1))).setCell ⟨kw, 2, none⟩ (.int .i64 ((aa ae eD).f2))).setCell ⟨kw, 3, none⟩ (.int .i64 ((aa ae eD).f3))).heap[KV]? = some (.cells #[.int .i64 0, .slice none 0 0] 24 (0, 0))) := ⟨bz⟩
 have n3_ : ag (((((w19.setCell ⟨kw, 0, none⟩ (.int .i64 ((aa ae eD).f0))).setCell ⟨kw, 1, none⟩ (.int .i64 ((aa ae eD).f1))).setCell ⟨kw, 2, none⟩ (.int .i64 ((aa ae eD).f2))).setCell ⟨kw, 3, none⟩ (.int .i64 ((aa ae eD).f3))).heap[yx]? = some (.cells #[.int .i64 ay, xz] 24 (0, 0))) := ⟨bz⟩
 have n4_ : ag (((((w19.setCell ⟨kw, 0, none⟩ (.int .i64 ((aa ae eD).f0))).setCell ⟨kw, 1, none⟩ (.int .i64 ((aa ae eD).f1))).setCell ⟨kw, 2, none⟩ (.int .i64 ((aa ae eD).f2))).setCell ⟨kw, 3, none⟩ (.int .i64 ((aa ae eD).f3))).heap[kw]? = some (.cells #[.int .i64 ((aa ae eD).f0), .int .i64 ((aa ae eD).f1), .int .i64 ((aa ae eD).f2), .int .i64 ((aa ae eD).f3)] 98 (0, 0))) := ⟨bz⟩
 have n5_ : ag (Below w.heap.size w ((((w19.setCell ⟨kw, 0, none⟩ (.int .i64 ((aa ae eD).f0))).setCell ⟨kw, 1, none⟩ (.int .i64 ((aa ae eD).f1))).setCell ⟨kw, 2, none⟩ (.int .i64 ((aa ae eD).f2))).setCell ⟨kw, 3, none⟩ (.int .i64 ((aa ae eD).f3)))) := ⟨lb⟩
 (try clear iY)
 (try clear kW)
 (try clear mF)
 (try clear kr)
 (try clear gD)
 (try clear HB)
 generalize ((((w19.setCell ⟨kw, 0, none⟩ (.int .i64 ((aa ae eD).f0))).setCell ⟨kw, 1, none⟩ (.int .i64 ((aa ae eD).f1))).setCell ⟨kw, 2, none⟩ (.int .i64 ((aa ae eD).f2))).setCell ⟨kw, 3, none⟩ (.int .i64 ((aa ae eD).f3))) = w24 at n0_ n1_ n2_ n3_ n4_ n5_ ⊢
 have iY := n0_; have kW := n1_; have mF := n2_; have kr := n3_; have gD := n4_; have HB := n5_; clear n0_ n1_ n2_ n3_ n4_ n5_; have n_ := a6 (Kd.fH iY.out) (aK kW.out) (aK mF.out) (aK kr.out) (aK gD.out) (bJ HB.out); clear iY kW mF kr gD HB; obtain ⟨iY, kW, mF, kr, gD, HB⟩ := n_; obtain ⟨p333, q333, Xy, e333, nS⟩ := wq (Kd.bB HR1.out eD); have rH := nS; cases e333
 (try replace nS := hbc HB nS)
 refine stC 20 [19] (cX (bc0 kr) (cX (bc1 kr) (cX (bc0 gD) (cX (bc1 gD) (cX (bc2 gD) (cX (bc3 gD) (cY (hbc HB rH)))))))) aJ.UK aJ.GG fun hHeld HT_ HW_ => ?_
 generalize w24.drew = w25 at iY kW mF kr gD HB nS hHeld ⊢
 refine pv HT_ 0 23 ?_; refine pv HT_ 2 25 ?_; refine pv HT_ 4 27 ?_; refine pv HT_ 6 29 ?_; refine pv HT_ 8 31 ?_; refine pv HT_ 9 32 ?_; refine pv HT_ 10 33 ?_; refine pv HT_ 13 36 ?_; refine tv HT_ HW_ hHeld 1 24 ?_; refine tv HT_ HW_ hHeld 3 26 ?_; refine tv HT_ HW_ hHeld 5 28 ?_; refine tv HT_ HW_ hHeld 7 30 ?_; refine tv HT_ HW_ hHeld 11 34 ?_; refine pv HT_ 12 35 ?_; refine tv HT_ HW_ hHeld 14 37 ?_; refine pv HT_ 15 38 ?_
 refine wT (i := 16) (N := some 39) #[T, T, T, T, T, T, T, T, T, T, T, T, T, T, T, T, T, F, F, F] rfl rfl (gP HT_.out (by kernel_rfl)) (by decide) (fun K hK => ?_)
 refine zV (w1 := ?_) (v := ?_) (by rfl) rfl ?_ ?_
 rotate_left 2
 ·
  go_simp
  constructor
  ·
   rfl
  ·
   rfl
 refine hK.out _ _ ⟨(aH (bg kr.out _) 0).trans rfl, (aH (bg kr.out _) 1).trans rfl, (aH (bg gD.out _) 0).trans rfl, (aH (bg gD.out _) 1).trans rfl, (aH (bg gD.out _) 2).trans rfl, (aH (bg gD.out _) 3).trans rfl, (World.cell?_alloc_lt _ _ _ (World.block_lt_of_cell? _ _ ((hbc HB rH)))).trans ((hbc HB rH))⟩ (fun hHeld => ?_)
 clear hK K
 refine ol (a' := ?_) ?_ ?_
 rotate_left
 ·
  show Act.put _ (some 39) _ = _
  simp only [Act.put, sA, sZ, sS, jA, jG]
  rfl
 refine wT (i := 17) (N := some 40) #[T, T, T, T, T, T, T, T, T, T, T, T, T, T, T, T, T, T, F, F] rfl rfl (gP HT_.out (by kernel_rfl)) (by decide) (fun K hK => ?_)
 refine Kd.kV k98 (w0 := w) w.heap.size (by rfl) (.tmp 24) (.tmp 39) 22 98 (.agg #[(.int .i64 0), (.int .i64 0), (.int .i64 0), (.int .i64 0)]) 32 rfl Try.underlying22 Ec rfl (by decide) (by omega) xz o7 (⟨(aa ae eD).f0, (aa ae eD).f1, wrap64 (((aa ae eD).f2) - (rd l1 eD)), (aa ae eD).f3⟩ : S98) [.int .i64 ((aa ae eD).f0), .int .i64 ((aa ae eD).f1), .int .i64 (wrap64 (((aa ae eD).f2) - (rd l1 eD))), .int .i64 ((aa ae eD).f3)] (fun k_ => k_ ≠ kw) (fun _ => False) rfl rfl ?aP (fun _ hk => hk.elim) ?aF ?aO ?aB ?aS ?aL ?_
 (case aP => exact sG _ _ _ (⟨(aa ae eD).f0, (aa ae eD).f1, wrap64 (((aa ae eD).f2) - (rd l1 eD)), (aa ae eD).f3⟩ : S98))
 (case aB => exact lb)
 (case aF => exact (fun k_ hk => Kd.ul (g := kw) (o := .cells #[.int .i64 ((aa ae eD).f0), .int .i64 ((aa ae eD).f1), .int .i64 ((aa ae eD).f2), .int .i64 ((aa ae eD).f3)] 98 (0, 0)) (bx gD.out) k_ hk))
 (case aO => exact (rx iY.out))
 (case aS => exact (ax lb))
 (case aL => have := LMc14.out; omega)
 intro v335 w26 ho hb hg hat; rw [← Ny334.out] at ho
 have n_ := a6 (bH (bx kW.out) hg (Kd.gQ iY.out kW.out (by decide))) (bH (bx mF.out) hg (Kd.gQ iY.out mF.out (by decide))) (bH (bx kr.out) hg (Kd.gQ iY.out kr.out (by decide))) (bH (bx gD.out) hg (Kd.JV iY.out (fun _ hk => hk))) hb ho; clear kW mF kr gD HB iY; obtain ⟨kW, mF, kr, gD, HB, yB⟩ := n_
 clear ho hb hg hat; obtain ⟨Ao27, co27, eo27⟩ := Kd.bT yB.out
 (first | subst eo27 | (injection eo27 with f1_ f2_ f3_; have f4_ := f1_.symm; have f5_ := f3_.symm; clear f1_ f2_ f3_; subst f4_; subst f5_))
 refine hK.out _ _ ⟨(aH kr.out 0).trans rfl, (aH kr.out 1).trans rfl, (aH gD.out 0).trans rfl, (aH gD.out 1).trans rfl, (aH gD.out 2).trans rfl, (aH gD.out 3).trans rfl, (hbc HB rH)⟩ (fun hHeld => ?_)
 clear hK K
 refine ol (a' := ?_) ?_ ?_
 rotate_left
 ·
  show Act.put _ (some 40) _ = _
  simp only [Act.put, sA, sZ, sS, jA, jG]
  rfl
 refine pv HT_ 18 41 ?_
 refine um (i := 19) (N := none) #[T, T, T, T, T, T, T, T, T, T, T, T, T, T, T, T, T, T, T, T] rfl rfl (gP HT_.out (by kernel_rfl)) (by decide) (fun K hK => ?_)
 have hs28 : w26.cell? ⟨yx, 1, none⟩ = some (xz) := (aH kr.out 1).trans rfl; have hfs28 := bf kr 1; have hns28_0 := yz.out; have hns28_1 := Hf.out; have hns28_3 := Cw.out; have hms28_0 := Cv.out; have hms28_1 := yA.out; have hms28_3 := Hg.out
 refine tV (w1 := ?_) (by rfl) rfl ?_ ?_
 rotate_left
 ·
  go_simp
  rfl
 refine hK.out _ _ ?_
 clear hK K
 refine kN (fV HT_.out (by kernel_rfl)) ?_
 try go_wp2
 have n0_ : ag (Kd.R k98 98 (w26.setCell ⟨yx, 1, none⟩ (.slice Ao27 Ef.length co27)) w.heap.size (fun k_ => k_ ≠ kw) (.slice Ao27 Ef.length co27) Ef) := ⟨by exact rx (Kd.cO (Kd.dN (p := ⟨yx, 1, none⟩) (Kd.fC yB.out kr.out (by decide)) (fun _ hk => hk.2) (.slice Ao27 Ef.length co27)) (fun _ hk => hk.1))⟩
 have n1_ : ag ((w26.setCell ⟨yx, 1, none⟩ (.slice Ao27 Ef.length co27)).heap[Ye]? = some (.cells #[.int .i64 ay, .slice (some adf) ae.length bN] 24 (0, 0))) := ⟨bz⟩
 have n2_ : ag ((w26.setCell ⟨yx, 1, none⟩ (.slice Ao27 Ef.length co27)).heap[KV]? = some (.cells #[.int .i64 0, .slice none 0 0] 24 (0, 0))) := ⟨bz⟩
 have n3_ : ag ((w26.setCell ⟨yx, 1, none⟩ (.slice Ao27 Ef.length co27)).heap[yx]? = some (.cells #[.int .i64 ay, .slice Ao27 Ef.length co27] 24 (0, 0))) := ⟨bz⟩
 have n4_ : ag ((w26.setCell ⟨yx, 1, none⟩ (.slice Ao27 Ef.length co27)).heap[kw]? = some (.cells #[.int .i64 ((aa ae eD).f0), .int .i64 ((aa ae eD).f1), .int .i64 ((aa ae eD).f2), .int .i64 ((aa ae eD).f3)] 98 (0, 0))) := ⟨bz⟩
 have n5_ : ag (Below w.heap.size w (w26.setCell ⟨yx, 1, none⟩ (.slice Ao27 Ef.length co27))) := ⟨lb⟩
 (try clear yB)
 (try clear kW)
 (try clear mF)
 (try clear kr)
 (try clear gD)
 (try clear HB)
 generalize (w26.setCell ⟨yx, 1, none⟩ (.slice Ao27 Ef.length co27)) = w29 at n0_ n1_ n2_ n3_ n4_ n5_ ⊢
 have yB := n0_; have kW := n1_; have mF := n2_; have kr := n3_; have gD := n4_; have HB := n5_; clear n0_ n1_ n2_ n3_ n4_ n5_; have n_ := a6 (Kd.fH yB.out) (aK kW.out) (aK mF.out) (aK kr.out) (aK gD.out) (bJ HB.out); clear yB kW mF kr gD HB; obtain ⟨yB, kW, mF, kr, gD, HB⟩ := n_; obtain ⟨p337, q337, ad337, e337, FB⟩ := wq (Kd.bB HR1.out eD); have FC := FB
 obtain rfl : Xy = ad337 := (by injection e337)
 (try replace FB := hbc HB FB)
 refine stC 18 [17] (cX (bc0 kr) (cX (bc1 kr) (cX (bc0 gD) (cX (bc1 gD) (cX (bc2 gD) (cX (bc3 gD) (cY (hbc HB FC)))))))) aJ.UL aJ.GH fun hHeld HT_ HW_ => ?_
 generalize w29.drew = w30 at yB kW mF kr gD HB FB hHeld ⊢
 refine pv HT_ 0 42 ?_; refine pv HT_ 2 44 ?_; refine pv HT_ 4 46 ?_; refine pv HT_ 6 48 ?_; refine pv HT_ 7 49 ?_; refine pv HT_ 8 50 ?_; refine pv HT_ 10 52 ?_; refine tv HT_ HW_ hHeld 1 43 ?_; refine tv HT_ HW_ hHeld 3 45 ?_; refine tv HT_ HW_ hHeld 5 47 ?_; refine tv HT_ HW_ hHeld 9 51 ?_; refine tv HT_ HW_ hHeld 11 53 ?_; refine pv HT_ 12 54 ?_; refine pv HT_ 13 55 ?_
 refine wT (i := 14) (N := some 56) #[T, T, T, T, T, T, T, T, T, T, T, T, T, T, T, F, F, F] rfl rfl (gP HT_.out (by kernel_rfl)) (by decide) (fun K hK => ?_)
 refine zV (w1 := ?_) (v := ?_) (by rfl) rfl ?_ ?_
 rotate_left 2
 ·
  go_simp
  constructor
  ·
   rfl
  ·
   rfl
 refine hK.out _ _ ⟨(aH (bg kr.out _) 0).trans rfl, (aH (bg kr.out _) 1).trans rfl, (aH (bg gD.out _) 0).trans rfl, (aH (bg gD.out _) 1).trans rfl, (aH (bg gD.out _) 2).trans rfl, (aH (bg gD.out _) 3).trans rfl, (World.cell?_alloc_lt _ _ _ (World.block_lt_of_cell? _ _ ((hbc HB FC)))).trans ((hbc HB FC))⟩ (fun hHeld => ?_)
 clear hK K
 refine ol (a' := ?_) ?_ ?_
 rotate_left
 ·
  show Act.put _ (some 56) _ = _
  simp only [Act.put, sA, sZ, sS, jA, jG]
  rfl
 refine wT (i := 15) (N := some 57) #[T, T, T, T, T, T, T, T, T, T, T, T, T, T, T, T, F, F] rfl rfl (gP HT_.out (by kernel_rfl)) (by decide) (fun K hK => ?_)
 refine Kd.kV k98 (w0 := w) w.heap.size (by rfl) (.tmp 43) (.tmp 56) 22 98 (.agg #[(.int .i64 0), (.int .i64 0), (.int .i64 0), (.int .i64 0)]) 32 rfl Try.underlying22 Ec rfl (by decide) (by omega) (.slice Ao27 Ef.length co27) Ef (⟨(aa ae eD).f1, (aa ae eD).f0, rd l1 eD, wrap64 (-((aa ae eD).f3))⟩ : S98) [.int .i64 ((aa ae eD).f1), .int .i64 ((aa ae eD).f0), .int .i64 (rd l1 eD), .int .i64 (wrap64 (-((aa ae eD).f3)))] (fun k_ => k_ ≠ kw) (fun _ => False) rfl rfl ?aP (fun _ hk => hk.elim) ?aF ?aO ?aB ?aS ?aL ?_
 (case aP => exact sG _ _ _ (⟨(aa ae eD).f1, (aa ae eD).f0, rd l1 eD, wrap64 (-((aa ae eD).f3))⟩ : S98))
 (case aB => exact lb)
 (case aF => exact (fun k_ hk => Kd.ul (g := kw) (o := .cells #[.int .i64 ((aa ae eD).f0), .int .i64 ((aa ae eD).f1), .int .i64 ((aa ae eD).f2), .int .i64 ((aa ae eD).f3)] 98 (0, 0)) (bx gD.out) k_ hk))
 (case aO => exact (rx yB.out))
 (case aS => exact (ax lb))
 (case aL => have := LMc15.out; omega)
 intro v339 w31 ho hb hg hat; rw [← Ny338.out] at ho
 have n_ := a6 (bH (bx kW.out) hg (Kd.gQ yB.out kW.out (by decide))) (bH (bx mF.out) hg (Kd.gQ yB.out mF.out (by decide))) (bH (bx kr.out) hg (Kd.gQ yB.out kr.out (by decide))) (bH (bx gD.out) hg (Kd.JV yB.out (fun _ hk => hk))) hb ho; clear kW mF kr gD HB yB; obtain ⟨kW, mF, kr, gD, HB, adi⟩ := n_
 clear ho hb hg hat; obtain ⟨Ao32, co32, eo32⟩ := Kd.bT adi.out
 (first | subst eo32 | (injection eo32 with f1_ f2_ f3_; have f4_ := f1_.symm; have f5_ := f3_.symm; clear f1_ f2_ f3_; subst f4_; subst f5_))
 refine hK.out _ _ ⟨(aH kr.out 0).trans rfl, (aH kr.out 1).trans rfl, (aH gD.out 0).trans rfl, (aH gD.out 1).trans rfl, (aH gD.out 2).trans rfl, (aH gD.out 3).trans rfl, (hbc HB FC)⟩ (fun hHeld => ?_)
 clear hK K
 refine ol (a' := ?_) ?_ ?_
 rotate_left
 ·
  show Act.put _ (some 57) _ = _
  simp only [Act.put, sA, sZ, sS, jA, jG]
  rfl
 refine pv HT_ 16 58 ?_
 refine um (i := 17) (N := none) #[T, T, T, T, T, T, T, T, T, T, T, T, T, T, T, T, T, T] rfl rfl (gP HT_.out (by kernel_rfl)) (by decide) (fun K hK => ?_)
 have hs33 : w31.cell? ⟨yx, 1, none⟩ = some (.slice Ao27 Ef.length co27) := (aH kr.out 1).trans rfl; have hfs33 := bf kr 1; have hns33_0 := yz.out; have hns33_1 := Hf.out; have hns33_3 := Cw.out; have hms33_0 := Cv.out; have hms33_1 := yA.out; have hms33_3 := Hg.out
 refine tV (w1 := ?_) (by rfl) rfl ?_ ?_
 rotate_left
 ·
  go_simp
  rfl
 refine hK.out _ _ ?_
 clear hK K
 refine kN (fV HT_.out (by kernel_rfl)) ?_
 try go_wp2
 go_roundg k1
 case measure => have := HK1.out; omega
 case rel => exact ⟨(wrap64 (eD + 1)), (y338), (.slice Ao32 y338.length co32), sr, H', ⟨by have := HK1.out; omega⟩, ⟨by exact rx (Kd.cO (Kd.dN (p := ⟨yx, 1, none⟩) (Kd.fC adi.out kr.out (by decide)) (fun _ hk => hk.2) (.slice Ao32 y338.length co32)) (fun _ hk => trivial))⟩, ⟨bz⟩, ⟨bz⟩, ⟨bz⟩, ⟨lb⟩⟩
end Go.Proofs.Ytkdoihcjhccliaa.Q
