import Derived.Test.YtkdoihcjhccliaaK
import Derived.Test.YtkdoihcjhccliaaV
import Derived.Test.YtkdoihcjhccliaaQ0
import Derived.Test.YtkdoihcjhccliaaQ3
namespace Go.Proofs.Ytkdoihcjhccliaa.Q
open Go.RowKit Go.Proofs.YtkdoihcjhccliaaW.PrintWords Go.Proofs.YtkdoihcjhccliaaW.PrintLast Go.Proofs.YtkdoihcjhccliaaW.PrintMore
attribute [local go_sem] dF dG eG eH cz cB dH dI   -- for this text's walks alone
set_option linter.unusedVariables false
set_option linter.unusedSimpArgs false

/-! ### bA: function 71 -/
def bA.l0 : Nat → List Int → Int → Int → List (S98) → Int → List (S98) → Option (Int × (List (S98)) × List Int)
  | 0, _, _, _, _, _, _ => none
  | k + 1, x5, x6, QB, vK, Js, FT => if x6 < (vK.length : Int) then (if 0 ≤ x6 then (if ((aa vK x6).f2) > 0 then (if FT.length < 4398046511104 then (if x5.length < 17592186044416 then (bA.l0 k (x5 ++ [x6]) (wrap64 (x6 + 1)) QB vK Js (FT ++ [(⟨(aa vK x6).f0, (aa vK x6).f1, (aa vK x6).f2, (aa vK x6).f3⟩ : S98)])) else (none)) else (none)) else (bA.l0 k x5 (wrap64 (x6 + 1)) QB vK Js FT)) else (none)) else (some (Js, FT, x5))
def bA.f (k : Nat) (ay : Int) (ae : List (S98)) : Option (Int × (List (S98)) × List Int) := bA.l0 k ([] : List Int) 0 ay ae ay ([] : List (S98))
def bA.T7 : Bool × List (List Nat × List Nat) := (true, [([], []), ([0], [0]), ([], []), ([2], [2]), ([], []), ([3, 4], [3, 4]), ([5], [5]), ([6], [6]), ([1, 7], [1, 7]), ([0, 1, 2, 3, 4, 5, 6, 7, 8], []), ([9, 8, 8, 0, 1, 2, 3, 4, 5, 6, 7, 8], [8, 9])])
def bA.B7 : List Nat := [0, 1, 0, 4, 0, 28, 60, 124, 255, 511, 1023]
theorem bA.UL : oO .any (opsOf Try.f71 7) = bA.T7 := by kernel_rfl
theorem bA.GH : gM bA.T7.2 bA.B7 = true := by kernel_rfl
set_option maxHeartbeats 8000000 in
set_option maxRecDepth 100000 in
theorem bA.calls (k : Nat) (ay : Int) (bX : Option Addr) (bN : Nat) (ae : List (S98)) (r1 : Int) (r2 : List (S98)) (r3 : List Int) (w : World) (dB : Kd.C k98 w bX ae.length ae) (dC : ae.length ≤ bN) (h : bA.f k ay ae = some (r1, r2, r3)) :
    Calls Try.prog 71 #[.agg #[.int .i64 ay, .slice bX ae.length bN]] w fun e w' => ∃ v1_ v2_ : Value, e = .returned (.tuple #[.agg #[.int .i64 r1, v1_], v2_]) ∧ Kd.R k98 98 w' w.heap.size (fun _ => True) v1_ r2 ∧ Kd.R (Kd.int .i64) 3 w' w.heap.size (fun _ => True) v2_ r3 ∧ Below w.heap.size w w' := by
 have hu24 := Try.underlying24; have hu98 := Try.underlying98; have bU := ak dB; have eU := ak dC; clear dB dC; have HB := ak (Below.refl w.heap.size w); have H : (bA.l0 k ([] : List Int) 0 ay ae ay ([] : List (S98))) = some (r1, r2, r3) := h; clear h; have H' := ak H; clear H
 go_enter Try.func71, Try.ntmps71
 go_wp2_with (first | ((with_reducible refine aC (N := 1) rfl ?_); refine bxe 1 #[.int .i64 ay, .slice bX ae.length bN] 24 ?_; intro adR hg w2 hbox hb; have n_ := a4 (bl hb) hbox (gw w hg) (gw w hg); clear HB; obtain ⟨HB, l8, GW554, GE554⟩ := n_; clear hb hbox hg) | ((with_reducible refine aC (N := 2) rfl ?_); refine bxe 2 #[.int .i64 0, .slice none 0 0] 24 ?_; intro Jt hg w3 hbox hb; have n_ := a7 (bo l8 hb) (bl hb) hbox (gw w hg) (gw w hg) (nl hg l8) (nr hg l8); clear l8 HB; obtain ⟨l8, HB, q9, GW555, GE555, yC, adS⟩ := n_; clear hb hbox hg; have ⟨_, _⟩ := nn yC; have ⟨_, _, _, _⟩ := cf2 l8) | ((with_reducible refine aC (N := 4) rfl ?_); refine bxe 4 #[.int .i64 0, .slice none 0 0] 24 ?_; intro KZ hg w6 hbox hb; have n_ := a10 (bo l8 hb) (bo q9 hb) (bl hb) hbox (gw w hg) (gw w hg) (nl hg l8) (nr hg l8) (nl hg q9) (nr hg q9); clear l8 q9 HB; obtain ⟨l8, q9, HB, oM, GW556, GE556, yD, Hl, QC, CU⟩ := n_; clear hb hbox hg; have ⟨_, _⟩ := nn Hl; have ⟨_, _⟩ := nn CU; have ⟨_, _, _, _⟩ := cf2 oM))
 go_loopg [5, 6] k (fun kq v5 v6 w' => ∃ (bV : List Int) (eD : Int) (nX : List (S98)) (y9 : Value), v6 = .int .i64 eD ∧ ag (bA.l0 kq bV eD ay ae ay nX = some (r1, r2, r3)) ∧ ag (kq ≤ k) ∧ ag (Kd.R (Kd.int .i64) 3 w' w.heap.size (fun _ => True) v5 bV) ∧ ag (Kd.R k98 98 w' w.heap.size (fun _ => True) y9 nX) ∧ ag (w'.heap[adR]? = some (.cells #[.int .i64 ay, (.slice bX ae.length bN)] 24 (0, 0))) ∧ ag (w'.heap[Jt]? = some (.cells #[.int .i64 0, (.slice none 0 0)] 24 (0, 0))) ∧ ag (w'.heap[KZ]? = some (.cells #[.int .i64 ay, y9] 24 (0, 0))) ∧ ag (Below w.heap.size w w'))
 case atStart => exact ⟨(([] : List Int)), (0), (([] : List (S98))), (.slice none 0 0), sr, H', ⟨Nat.le_refl _⟩, ⟨by first | exact Kd.uo _ _ _ _ _ | exact Kd.yP _ _ _ _ _ | exact Kd.uw _ _ _ _ _ | exact Kd.yN _ _ _ _ _ | exact Kd.yO _ _ _ _ _⟩, ⟨by first | exact Kd.uo _ _ _ _ _ | exact Kd.yP _ _ _ _ _ | exact Kd.uw _ _ _ _ _ | exact Kd.yN _ _ _ _ _ | exact Kd.yO _ _ _ _ _⟩, ⟨bz⟩, ⟨bz⟩, ⟨bz⟩, ⟨lb⟩⟩
 clear H'; obtain ⟨bV, eD, nX, y9, rfl, HA, HK1, fJ, kS, l8, q9, oM, HB⟩ := hrel
 cases gk with
 | zero => exact absurd HA.out (by simp [bA.l0])
 | succ k1 => ?_
 have H := HA.out; clear HA
 simp only [bA.l0] at H
 by_cases c10 : eD < (ae.length : Int)
 rotate_left
 ·
  rw [if_neg c10] at H; have c10b0 := decide_eq_false c10; clear c10
  simp only [Option.some.injEq, Prod.mk.injEq] at H
  obtain ⟨rfl, rfl, rfl⟩ := H; have ⟨_, _⟩ := nn yC; have ⟨_, _⟩ := nn yD; have ⟨_, _, _, _⟩ := cf2 l8; have ⟨_, _⟩ := nn CU; have ⟨_, _, _, _⟩ := cf2 oM; have ⟨_, _, _, _⟩ := cf2 q9; obtain ⟨Ao32, co32, eo32⟩ := Kd.bT kS.out; subst eo32
  go_wp2
  refine bodyPost_ret (pX rfl _ _ Jt 24 #[.int .i64 ay, .slice Ao32 nX.length co32] (0, 0) _ rfl bz Try.underlying24 rfl (by kernel_rfl)) rfl ?_
  exact ⟨_, _, by first | rfl | (simp [dx, dz] <;> rfl) | (simp [*, dx, dz] <;> rfl), by exact rx (Kd.cO (Kd.dN (p := ⟨Jt, 1, none⟩) (Kd.dN (p := ⟨Jt, 0, none⟩) (Kd.fC kS.out q9.out (by decide)) (fun _ hk => hk.2) (.int .i64 ay)) (fun _ hk => hk.2) (.slice Ao32 nX.length co32)) (fun _ hk => trivial)), by exact rx (Kd.cO (Kd.dN (p := ⟨Jt, 1, none⟩) (Kd.dN (p := ⟨Jt, 0, none⟩) (Kd.fC fJ.out q9.out (by decide)) (fun _ hk => hk.2) (.int .i64 ay)) (fun _ hk => hk.2) (.slice Ao32 nX.length co32)) (fun _ hk => trivial)), lb⟩
 rw [if_pos c10] at H; have c10b0 := decide_eq_true c10; clear c10; replace H := ifd H; obtain ⟨c11b0, H⟩ := H
 by_cases c12 : ((aa ae eD).f2) > 0
 rotate_left
 ·
  rw [if_neg c12] at H; have c12b0 := decide_eq_false c12; clear c12; have H' := ak H; clear H; have ⟨_, _⟩ := nn yC; have ⟨_, _⟩ := nn yD; have ⟨_, _, _, _⟩ := cf2 l8; obtain ⟨p557, q557, Y3, e557, CV, CW, CX, CY⟩ := wq (dU bU.out eD); cases e557
  (try replace CV := hbc HB CV)
  (try replace CW := hbc HB CW)
  (try replace CX := hbc HB CX)
  (try replace CY := hbc HB CY)
  go_wp2
  go_roundg k1
  case measure => have := HK1.out; omega
  case rel => exact ⟨(bV), (wrap64 (eD + 1)), (nX), (y9), sr, H', ⟨by have := HK1.out; omega⟩, ⟨rx fJ.out⟩, ⟨rx kS.out⟩, xb l8, xb q9, xb oM, ⟨lb⟩⟩
 rw [if_pos c12] at H; have c12b0 := decide_eq_true c12; clear c12; replace H := ifn H; obtain ⟨c13, H⟩ := H; have LMc13 := ak c13; clear c13; obtain ⟨UY, Y4⟩ : ∃ y_ : List (S98), y_ = (nX ++ [(⟨(aa ae eD).f0, (aa ae eD).f1, (aa ae eD).f2, (aa ae eD).f3⟩ : S98)]) := ⟨_, rfl⟩; replace H : (if bV.length < 17592186044416 then (bA.l0 k1 (bV ++ [eD]) (wrap64 (eD + 1)) ay ae ay UY) else (none)) = some (r1, r2, r3) := by first | (rw [Y4]; exact H) | exact H
 have Ny559 := ak Y4; clear Y4; replace H := ifn H; obtain ⟨c14, H⟩ := H; have LMc14 := ak c14; clear c14; obtain ⟨y562, Y5⟩ : ∃ y_ : List Int, y_ = (bV ++ [eD]) := ⟨_, rfl⟩; replace H : (bA.l0 k1 y562 (wrap64 (eD + 1)) ay ae ay UY) = some (r1, r2, r3) := by first | (rw [Y5]; exact H) | exact H
 have Ny562 := ak Y5; clear Y5; have H' := ak H; clear H; have ⟨_, _⟩ := nn yC; have ⟨_, _⟩ := nn yD; have ⟨_, _, _, _⟩ := cf2 l8; obtain ⟨p557, q557, Y3, e557, CV, CW, CX, CY⟩ := wq (dU bU.out eD); cases e557
 (try replace CV := hbc HB CV)
 (try replace CW := hbc HB CW)
 (try replace CX := hbc HB CX)
 (try replace CY := hbc HB CY)
 try go_wp2
 have n_ := a6 (Kd.fH fJ.out) (Kd.fH kS.out) (aK l8.out) (aK q9.out) (aK oM.out) (bJ HB.out); clear fJ kS l8 q9 oM HB; obtain ⟨fJ, kS, l8, q9, oM, HB⟩ := n_; obtain ⟨p558, q558, ad558, e558, FU, FV, FW, FX⟩ := wq (dU bU.out eD); have FY := FX; have FZ := FW; have F3 := FV; have F4 := FU
 obtain rfl : Y3 = ad558 := (by injection e558)
 (try replace FU := hbc HB FU)
 (try replace FV := hbc HB FV)
 (try replace FW := hbc HB FW)
 (try replace FX := hbc HB FX)
 refine stC 11 [10] (cX (bc0 oM) (cX (bc1 oM) (cX (bc0 l8) (cX (bc1 l8) (cX (hbc HB F4) (cX (hbc HB F3) (cX (hbc HB FZ) (cY (hbc HB FY))))))))) bA.UL bA.GH fun hHeld HT_ HW_ => ?_
 generalize wr.drew = w18 at fJ kS l8 q9 oM HB FU FV FW FX hHeld ⊢
 refine pv HT_ 0 24 ?_; refine pv HT_ 2 26 ?_; refine pv HT_ 4 28 ?_; refine tv HT_ HW_ hHeld 1 25 ?_; refine tv HT_ HW_ hHeld 3 27 ?_; refine pv HT_ 5 29 ?_; refine tv HT_ HW_ hHeld 6 30 ?_
 refine wT (i := 7) (N := some 31) #[T, T, T, T, T, T, T, T, F, F, F] rfl rfl (gP HT_.out (by kernel_rfl)) (by decide) (fun K hK => ?_)
 refine zV (w1 := ?_) (v := ?_) (by rfl) rfl ?_ ?_
 rotate_left 2
 ·
  go_simp
  constructor
  ·
   rfl
  ·
   rfl
 refine hK.out _ _ ⟨(aH (bg oM.out _) 0).trans rfl, (aH (bg oM.out _) 1).trans rfl, (aH (bg l8.out _) 0).trans rfl, (aH (bg l8.out _) 1).trans rfl, (World.cell?_alloc_lt _ _ _ (World.block_lt_of_cell? _ _ ((hbc HB F4)))).trans ((hbc HB F4)), (World.cell?_alloc_lt _ _ _ (World.block_lt_of_cell? _ _ ((hbc HB F3)))).trans ((hbc HB F3)), (World.cell?_alloc_lt _ _ _ (World.block_lt_of_cell? _ _ ((hbc HB FZ)))).trans ((hbc HB FZ)), (World.cell?_alloc_lt _ _ _ (World.block_lt_of_cell? _ _ ((hbc HB FY)))).trans ((hbc HB FY))⟩ (fun hHeld => ?_)
 clear hK K
 refine ol (a' := ?_) ?_ ?_
 rotate_left
 ·
  show Act.put _ (some 31) _ = _
  simp only [Act.put, sA, sZ, sS, jA, jG]
  rfl
 refine wT (i := 8) (N := some 32) #[T, T, T, T, T, T, T, T, T, F, F] rfl rfl (gP HT_.out (by kernel_rfl)) (by decide) (fun K hK => ?_)
 refine Kd.kV k98 (w0 := w) w.heap.size (by rfl) (.tmp 25) (.tmp 31) 22 98 (.agg #[(.int .i64 0), (.int .i64 0), (.int .i64 0), (.int .i64 0)]) 32 rfl Try.underlying22 Ec rfl (by decide) (by omega) y9 nX (⟨(aa ae eD).f0, (aa ae eD).f1, (aa ae eD).f2, (aa ae eD).f3⟩ : S98) [.int .i64 ((aa ae eD).f0), .int .i64 ((aa ae eD).f1), .int .i64 ((aa ae eD).f2), .int .i64 ((aa ae eD).f3)] (fun _ => True) (fun _ => False) rfl rfl ?aP (fun _ hk => hk.elim) ?aF ?aO ?aB ?aS ?aL ?_
 (case aP => exact sG _ _ _ (⟨(aa ae eD).f0, (aa ae eD).f1, (aa ae eD).f2, (aa ae eD).f3⟩ : S98))
 (case aB => exact lb)
 (case aF => exact (fun _ _ => trivial))
 (case aO => exact (rx kS.out))
 (case aS => exact (ax lb))
 (case aL => have := LMc13.out; omega)
 intro v560 w19 ho hb hg hat; rw [← Ny559.out] at ho
 have n_ := a6 (Kd.jB (rx fJ.out) (Kd.ji (rx kS.out)) (by decide) hg) (bH (bx l8.out) hg (Kd.gQ kS.out l8.out (by decide))) (bH (bx q9.out) hg (Kd.gQ kS.out q9.out (by decide))) (bH (bx oM.out) hg (Kd.gQ kS.out oM.out (by decide))) hb ho; clear fJ l8 q9 oM HB kS; obtain ⟨fJ, l8, q9, oM, HB, QD⟩ := n_
 clear ho hb hg hat; obtain ⟨Ao20, co20, eo20⟩ := Kd.bT QD.out
 (first | subst eo20 | (injection eo20 with f1_ f2_ f3_; have f4_ := f1_.symm; have f5_ := f3_.symm; clear f1_ f2_ f3_; subst f4_; subst f5_))
 refine hK.out _ _ ⟨(aH oM.out 0).trans rfl, (aH oM.out 1).trans rfl, (aH l8.out 0).trans rfl, (aH l8.out 1).trans rfl, (hbc HB F4), (hbc HB F3), (hbc HB FZ), (hbc HB FY)⟩ (fun hHeld => ?_)
 clear hK K
 refine ol (a' := ?_) ?_ ?_
 rotate_left
 ·
  show Act.put _ (some 32) _ = _
  simp only [Act.put, sA, sZ, sS, jA, jG]
  rfl
 refine pv HT_ 9 33 ?_
 refine um (i := 10) (N := none) #[T, T, T, T, T, T, T, T, T, T, T] rfl rfl (gP HT_.out (by kernel_rfl)) (by decide) (fun K hK => ?_)
 have hs21 : w19.cell? ⟨KZ, 1, none⟩ = some (y9) := (aH oM.out 1).trans rfl; have hfs21 := bf oM 1; have hns21_0 := yD.out; have hns21_1 := QC.out; have hms21_0 := Hl.out; have hms21_1 := CU.out
 refine tV (w1 := ?_) (by rfl) rfl ?_ ?_
 rotate_left
 ·
  go_simp
  rfl
 refine hK.out _ _ ?_
 clear hK K
 refine kN (fV HT_.out (by kernel_rfl)) ?_
 try go_wp2_with (first | ((with_reducible refine lJ (b := .append) (xs := #[.tmp 34, .tmp 36]) rfl ?_); at_builtin; refine Kd.xQ (Kd.int .i64) (w0 := w) w.heap.size rfl (.tmp 34) (.tmp 36) 70 3 (.int .i64 0) 8 rfl Try.underlying70 info3 rfl (by decide) (by omega) u5 bV eD [.int .i64 eD] (fun _ => True) (fun _ => False) rfl (by first | (go_simp; done) | (go_simp; rfl)) ?aP (fun _ hk => hk.elim) ?aF ?aO ?aB ?aS ?aL ?_; (case aP => exact rfl); (case aB => exact lb); (case aF => exact (fun _ _ => trivial)); (case aO => exact (by exact rx (Kd.cO (Kd.dN (p := ⟨KZ, 1, none⟩) (Kd.fC fJ.out oM.out (by decide)) (fun _ hk => hk.2) (.slice Ao20 UY.length co20)) (fun _ hk => trivial)))); (case aS => exact (ax lb)); (case aL => have := LMc14.out; omega); intro v563 w22 ho hb hg hat; rw [← Ny562.out] at ho; have n_ := a6 (bH (g := adR) (o := .cells #[.int .i64 ay, .slice (some Y3) ae.length bN] 24 (0, 0)) bz hg (Kd.gQ fJ.out l8.out (by decide))) (bH (g := Jt) (o := .cells #[.int .i64 0, .slice none 0 0] 24 (0, 0)) bz hg (Kd.gQ fJ.out q9.out (by decide))) (bH (g := KZ) (o := .cells #[.int .i64 ay, .slice Ao20 UY.length co20] 24 (0, 0)) bz hg (Kd.gQ fJ.out oM.out (by decide))) (Kd.jB (by (with_reducible repeat (first | apply Kd.pq | apply Kd.oD | apply Kd.fH)); exact (Kd.cO (Kd.dN (p := ⟨KZ, 1, none⟩) (Kd.fC QD.out oM.out (by decide)) (fun _ hk => hk.2) (.slice Ao20 UY.length co20)) (fun _ h_ => h_.1))) (Kd.ji (by (with_reducible repeat (first | apply Kd.pq | apply Kd.oD | apply Kd.fH)); exact (Kd.cO (Kd.dN (p := ⟨KZ, 1, none⟩) (Kd.fC fJ.out oM.out (by decide)) (fun _ hk => hk.2) (.slice Ao20 UY.length co20)) (fun _ h_ => h_.1)))) (by decide) hg) hb ho; clear l8 q9 oM QD HB fJ; obtain ⟨l8, q9, oM, QD, HB, HO564⟩ := n_; clear ho hb hg hat))
 go_roundg k1
 case measure => have := HK1.out; omega
 case rel => exact ⟨(y562), (wrap64 (eD + 1)), (UY), (.slice Ao20 UY.length co20), sr, H', ⟨by have := HK1.out; omega⟩, ⟨rx HO564.out⟩, ⟨rx QD.out⟩, xb l8, xb q9, xb oM, ⟨lb⟩⟩
end Go.Proofs.Ytkdoihcjhccliaa.Q
