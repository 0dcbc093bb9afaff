import Derived.Test.YtkdoihcjhccliaaK
import Derived.Test.YtkdoihcjhccliaaV
import Derived.Test.YtkdoihcjhccliaaQ0
import Derived.Test.YtkdoihcjhccliaaQ3
import Derived.Test.YtkdoihcjhccliaaQ67
import Derived.Test.YtkdoihcjhccliaaQ77
import Derived.Test.YtkdoihcjhccliaaQ80
import Derived.Test.YtkdoihcjhccliaaQ81
namespace Go.Proofs.Ytkdoihcjhccliaa.Q
open Go.RowKit Go.Proofs.YtkdoihcjhccliaaW.PrintWords Go.Proofs.YtkdoihcjhccliaaW.PrintLast Go.Proofs.YtkdoihcjhccliaaW.PrintMore
attribute [local go_sem] dF dG eG eH cz cB dH dI   -- for this text's walks alone
set_option linter.unusedVariables false
set_option linter.unusedSimpArgs false

/-! ### af: function 36 -/
mutual
def af.l0 : Nat → List Int → Int → Int → List (S98) → Option (List Int × List Int × List Bool × Bool)
  | 0, _, _, _, _ => none
  | k + 1, x6, x8, jl, dZ => if x8 < (dZ.length : Int) then (if 0 ≤ x8 then (if 0 < (dZ.length : Int) then (if 0 ≤ ((aa dZ x8).f0) then (if ((aa dZ x8).f0) < (x6.length : Int) then (if 0 ≤ ((aa dZ x8).f1) then (if ((aa dZ x8).f1) < (x6.length : Int) then (if (rd x6 ((aa dZ x8).f0)) = (rd x6 ((aa dZ x8).f1)) then (if 0 ≤ ((aa dZ 0).f0) then (if ((aa dZ 0).f0) < (x6.length : Int) then (af.j1 k x6 x8 ((rd x6 ((aa dZ x8).f0)) != (rd x6 ((aa dZ 0).f0))) jl dZ ((aa dZ x8).f0) ((aa dZ x8).f1) ((aa dZ x8).f2) ((aa dZ x8).f3) ((aa dZ 0).f0) ((aa dZ 0).f1) ((aa dZ 0).f2) ((aa dZ 0).f3)) else (none)) else (none)) else (af.j1 k x6 x8 true jl dZ ((aa dZ x8).f0) ((aa dZ x8).f1) ((aa dZ x8).f2) ((aa dZ x8).f3) ((aa dZ 0).f0) ((aa dZ 0).f1) ((aa dZ 0).f2) ((aa dZ 0).f3))) else (none)) else (none)) else (none)) else (none)) else (none)) else (none)) else ((bK.f k jl dZ).bind fun GR => (if 0 ≤ jl then (if (jl : Int).toNat ≤ 35184372088832 then (af.l2 k (List.replicate (jl : Int).toNat 0) 0 jl dZ GR.1 GR.2) else (none)) else (none)))
def af.j1 : Nat → List Int → Int → Bool → Int → List (S98) → Int → Int → Int → Int → Int → Int → Int → Int → Option (List Int × List Int × List Bool × Bool)
  | 0, _, _, _, _, _, _, _, _, _, _, _, _, _ => none
  | k + 1, x6, x8, x67, jl, dZ, Je, yX, x747002, x747003, E9, Fa, Jf, Jg => if x67 = true then (if 0 ≤ Je then (if Je < (x6.length : Int) then (if 0 ≤ yX then (if yX < (x6.length : Int) then (if (rd x6 Je) = (rd x6 yX) then ((fT.f k jl dZ yX E9).bind fun UU => (af.j2 k yX UU jl dZ E9 Fa Jf Jg)) else (af.j2 k yX false jl dZ E9 Fa Jf Jg)) else (none)) else (none)) else (none)) else (none)) else (af.l0 k x6 (wrap64 (x8 + 1)) jl dZ)
def af.j2 : Nat → Int → Bool → Int → List (S98) → Int → Int → Int → Int → Option (List Int × List Int × List Bool × Bool)
  | 0, _, _, _, _, _, _, _, _ => none
  | k + 1, x11, x88, jl, dZ, E9, Fa, Jf, Jg => if x88 = true then (af.j3 k Fa jl dZ) else (af.j3 k x11 jl dZ)
def af.j3 : Nat → Int → Int → List (S98) → Option (List Int × List Int × List Bool × Bool)
  | 0, _, _, _ => none
  | k + 1, x11, jl, dZ => if 0 ≤ jl then (if (jl : Int).toNat ≤ 281474976710656 then (af.l1 k x11 (List.replicate (jl : Int).toNat false) 0 jl dZ) else (none)) else (none)
def af.l1 : Nat → Int → List Bool → Int → Int → List (S98) → Option (List Int × List Int × List Bool × Bool)
  | 0, _, _, _, _, _ => none
  | k + 1, x11, x12, x13, jl, dZ => if x13 < jl then ((fT.f k jl dZ x11 x13).bind fun UV => (if 0 ≤ x13 then (if x13 < (x12.length : Int) then (af.l1 k x11 (x12.set (x13 : Int).toNat UV) (wrap64 (x13 + 1)) jl dZ) else (none)) else (none))) else (some (([] : List Int), ([] : List Int), x12, false))
def af.l2 : Nat → List Int → Int → Int → List (S98) → Int → List (S98) → Option (List Int × List Int × List Bool × Bool)
  | 0, _, _, _, _, _, _ => none
  | k + 1, x15, x16, jl, dZ, Ph, yY => if x16 < (dZ.length : Int) then (if 0 ≤ x16 then (if x16 < (yY.length : Int) then (if 0 ≤ ((aa dZ x16).f0) then (if ((aa dZ x16).f0) < (x15.length : Int) then ((some (x15.set (((aa dZ x16).f0) : Int).toNat (wrap64 ((rd x15 ((aa dZ x16).f0)) - 1)) : List Int)).bind fun J8 => (if 0 ≤ ((aa dZ x16).f1) then (if ((aa dZ x16).f1) < (x15.length : Int) then (af.l2 k (J8.set (((aa dZ x16).f1) : Int).toNat (wrap64 ((rd J8 ((aa dZ x16).f1)) + 1))) (wrap64 (x16 + 1)) jl dZ Ph (yY.set (x16 : Int).toNat (⟨(aa yY x16).f0, (aa yY x16).f1, 8192, (aa yY x16).f3⟩ : S98))) else (none)) else (none))) else (none)) else (none)) else (none)) else (none)) else ((ai.f k Ph yY x15).bind fun vB => (if 0 ≤ (vB.1.length : Int) then (if ((vB.1.length : Int) : Int).toNat ≤ 35184372088832 then (af.l3 k vB.1 vB.2.1 (List.replicate ((vB.1.length : Int) : Int).toNat 0) 0) else (none)) else (none)))
def af.l3 : Nat → List Int → List Int → List Int → Int → Option (List Int × List Int × List Bool × Bool)
  | 0, _, _, _, _ => none
  | k + 1, x17, x18, x21, x22 => if x22 < (x17.length : Int) then (if 0 ≤ x22 then (if x22 < (x21.length : Int) then (af.l3 k x17 x18 (x21.set (x22 : Int).toNat (wrap64 ((rd x17 x22) + 1))) (wrap64 (x22 + 1))) else (none)) else (none)) else (some (x21, x18, ([] : List Bool), true))
end
def af.f (k : Nat) (ay : Int) (ae : List (S98)) : Option (List Int × List Int × List Bool × Bool) := (aG.f k ay ae).bind fun Pi => (af.l0 k Pi.1 0 ay ae)
def af.T7 : Bool × List (List Nat × List Nat) := (true, [([], []), ([], []), ([1], [1]), ([0, 2], [0, 2]), ([3], [3]), ([], []), ([], []), ([6], [6]), ([5, 7], [5, 7]), ([8], [8]), ([4, 9], [4, 9]), ([10], [10]), ([11], [11]), ([11], [11]), ([13, 11], [11, 13]), ([12, 14, 11], [11, 12, 14]), ([15, 11], [11, 15]), ([11], [11]), ([11], [11]), ([18, 11], [11, 18]), ([17, 19, 11], [11, 17, 19]), ([20, 11], [11, 20]), ([16, 21, 11], [11, 16, 21]), ([11, 22], [11, 22])])
def af.B7 : List Nat := [0, 0, 2, 7, 15, 0, 0, 64, 224, 480, 1023, 2047, 4095, 4095, 12287, 32767, 65535, 4095, 4095, 266239, 921599, 1970175, 4194303, 8388607]
theorem af.UL : oO .any (opsOf Try.f36 7) = af.T7 := by kernel_rfl
theorem af.GH : gM af.T7.2 af.B7 = true := by kernel_rfl
def af.T9 : Bool × List (List Nat × List Nat) := (true, [([], []), ([], []), ([1], [1]), ([0, 2], [0, 2]), ([3], [3]), ([], []), ([], []), ([6], [6]), ([5, 7], [5, 7]), ([8], [8]), ([4, 9], [4, 9]), ([10], [10]), ([11], [11]), ([11], [11]), ([13, 11], [11, 13]), ([11], [11]), ([15, 11], [11, 15]), ([12, 14, 16, 11, 11], [11, 12, 14, 16]), ([11, 17], [11, 17])])
def af.B9 : List Nat := [0, 0, 2, 7, 15, 0, 0, 64, 224, 480, 1023, 2047, 4095, 4095, 12287, 4095, 36863, 131071, 262143]
theorem af.UW : oO .any (opsOf Try.f36 9) = af.T9 := by kernel_rfl
theorem af.GU : gM af.T9.2 af.B9 = true := by kernel_rfl
set_option maxHeartbeats 8000000 in
set_option maxRecDepth 100000 in
theorem af.calls (k : Nat) (ay : Int) (bX : Option Addr) (bN : Nat) (ae : List (S98)) (r1 : List Int) (r2 : List Int) (r3 : List Bool) (r4 : Bool) (w : World) (dB : Kd.C k98 w bX ae.length ae) (dC : ae.length ≤ bN) (h : af.f k ay ae = some (r1, r2, r3, r4)) :
    Calls Try.prog 36 #[.agg #[.int .i64 ay, .slice bX ae.length bN]] w fun e w' => ∃ v0_ v1_ v2_ : Value, e = .returned (.tuple #[v0_, v1_, v2_, .bool r4]) ∧ Kd.R (Kd.int .i64) 2 w' w.heap.size (fun k_ => (w.heap.size ≤ k_)) v0_ r1 ∧ Kd.V (Kd.int .i64) 2 w' w.heap.size (fun k_ => (w.heap.size ≤ k_) ∧ some k_ ≠ (v0_ : Value).ownBlock ∧ some k_ ≠ (v2_ : Value).ownBlock) v1_ r2 ∧ Kd.R Kd.bool 4 w' w.heap.size (fun k_ => (w.heap.size ≤ k_)) v2_ r3 ∧ Below w.heap.size w w' := by
 have hu24 := Try.underlying24; have hu98 := Try.underlying98; have bU := ak dB; have eU := ak dC; clear dB dC; have HB := ak (Below.refl w.heap.size w); have H : ((aG.f k ay ae).bind fun Pi => (af.l0 k Pi.1 0 ay ae)) = some (r1, r2, r3, r4) := h; clear h; replace H := Option.bind_eq_some_iff.mp H; obtain ⟨⟨J9, t744⟩, A20, H⟩ := H; dsimp only at H; have A2 := ak A20; clear A20; have H' := ak H; clear H
 go_enter Try.func36, Try.ntmps36
 go_wp2_with (first | ((with_reducible refine aC (N := 1) rfl ?_); refine bxe 1 #[.int .i64 ay, .slice bX ae.length bN] 24 ?_; intro ug hg w3 hbox hb; have n_ := a4 (bl hb) hbox (gw w hg) (gw w hg); clear HB; obtain ⟨HB, dX, GW740, GE740⟩ := n_; clear hb hbox hg; have ⟨_, _, _, _⟩ := cf2 dX) | ((with_reducible refine au (f := 74) rfl ?_); refine gl 25 Try.func74 #[.agg #[.int .i64 ay, .slice bX ae.length bN]] ?_; (with_reducible refine (aG.calls k ay _ _ ae J9 t744 _ (Kd.cZ bU.out lb) eU.out A2.out).mono ?_); rintro e w5 ⟨v742, rfl, ho0, hb⟩; refine ⟨_, rfl, ?_⟩; have n_ := a3 (Kd.bY (Kd.lg (M := fun k_ => (w.heap.size ≤ k_)) ho0 (ax lb) (fun k_ h_ => h_)) (ax lb)) (bo dX hb) (bl hb); clear dX HB; obtain ⟨HO743, dX, HB⟩ := n_; clear hb; (try clear ho0)))
 go_loopg [8] k (fun kq v8 w' => ∃ (fQ : Int), v8 = .int .i64 fQ ∧ ag (af.l0 kq J9 fQ ay ae = some (r1, r2, r3, r4)) ∧ ag (kq ≤ k) ∧ ag (Kd.R (Kd.int .i64) 3 w' w.heap.size (fun k_ => (w.heap.size ≤ k_)) v742 J9) ∧ ag (w'.heap[ug]? = some (.cells #[.int .i64 ay, (.slice bX ae.length bN)] 24 (0, 0))) ∧ ag (Below w.heap.size w w'))
 case atStart => exact ⟨(0), sr, H', ⟨Nat.le_refl _⟩, ⟨by exact rx (Kd.cO HO743.out (fun _ hk => hk.1))⟩, xb dX, ⟨lb⟩⟩
 clear H'; obtain ⟨fQ, rfl, HA, HK1, iR, dX, HB⟩ := hrel
 cases gk with
 | zero => exact absurd HA.out (by simp [af.l0])
 | succ k1 => ?_
 have H := HA.out; clear HA
 simp only [af.l0] at H
 by_cases c6 : fQ < (ae.length : Int)
 rotate_left
 ·
  rw [if_neg c6] at H; have c6b0 := decide_eq_false c6; clear c6; replace H := Option.bind_eq_some_iff.mp H; obtain ⟨⟨Pj, t762⟩, A740, H⟩ := H; dsimp only at H; have A74 := ak A740; clear A740; replace H := ife H; obtain ⟨c75b0, c75b1, H⟩ := H; replace H := ife H; obtain ⟨c76b0, c76b1, H⟩ := H; obtain ⟨y766, XL⟩ : ∃ y_ : List Int, y_ = (List.replicate (ay : Int).toNat 0) := ⟨_, rfl⟩; replace H : (af.l2 k1 y766 0 ay ae Pj t762) = some (r1, r2, r3, r4) := by first | (rw [XL]; exact H) | exact H
  have acG := ak XL; clear XL; have H' := ak H; clear H; have ⟨_, _, _, _⟩ := cf2 dX
  go_wp2_with (first | ((with_reducible refine au (f := 70) rfl ?_); refine gl 109 Try.func70 #[.agg #[.int .i64 ay, .slice bX ae.length bN]] ?_; (with_reducible refine (bK.calls k1 ay _ _ ae Pj t762 _ (Kd.cZ bU.out lb) eU.out A74.out).mono ?_); rintro e w78 ⟨v763, rfl, ho0, hb⟩; refine ⟨_, rfl, ?_⟩; have n_ := a4 (ro iR hb) (Kd.bY (Kd.lg (M := fun k_ => (w.heap.size ≤ k_)) ho0 (ax lb) (fun k_ h_ => h_)) (ax lb)) (bo dX hb) (bl hb); clear iR dX HB; obtain ⟨iR, GV, dX, HB⟩ := n_; clear hb; (try clear ho0)) | ((with_reducible refine aC (N := 14) rfl ?_); refine bxe 14 #[.int .i64 0, .slice none 0 0] 24 ?_; intro KR hg w79 hbox hb; have n_ := a9 (ro iR hb) (ro GV hb) (bo dX hb) (bl hb) hbox (gw w hg) (gw w hg) (nl hg dX) (nr hg dX); clear iR GV dX HB; obtain ⟨iR, GV, dX, HB, lF, GW765, GE765, BP, Pk⟩ := n_; clear hb hbox hg; have ⟨_, _⟩ := nn Pk; have ⟨_, _, _, _⟩ := cf2 lF; obtain ⟨Ao82, co82, eo82⟩ := Kd.bT GV.out; subst eo82; have ⟨_, _, _, _⟩ := cf2 dX) | ((with_reducible refine aC (N := 112) rfl ?_); refine Kd.ni (Kd.int .i64) _ 2 rfl (N := 112) rfl 25 _ _ rfl ay rfl rfl Try.underlying25 (.int .i64 0) 8 wW rfl (by decide) (by omega) 0 (ok := fun _ => True) (okp := fun _ => True) rfl (fun _ hk => hk) trivial (oda) (Nat.le_trans (Nat.mul_le_mul_right _ (oda : ay.toNat ≤ 35184372088832)) (by omega)) (Below.refl _ _) (Nat.le_refl _) ?_; intro v767 w84 ho85 hb hg_ hnew_; clear hg_ hnew_; (first | rw [← acG.out] at ho85 | (simp only [Int.reduceToNat] at ho85; rw [← acG.out] at ho85)); have n_ := a6 (fr iR lF hb) (fr GV lF hb) (Kd.bY (Kd.lg (M := fun k_ => (w.heap.size ≤ k_)) ho85 (ax lb) (fun k_ h_ => h_)) (ax lb)) (fb dX BP hb) (fp lF hb) (bl hb); clear iR GV dX lF HB; obtain ⟨iR, GV, HO768, dX, lF, HB⟩ := n_; clear hb ho85))
  go_loopg [16] k1 (fun kq v16 w' => ∃ (qH : List Int) (gI : Int) (eY : List (S98)) (Jh : Value), v16 = .int .i64 gI ∧ ag (af.l2 kq qH gI ay ae Pj eY = some (r1, r2, r3, r4)) ∧ ag (kq ≤ k1) ∧ ag (Kd.R (Kd.int .i64) 2 w' w.heap.size (fun k_ => (w.heap.size ≤ k_)) v767 qH) ∧ ag (Kd.R k98 98 w' w.heap.size (fun k_ => (w.heap.size ≤ k_)) Jh eY) ∧ ag (w'.heap[ug]? = some (.cells #[.int .i64 ay, (.slice bX ae.length bN)] 24 (0, 0))) ∧ ag (w'.heap[KR]? = some (.cells #[.int .i64 Pj, Jh] 24 (0, 0))) ∧ ag (Below w.heap.size w w'))
  case atStart => exact ⟨(y766), (0), (t762), (.slice Ao82 t762.length co82), sr, H', ⟨Nat.le_refl _⟩, ⟨by exact rx (Kd.cO HO768.out (fun _ hk => hk.1))⟩, ⟨by exact rx (Kd.cO GV.out (fun _ hk => hk.1))⟩, xb dX, xb lF, ⟨lb⟩⟩
  clear H'; obtain ⟨qH, gI, eY, Jh, rfl, HA, HK2, jh, fq, dX, lF, HB⟩ := hrel
  cases gk with
  | zero => exact absurd HA.out (by simp [af.l2])
  | succ k2 => ?_
  have H := HA.out; clear HA
  simp only [af.l2] at H
  by_cases c86 : gI < (ae.length : Int)
  ·
   rw [if_pos c86] at H; have c86b0 := decide_eq_true c86; clear c86; replace H := if2 H; obtain ⟨c87b0, c88b0, H⟩ := H; obtain ⟨acH, XM⟩ : ∃ y_ : List (S98), y_ = (eY.set (gI : Int).toNat (⟨(aa eY gI).f0, (aa eY gI).f1, 8192, (aa eY gI).f3⟩ : S98)) := ⟨_, rfl⟩; replace H : (if 0 ≤ ((aa ae gI).f0) then (if ((aa ae gI).f0) < (qH.length : Int) then ((some (qH.set (((aa ae gI).f0) : Int).toNat (wrap64 ((rd qH ((aa ae gI).f0)) - 1)) : List Int)).bind fun J8 => (if 0 ≤ ((aa ae gI).f1) then (if ((aa ae gI).f1) < (qH.length : Int) then (af.l2 k2 (J8.set (((aa ae gI).f1) : Int).toNat (wrap64 ((rd J8 ((aa ae gI).f1)) + 1))) (wrap64 (gI + 1)) ay ae Pj acH) else (none)) else (none))) else (none)) else (none)) = some (r1, r2, r3, r4) := by first | (rw [XM]; exact H) | exact H
   have Ny769 := ak XM; clear XM; replace H := if2 H; obtain ⟨c90b0, c91b0, H⟩ := H; obtain ⟨J8, XN⟩ : ∃ y_ : List Int, y_ = (qH.set (((aa ae gI).f0) : Int).toNat (wrap64 ((rd qH ((aa ae gI).f0)) - 1))) := ⟨_, rfl⟩; replace H : (if 0 ≤ ((aa ae gI).f1) then (if ((aa ae gI).f1) < (qH.length : Int) then (af.l2 k2 (J8.set (((aa ae gI).f1) : Int).toNat (wrap64 ((rd J8 ((aa ae gI).f1)) + 1))) (wrap64 (gI + 1)) ay ae Pj acH) else (none)) else (none)) = some (r1, r2, r3, r4) := by first | (rw [XN]; exact H) | exact H
   have acI := ak XN; clear XN; replace H := if2 H; obtain ⟨c93b0, c94b0, H⟩ := H; obtain ⟨y775, XO⟩ : ∃ y_ : List Int, y_ = (J8.set (((aa ae gI).f1) : Int).toNat (wrap64 ((rd J8 ((aa ae gI).f1)) + 1))) := ⟨_, rfl⟩; replace H : (af.l2 k2 y775 (wrap64 (gI + 1)) ay ae Pj acH) = some (r1, r2, r3, r4) := by first | (rw [XO]; exact H) | exact H
   have Ny775 := ak XO; clear XO; have H' := ak H; clear H; have ⟨_, _⟩ := nn BP; have ⟨_, _, _, _⟩ := cf2 dX; have ⟨_, _, _, _⟩ := cf2 lF; have p89 : 0 ≤ (gI : Int) := oda; have q89 : (gI : Int) < ((eY.length : Int) : Int) := oda
   obtain ⟨go89, co89, eo89, gb89, gl89, cl89, HG89⟩ := Kd.l9 fq.out (by omega)
   (first | cases eo89 | (injection eo89 with ea_ en_ ec_; (first | subst ea_ | (injection ea_ with ea_; subst ea_)); subst ec_; clear en_))
   have GB89 := ak gb89; have GG89 := ak HG89; clear gb89 gl89 HG89; obtain ⟨ce89, hcl89, hM89, hcc89, hfr89⟩ := Kd.JO fq.out z98 (gI : Int) p89 q89; obtain rfl := Gv hM89; have hx89_0 : wr.cell? ⟨go89, (gI : Int).toNat * 4, none⟩ = some (.int .i64 ((aa eY gI).f0)) := hcc89 0 _ rfl; have hx89_1 : wr.cell? ⟨go89, (gI : Int).toNat * 4 + 1, none⟩ = some (.int .i64 ((aa eY gI).f1)) := hcc89 1 _ rfl; have hx89_2 : wr.cell? ⟨go89, (gI : Int).toNat * 4 + 2, none⟩ = some (.int .i64 ((aa eY gI).f2)) := hcc89 2 _ rfl; have hx89_3 : wr.cell? ⟨go89, (gI : Int).toNat * 4 + 3, none⟩ = some (.int .i64 ((aa eY gI).f3)) := hcc89 3 _ rfl; have hf89_0 : wr.frozen? ⟨go89, (gI : Int).toNat * 4, none⟩ = false := hfr89 0; have hf89_1 : wr.frozen? ⟨go89, (gI : Int).toNat * 4 + 1, none⟩ = false := hfr89 1; have hf89_2 : wr.frozen? ⟨go89, (gI : Int).toNat * 4 + 2, none⟩ = false := hfr89 2; have hf89_3 : wr.frozen? ⟨go89, (gI : Int).toNat * 4 + 3, none⟩ = false := hfr89 3; clear hcl89 hcc89 hfr89 hM89; replace p89 := eq_true p89; replace q89 := eq_true q89; have HX99 := ak (show Kd.R k98 98 wr w.heap.size (fun k_ => (w.heap.size ≤ k_)) (.slice (some ⟨go89, 0, none⟩) eY.length co89) eY from (rx fq.out))
   obtain ⟨ce99, hcl99, hM99, hcc99, hfr99⟩ := Kd.JO HX99.out z98 (gI : Int) (oda) (by have h_ : (gI : Int) < ((eY.length : Int) : Int) := oda; first | exact h_ | (have e_ := (Kd.aA fq.out).1; omega) | simpa using h_)
   obtain rfl := Gv hM99; have HP99 := Kd.aaB HX99.out (gI : Int) (oda) (by have h_ : (gI : Int) < ((eY.length : Int) : Int) := oda; first | exact h_ | (have e_ := (Kd.aA fq.out).1; omega) | simpa using h_) (seg := [.int .i64 8192]) (j := 2) hcl99 hcc99 (show 3 ≤ 4 from by decide) (x' := (⟨(aa eY gI).f0, (aa eY gI).f1, 8192, (aa eY gI).f3⟩ : S98)) (sG _ _ _ (⟨(aa eY gI).f0, (aa eY gI).f1, 8192, (aa eY gI).f3⟩ : S98) ) (fun _ hk => hk)
   have acJ := hcc99 2 _ rfl
   (try simp only [show (k98).sz = 4 from rfl, Nat.mul_one, Nat.add_zero] at acJ)
   have acK := hfr99 2
   (try simp only [show (k98).sz = 4 from rfl, Nat.mul_one, Nat.add_zero] at acK)
   clear hcl99 hcc99 hfr99 hM99
   go_wp2_with (first | ((with_reducible refine fG (t := 2) (p := 124) rfl ?_); refine eQ (t := 2) (p := 124) (v := ?vo_w100) (w1 := (wr.setCell ⟨go89, (gI : Int).toNat * 4 + 2, none⟩ (.int .i64 8192))) ?hg ?ho ?hn ?hr ?_; (case ho => rfl); (case hg => rfl); (case hn => rfl); (case hr => first | (go_simp; done) | (go_simp; rfl)); intro aah hw; have hg : wr.grownBy aah (some go89) := (by rw [hw]; exact HP99.2); have hp_ : Kd.R k98 98 aah w.heap.size (fun k_ => (w.heap.size ≤ k_)) (.slice (some ⟨go89, 0, none⟩) eY.length co89) acH := (by rw [hw, Ny769.out]; exact HP99.1); clear HP99; have n_ := a5 (Kd.jB (v := (.slice (some ⟨go89, 0, none⟩) eY.length co89)) (rx jh.out) (Kd.ji fq.out) (by decide) hg) hp_ (bH (bx dX.out) hg (Kd.gQ fq.out dX.out (by decide))) (bH (bx lF.out) hg (Kd.gQ fq.out lF.out (by decide))) (by rw [hw]; exact bR (HB.out) GB89.out : Below w.heap.size w aah); clear jh fq dX lF HB; obtain ⟨jh, fq, dX, lF, HB⟩ := n_; clear hg hw hp_; have ⟨_, _, _, _⟩ := cf2 dX; obtain ⟨p770, q770, ad770, e770, Pm, Pn, Po, Pp⟩ := wq (dU bU.out gI); cases e770; replace Pm := hbc HB Pm; replace Pn := hbc HB Pn; replace Po := hbc HB Po; replace Pp := hbc HB Pp; obtain ⟨Ao102, Tk, eo102⟩ := Kd.bT jh.out; subst eo102; obtain ⟨p771, q771, ad771, e771, XP⟩ := wq (Kd.bB (Kd.aA jh.out).2.2 ((aa ae gI).f0)); cases e771; have p92 : 0 ≤ (((aa ae gI).f0) : Int) := oda; have q92 : (((aa ae gI).f0) : Int) < ((qH.length : Int) : Int) := oda; obtain ⟨go92, co92, eo92, gb92, gl92, cl92, HG92⟩ := Kd.l9 jh.out (by omega); (first | cases eo92 | (injection eo92 with ea_ en_ ec_; (first | subst ea_ | (injection ea_ with ea_; subst ea_)); subst ec_; clear en_)); have GB92 := ak gb92; have GG92 := ak HG92; clear gb92 gl92 HG92; (first | simp only [add_plain] at XP | skip); obtain ⟨hx92_0, hf92_0⟩ := Kd.gJ 0 jh.out (((aa ae gI).f0) : Int) p92 q92; replace p92 := eq_true p92; replace q92 := eq_true q92; obtain ⟨hy103_, hz103_⟩ := Kd.gJ 0 jh.out (((aa ae gI).f0) : Int) (oda) (oda); have XQ := Kd.lL jh.out (((aa ae gI).f0) : Int) (wrap64 ((rd qH ((aa ae gI).f0)) - 1))) | ((with_reducible refine fG (t := 2) (p := 135) rfl ?_); refine eQ (t := 2) (p := 135) (v := ?vo_w104) (w1 := (aah.setCell ⟨go92, (((aa ae gI).f0) : Int).toNat, none⟩ (.int .i64 (wrap64 ((rd qH ((aa ae gI).f0)) - 1))))) ?hg ?ho ?hn ?hr ?_; (case ho => rfl); (case hg => rfl); (case hn => rfl); (case hr => first | (go_simp; done) | (go_simp; rfl)); intro aal hw; have hg : aah.grownBy aal (some go92) := (by rw [hw]; exact XQ.2); have hp_ : Kd.R (Kd.int .i64) 2 aal w.heap.size (fun k_ => (w.heap.size ≤ k_)) (.slice (some ⟨go92, 0, none⟩) qH.length Tk) J8 := (by rw [hw, acI.out]; exact XQ.1); clear XQ; have n_ := a5 hp_ (Kd.jB (v := (.slice (some ⟨go92, 0, none⟩) qH.length Tk)) (rx fq.out) (Kd.ji jh.out) (by decide) hg) (bH (bx dX.out) hg (Kd.gQ jh.out dX.out (by decide))) (bH (bx lF.out) hg (Kd.gQ jh.out lF.out (by decide))) (by rw [hw]; exact bR (HB.out) GB92.out : Below w.heap.size w aal); clear jh fq dX lF HB; obtain ⟨jh, fq, dX, lF, HB⟩ := n_; clear hg hw hp_; have ⟨_, _, _, _⟩ := cf2 dX; obtain ⟨p773, q773, ad773, e773, Pq, Ps, Pt, Pv⟩ := wq (dU bU.out gI); obtain rfl : ad770 = ad773 := (by injection e773); replace Pq := hbc HB Pq; replace Ps := hbc HB Ps; replace Pt := hbc HB Pt; replace Pv := hbc HB Pv; have p774 : 0 ≤ (((aa ae gI).f1) : Int) := oda; have q774 : ((aa ae gI).f1) < (J8.length : Int) := (by have h_ : (((aa ae gI).f1) : Int) < ((qH.length : Int) : Int) := oda; first | (have e_ := (Kd.aA jh.out).1; omega) | simpa only [acI.out, List.length_set] using h_); have ql774 : ((((aa ae gI).f1) : Int) < ((qH.length : Int) : Int)) = True := eq_true (oda); obtain ⟨ad774, e774, Ji⟩ := Kd.bB (Kd.aA jh.out).2.2 ((aa ae gI).f1) p774 q774; obtain rfl : (⟨go92, 0, none⟩ : Addr) = ad774 := (by injection e774); (first | simp only [add_plain] at Ji | simp only [lI] at Ji | simp only [Addr.add, Nat.zero_add] at Ji | skip); replace p774 := eq_true p774; replace q774 := eq_true q774; have p95 : 0 ≤ (((aa ae gI).f1) : Int) := oda; have q95 : (((aa ae gI).f1) : Int) < ((qH.length : Int) : Int) := oda; obtain ⟨hx95_0, hf95_0⟩ := Kd.gJ 0 jh.out (((aa ae gI).f1) : Int) p95 q95; replace p95 := eq_true p95; replace q95 := eq_true q95; obtain ⟨hy106_, hz106_⟩ := Kd.gJ 0 jh.out (((aa ae gI).f1) : Int) (oda) (oda); have XR := Kd.lL jh.out (((aa ae gI).f1) : Int) (wrap64 ((rd J8 ((aa ae gI).f1)) + 1))) | ((with_reducible refine fG (t := 2) (p := 146) rfl ?_); refine eQ (t := 2) (p := 146) (v := ?vo_w107) (w1 := (aal.setCell ⟨go92, (((aa ae gI).f1) : Int).toNat, none⟩ (.int .i64 (wrap64 ((rd J8 ((aa ae gI).f1)) + 1))))) ?hg ?ho ?hn ?hr ?_; (case ho => rfl); (case hg => rfl); (case hn => rfl); (case hr => first | (go_simp; done) | (go_simp; rfl)); intro Xp hw; have hg : aal.grownBy Xp (some go92) := (by rw [hw]; exact XR.2); have hp_ : Kd.R (Kd.int .i64) 2 Xp w.heap.size (fun k_ => (w.heap.size ≤ k_)) (.slice (some ⟨go92, 0, none⟩) qH.length Tk) y775 := (by rw [hw, Ny775.out]; exact XR.1); clear XR; have n_ := a5 hp_ (Kd.jB (v := (.slice (some ⟨go92, 0, none⟩) qH.length Tk)) (rx fq.out) (Kd.ji jh.out) (by decide) hg) (bH (bx dX.out) hg (Kd.gQ jh.out dX.out (by decide))) (bH (bx lF.out) hg (Kd.gQ jh.out lF.out (by decide))) (by rw [hw]; exact bR (HB.out) GB92.out : Below w.heap.size w Xp); clear jh fq dX lF HB; obtain ⟨jh, fq, dX, lF, HB⟩ := n_; clear hg hw hp_))
   go_roundg k2
   case measure => have := HK1.out; have := HK2.out; omega
   case rel => exact ⟨(y775), (wrap64 (gI + 1)), (acH), (.slice (some ⟨go89, 0, none⟩) eY.length co89), sr, H', ⟨by have := HK1.out; have := HK2.out; omega⟩, ⟨rx jh.out⟩, ⟨rx fq.out⟩, xb dX, xb lF, ⟨lb⟩⟩
  rw [if_neg c86] at H; have c86b0 := decide_eq_false c86; clear c86; replace H := Option.bind_eq_some_iff.mp H; obtain ⟨⟨GX, acL, t782, t785⟩, acM, H⟩ := H; dsimp only at H; have A108 := ak acM; clear acM; replace H := ife H; obtain ⟨c109b0, c109b1, H⟩ := H; replace H := ife H; obtain ⟨c110b0, c110b1, H⟩ := H; obtain ⟨y786, XT⟩ : ∃ y_ : List Int, y_ = (List.replicate ((GX.length : Int) : Int).toNat 0) := ⟨_, rfl⟩; replace H : (af.l3 k2 GX acL y786 0) = some (r1, r2, r3, r4) := by first | (rw [XT]; exact H) | exact H
  have acN := ak XT; clear XT; have H' := ak H; clear H; have ⟨_, _⟩ := nn BP; have ⟨_, _, _, _⟩ := cf2 dX; have ⟨_, _, _, _⟩ := cf2 lF; obtain ⟨EB, EC, VK⟩ := Kd.bT fq.out; subst VK; obtain ⟨acO, acP, eo115⟩ := Kd.bT jh.out; subst eo115
  go_wp2_with (first | ((with_reducible refine au (f := 34) rfl ?_); refine gl 150 Try.func34 #[.agg #[.int .i64 Pj, .slice EB eY.length EC], .slice acO qH.length acP] ?_; (with_reducible refine (ai.calls k2 Pj _ _ eY _ _ qH GX acL t782 t785 _ ?side1 ?side2 ?side3 ?side4 A108.out).mono ?_); (case side1 => exact cR fq); (case side2 => exact (Kd.aA fq.out).2.1); (case side3 => exact cR jh); (case side4 => exact (Kd.aA jh.out).2.1); rintro e w116 ⟨v777, v780, v783, rfl, ho0, ho1, ho2, hb⟩; refine ⟨_, rfl, ?_⟩; have n_ := a8 (Kd.dJ (rx jh.out) (Kd.fI ho0) hb) (ro fq hb) (Kd.bY (Kd.gF (Kd.lg (M := fun k_ => (w.heap.size ≤ k_)) (Kd.cO (ok' := fun k_ => True) ho0 (fun _ hk_ => trivial)) (ax lb) (fun k_ h_ => h_)) (Kd.mf (rx jh.out))) (ax lb)) (Kd.yI (Kd.kU (ok' := fun k_ => (w.heap.size ≤ k_) ∧ some k_ ≠ (v777 : Value).ownBlock ∧ some k_ ≠ (v783 : Value).ownBlock ∧ some k_ ≠ (.slice acO qH.length acP : Value).ownBlock ∧ some k_ ≠ (.slice EB eY.length EC : Value).ownBlock ∧ k_ ≠ ug ∧ k_ ≠ KR) ho1 (fun k_ hk_ => ⟨(Nat.le_trans (ax lb) hk_.1), hk_.2.1, hk_.2.2, (Kd.fresh' (Kd.mf (rx jh.out)) k_ hk_.1), (Kd.fresh' (Kd.mf (rx fq.out)) k_ hk_.1), (Kd.ul (g := ug) (o := .cells #[.int .i64 ay, .slice bX ae.length bN] 24 (0, 0)) (bx dX.out) k_ hk_.1), (Kd.ul (g := KR) (o := .cells #[.int .i64 Pj, .slice EB eY.length EC] 24 (0, 0)) (bx lF.out) k_ hk_.1)⟩)) (ax lb)) (Kd.bY (Kd.lg (M := fun k_ => (w.heap.size ≤ k_)) (Kd.cO (ok' := fun k_ => True) ho2 (fun _ hk_ => trivial)) (ax lb) (fun k_ h_ => h_)) (ax lb)) (bo dX hb) (bo lF hb) (bl hb); clear jh fq dX lF HB; obtain ⟨jh, fq, KS, Tm, XU, dX, lF, HB⟩ := n_; clear hb; (try clear ho0); (try clear ho1); (try clear ho2); obtain ⟨XV, Pw, eo117⟩ := Kd.bT KS.out; subst eo117) | ((with_reducible refine aC (N := 157) rfl ?_); refine Kd.ni (Kd.int .i64) _ 2 rfl (N := 157) rfl 25 _ _ rfl (GX.length : Int) rfl rfl Try.underlying25 (.int .i64 0) 8 wW rfl (by decide) (by omega) 0 (ok := fun _ => True) (okp := fun _ => True) rfl (fun _ hk => hk) trivial (oda) (Nat.le_trans (Nat.mul_le_mul_right _ (oda : (GX.length : Int).toNat ≤ 35184372088832)) (by omega)) (Below.refl _ _) (Nat.le_refl _) ?_; intro v787 w118 GY hb hg_ hnew_; clear hg_ hnew_; (first | rw [← acN.out] at GY | (simp only [Int.reduceToNat] at GY; rw [← acN.out] at GY)); have n_ := a9 (Kd.dJ (rx jh.out) (Kd.fI GY) hb) (ro fq hb) (Kd.dJ (rx KS.out) (Kd.fI GY) hb) (Kd.JS (vx Tm.out) (Kd.fI GY) hb) (ro XU hb) (Kd.bY (Kd.gF (Kd.gF (Kd.lg (M := fun k_ => (w.heap.size ≤ k_)) GY (ax lb) (fun k_ h_ => h_)) (Kd.mf (rx jh.out))) (Kd.mf (rx KS.out))) (ax lb)) (bo dX hb) (bo lF hb) (bl hb); clear jh fq KS Tm XU dX lF HB; obtain ⟨jh, fq, KS, Tm, XU, HO788, dX, lF, HB⟩ := n_; clear hb GY))
  go_loopg [22] k2 (fun kq v22 w' => ∃ (BQ : List Int) (wL : Int), v22 = .int .i64 wL ∧ ag (af.l3 kq GX acL BQ wL = some (r1, r2, r3, r4)) ∧ ag (kq ≤ k2) ∧ ag (Kd.R (Kd.int .i64) 2 w' w.heap.size (fun k_ => (w.heap.size ≤ k_) ∧ some k_ ≠ (v787 : Value).ownBlock) (.slice XV GX.length Pw) GX) ∧ ag (Kd.V (Kd.int .i64) 2 w' w.heap.size (fun k_ => (w.heap.size ≤ k_) ∧ some k_ ≠ ((.slice XV GX.length Pw) : Value).ownBlock ∧ some k_ ≠ (v787 : Value).ownBlock ∧ some k_ ≠ ((.slice EB eY.length EC) : Value).ownBlock ∧ k_ ≠ ug ∧ k_ ≠ KR) v780 acL) ∧ ag (Kd.R (Kd.int .i64) 2 w' w.heap.size (fun k_ => (w.heap.size ≤ k_) ∧ some k_ ≠ ((.slice XV GX.length Pw) : Value).ownBlock) v787 BQ) ∧ ag (Kd.R k98 98 w' w.heap.size (fun k_ => (w.heap.size ≤ k_)) (.slice EB eY.length EC) eY) ∧ ag (w'.heap[ug]? = some (.cells #[.int .i64 ay, (.slice bX ae.length bN)] 24 (0, 0))) ∧ ag (w'.heap[KR]? = some (.cells #[.int .i64 Pj, (.slice EB eY.length EC)] 24 (0, 0))) ∧ ag (Below w.heap.size w w'))
  case atStart => exact ⟨(y786), (0), sr, H', ⟨Nat.le_refl _⟩, ⟨by exact rx (Kd.cO KS.out (fun _ hk => ⟨hk.1.1.1, hk.2⟩))⟩, ⟨by exact vx (Kd.kU Tm.out (fun _ hk => ⟨hk.1.1, ⟨hk.1.2.1, ⟨hk.2, ⟨hk.1.2.2.2.2.1, ⟨hk.1.2.2.2.2.2.1, hk.1.2.2.2.2.2.2⟩⟩⟩⟩⟩))⟩, ⟨by exact rx (Kd.cO HO788.out (fun _ hk => ⟨hk.1.1.1, hk.2⟩))⟩, ⟨rx fq.out⟩, xb dX, xb lF, ⟨lb⟩⟩
  clear H'; obtain ⟨BQ, wL, rfl, HA, HK3, Px, AY, DV, fq, dX, lF, HB⟩ := hrel
  cases gk with
  | zero => exact absurd HA.out (by simp [af.l3])
  | succ k3 => ?_
  have H := HA.out; clear HA
  simp only [af.l3] at H
  by_cases KF : wL < (GX.length : Int)
  rotate_left
  ·
   rw [if_neg KF] at H; have MP := decide_eq_false KF; clear KF
   simp only [Option.some.injEq, Prod.mk.injEq] at H
   obtain ⟨rfl, rfl, rfl, rfl⟩ := H
   go_wp2
   refine bodyPost_ret (ru (rs := [.tmp 2, .tmp 3, .tmp 4, .tmp 5]) rfl (by simp) (.tmp (.tmp (.tmp (.tmp .nil))))) rfl ?_
   exact ⟨_, _, _, by first | rfl | (simp [dx, dz] <;> rfl) | (simp [*, dx, dz] <;> rfl), by exact rx (Kd.cO DV.out (fun _ hk => hk.1)), by exact vx (Kd.kU AY.out (fun _ hk => ⟨hk.1, ⟨hk.2.2.1, (by simp [Value.ownBlock])⟩⟩)), by first | exact Kd.uo _ _ _ _ _ | exact Kd.yP _ _ _ _ _ | exact Kd.uw _ _ _ _ _ | exact Kd.yN _ _ _ _ _ | exact Kd.yO _ _ _ _ _, lb⟩
  rw [if_pos KF] at H; have MP := decide_eq_true KF; clear KF; replace H := if2 H; obtain ⟨abh, c122b0, H⟩ := H; obtain ⟨y790, XW⟩ : ∃ y_ : List Int, y_ = (BQ.set (wL : Int).toNat (wrap64 ((rd GX wL) + 1))) := ⟨_, rfl⟩; replace H : (af.l3 k3 GX acL y790 (wrap64 (wL + 1))) = some (r1, r2, r3, r4) := by first | (rw [XW]; exact H) | exact H
  have Ny790 := ak XW; clear XW; have H' := ak H; clear H; obtain ⟨p789, q789, acQ, e789, hx789_0⟩ := wq (Kd.bB (Kd.aA Px.out).2.2 wL); cases e789; have WI : 0 ≤ (wL : Int) := oda; have WJ : (wL : Int) < ((BQ.length : Int) : Int) := oda
  obtain ⟨GZ, KT, acR, acS, gl123, cl123, acT⟩ := Kd.l9 DV.out (by omega)
  (first | cases acR | (injection acR with ea_ en_ ec_; (first | subst ea_ | (injection ea_ with ea_; subst ea_)); subst ec_; clear en_))
  have GB123 := ak acS; have GG123 := ak acT; clear acS gl123 acT; obtain ⟨yU, hf123_0⟩ := Kd.gJ 0 DV.out (wL : Int) WI WJ; replace WI := eq_true WI; replace WJ := eq_true WJ; have XX := Kd.lL DV.out (wL : Int) (wrap64 ((rd GX wL) + 1))
  go_wp2_with (first | ((with_reducible refine fG (t := 2) (p := 171) rfl ?_); refine eQ (t := 2) (p := 171) (v := ?vo_w125) (w1 := (wr.setCell ⟨GZ, (wL : Int).toNat, none⟩ (.int .i64 (wrap64 ((rd GX wL) + 1))))) ?hg ?ho ?hn ?hr ?_; (case ho => rfl); (case hg => rfl); (case hn => rfl); (case hr => first | (go_simp; done) | (go_simp; rfl)); intro w125 hw; have hg : wr.grownBy w125 (some GZ) := (by rw [hw]; exact XX.2); have hp_ : Kd.R (Kd.int .i64) 2 w125 w.heap.size (fun k_ => (w.heap.size ≤ k_) ∧ some k_ ≠ (.slice (some acQ) GX.length Pw : Value).ownBlock) (.slice (some ⟨GZ, 0, none⟩) BQ.length KT) y790 := (by rw [hw, Ny790.out]; exact XX.1); clear XX; have n_ := a7 (Kd.qa (v := (.slice (some ⟨GZ, 0, none⟩) BQ.length KT)) (v1 := (.slice (some ⟨GZ, 0, none⟩) BQ.length KT)) (ok := (fun k_ => (w.heap.size ≤ k_))) (rx Px.out) hg (.inl rfl)) (Kd.JR (v := (.slice (some ⟨GZ, 0, none⟩) BQ.length KT)) (v1 := (.slice (some ⟨GZ, 0, none⟩) BQ.length KT)) (ok := (fun k_ => (w.heap.size ≤ k_) ∧ some k_ ≠ (.slice (some acQ) GX.length Pw : Value).ownBlock ∧ some k_ ≠ (.slice EB eY.length EC : Value).ownBlock ∧ k_ ≠ ug ∧ k_ ≠ KR)) (by exact vx (Kd.kU AY.out (fun _ hk => ⟨⟨hk.1, ⟨hk.2.1, ⟨hk.2.2.2.1, ⟨hk.2.2.2.2.1, hk.2.2.2.2.2⟩⟩⟩⟩, hk.2.2.1⟩))) hg (.inl rfl)) hp_ (Kd.jB (v := (.slice (some ⟨GZ, 0, none⟩) BQ.length KT)) (rx fq.out) (Kd.ji DV.out) (by decide) hg) (bH (bx dX.out) hg (Kd.gQ DV.out dX.out (by decide))) (bH (bx lF.out) hg (Kd.gQ DV.out lF.out (by decide))) (by rw [hw]; exact bR (HB.out) GB123.out : Below w.heap.size w w125); clear Px AY DV fq dX lF HB; obtain ⟨Px, AY, DV, fq, dX, lF, HB⟩ := n_; clear hg hw hp_))
  go_roundg k3
  case measure => have := HK1.out; have := HK2.out; have := HK3.out; omega
  case rel => exact ⟨(y790), (wrap64 (wL + 1)), sr, H', ⟨by have := HK1.out; have := HK2.out; have := HK3.out; omega⟩, ⟨rx Px.out⟩, ⟨by exact vx (Kd.kU AY.out (fun _ hk => ⟨hk.1.1, ⟨hk.1.2.1, ⟨hk.2, ⟨hk.1.2.2.1, ⟨hk.1.2.2.2.1, hk.1.2.2.2.2⟩⟩⟩⟩⟩))⟩, ⟨rx DV.out⟩, ⟨rx fq.out⟩, xb dX, xb lF, ⟨lb⟩⟩
 rw [if_pos c6] at H; have c6b0 := decide_eq_true c6; clear c6; replace H := ifd H; obtain ⟨c7b0, H⟩ := H; replace H := ifn H; obtain ⟨c8, H⟩ := H; have c8b0 := decide_eq_true c8
 have c8b1 : decide (0 < ae.length) = true := decide_eq_true (by omega)
 clear c8; have HC9 := ak H; clear H; have ⟨_, _, _, _⟩ := cf2 dX; obtain ⟨p745, q745, zF, e745, Py, Pz, PD, PE⟩ := wq (dU bU.out fQ); cases e745
 (try replace Py := hbc HB Py)
 (try replace Pz := hbc HB Pz)
 (try replace PD := hbc HB PD)
 (try replace PE := hbc HB PE)
 go_upto_region 7 with (first | ((with_reducible refine aC (N := 9) rfl ?_); refine bxe 9 #[.int .i64 0, .int .i64 0, .int .i64 0, .int .i64 0] 98 ?_; intro mV hg w11 hbox hb; have n_ := a8 (ro iR hb) (bo dX hb) (bl hb) hbox (gw w hg) (gw w hg) (nl hg dX) (nr hg dX); clear iR dX HB; obtain ⟨iR, dX, HB, gU, Tn, GE746, BR, G5⟩ := n_; clear hb hbox hg; have ⟨_, _⟩ := nn G5; have ⟨_, _, _, _, _, _, _, _⟩ := cf4 gU; have ⟨_, _, _, _⟩ := cf2 dX; have p747 : 0 ≤ (0 : Int) := (by omega); have q747 : 0 < (ae.length : Int) := oda; obtain ⟨ad747, e747, lU, oH, oI, oJ⟩ := dU bU.out 0 p747 q747; obtain rfl : zF = ad747 := (by injection e747); have qi747 : (0 < ae.length) = True := eq_true (by omega); (try rw [show ((0 : Int)).toNat = 0 from rfl] at lU); (try rw [show 0 * 4 = 0 from rfl] at lU); (try rw [Addr.add_zero'] at lU); (try rw [show ((0 : Int)).toNat = 0 from rfl] at oH); (try rw [show 0 * 4 = 0 from rfl] at oH); (try rw [Addr.add_zero'] at oH); (try rw [show ((0 : Int)).toNat = 0 from rfl] at oI); (try rw [show 0 * 4 = 0 from rfl] at oI); (try rw [Addr.add_zero'] at oI); (try rw [show ((0 : Int)).toNat = 0 from rfl] at oJ); (try rw [show 0 * 4 = 0 from rfl] at oJ); (try rw [Addr.add_zero'] at oJ); have BS := an lU Tn; have BU := an lU Tn; have BV := an lU Tn; have BX := an lU Tn; replace lU := hbc HB lU; replace oH := hbc HB oH; replace oI := hbc HB oI; replace oJ := hbc HB oJ; replace lU := cg ⟨mV, 0, none⟩ (.int .i64 ((aa ae fQ).f0)) lU BS; replace oH := cg ⟨mV, 0, none⟩ (.int .i64 ((aa ae fQ).f0)) oH BS; replace oI := cg ⟨mV, 0, none⟩ (.int .i64 ((aa ae fQ).f0)) oI BS; replace oJ := cg ⟨mV, 0, none⟩ (.int .i64 ((aa ae fQ).f0)) oJ BS; replace lU := cg ⟨mV, 1, none⟩ (.int .i64 ((aa ae fQ).f1)) lU BU; replace oH := cg ⟨mV, 1, none⟩ (.int .i64 ((aa ae fQ).f1)) oH BU; replace oI := cg ⟨mV, 1, none⟩ (.int .i64 ((aa ae fQ).f1)) oI BU; replace oJ := cg ⟨mV, 1, none⟩ (.int .i64 ((aa ae fQ).f1)) oJ BU; replace lU := cg ⟨mV, 2, none⟩ (.int .i64 ((aa ae fQ).f2)) lU BV; replace oH := cg ⟨mV, 2, none⟩ (.int .i64 ((aa ae fQ).f2)) oH BV; replace oI := cg ⟨mV, 2, none⟩ (.int .i64 ((aa ae fQ).f2)) oI BV; replace oJ := cg ⟨mV, 2, none⟩ (.int .i64 ((aa ae fQ).f2)) oJ BV; replace lU := cg ⟨mV, 3, none⟩ (.int .i64 ((aa ae fQ).f3)) lU BX; replace oH := cg ⟨mV, 3, none⟩ (.int .i64 ((aa ae fQ).f3)) oH BX; replace oI := cg ⟨mV, 3, none⟩ (.int .i64 ((aa ae fQ).f3)) oI BX; replace oJ := cg ⟨mV, 3, none⟩ (.int .i64 ((aa ae fQ).f3)) oJ BX; clear BS; clear BU; clear BV; clear BX; replace p747 := eq_true p747; replace q747 := eq_true q747) | ((with_reducible refine aC (N := 10) rfl ?_); refine bxe 10 #[.int .i64 0, .int .i64 0, .int .i64 0, .int .i64 0] 98 ?_; intro ig hg w15 hbox hb; have n_ := a11 (Kd.sD (by (with_reducible repeat (first | apply Kd.pq | apply Kd.oD | apply Kd.fH)); exact (Kd.cO (Kd.dN (p := ⟨mV, 3, none⟩) (Kd.dN (p := ⟨mV, 2, none⟩) (Kd.dN (p := ⟨mV, 1, none⟩) (Kd.dN (p := ⟨mV, 0, none⟩) (Kd.fC iR.out gU.out (by decide)) (fun _ hk => hk.2) (.int .i64 ((aa ae fQ).f0))) (fun _ hk => hk.2) (.int .i64 ((aa ae fQ).f1))) (fun _ hk => hk.2) (.int .i64 ((aa ae fQ).f2))) (fun _ hk => hk.2) (.int .i64 ((aa ae fQ).f3))) (fun _ h_ => h_.1))) hb) (bI (g := ug) (o := .cells #[.int .i64 ay, .slice (some zF) ae.length bN] 24 (0, 0)) bz hb) (bI (g := mV) (o := .cells #[.int .i64 ((aa ae fQ).f0), .int .i64 ((aa ae fQ).f1), .int .i64 ((aa ae fQ).f2), .int .i64 ((aa ae fQ).f3)] 98 (0, 0)) bz hb) (bl hb) hbox (gw w hg) (gw w hg) (by rw [hg]; exact Nat.ne_of_lt (eB (g := ug) (o := .cells #[.int .i64 ay, .slice (some zF) ae.length bN] 24 (0, 0)) bz) : ug ≠ ig) (by rw [hg]; exact Nat.ne_of_gt (eB (g := ug) (o := .cells #[.int .i64 ay, .slice (some zF) ae.length bN] 24 (0, 0)) bz) : ig ≠ ug) (by rw [hg]; exact Nat.ne_of_lt (eB (g := mV) (o := .cells #[.int .i64 ((aa ae fQ).f0), .int .i64 ((aa ae fQ).f1), .int .i64 ((aa ae fQ).f2), .int .i64 ((aa ae fQ).f3)] 98 (0, 0)) bz) : mV ≠ ig) (by rw [hg]; exact Nat.ne_of_gt (eB (g := mV) (o := .cells #[.int .i64 ((aa ae fQ).f0), .int .i64 ((aa ae fQ).f1), .int .i64 ((aa ae fQ).f2), .int .i64 ((aa ae fQ).f3)] 98 (0, 0)) bz) : ig ≠ mV); clear iR dX gU HB; obtain ⟨iR, dX, gU, HB, iK, GW748, GE748, BZ, G6, PG, G7⟩ := n_; clear hb hbox hg; have ⟨_, _⟩ := nn G6; have ⟨_, _⟩ := nn G7; have ⟨_, _, _, _, _, _, _, _⟩ := cf4 iK))
 (try simp only [Act.put, sA, sZ, sS])
 go_cut [67] (fun v67 wc => ∃ (kq : Nat) (Tp : Bool), v67 = .bool Tp ∧ ag (af.j1 kq J9 fQ Tp ay ae ((aa ae fQ).f0) ((aa ae fQ).f1) ((aa ae fQ).f2) ((aa ae fQ).f3) ((aa ae 0).f0) ((aa ae 0).f1) ((aa ae 0).f2) ((aa ae 0).f3) = some (r1, r2, r3, r4)) ∧ ag (kq ≤ k1) ∧ ag (Kd.R (Kd.int .i64) 3 wc w.heap.size (fun k_ => (w.heap.size ≤ k_)) v742 J9) ∧ ag (wc.heap[ug]? = some (.cells #[.int .i64 ay, (.slice (some zF) ae.length bN)] 24 (0, 0))) ∧ ag (wc.heap[mV]? = some (.cells #[.int .i64 ((aa ae fQ).f0), .int .i64 ((aa ae fQ).f1), .int .i64 ((aa ae fQ).f2), .int .i64 ((aa ae fQ).f3)] 98 (0, 0))) ∧ ag (wc.heap[ig]? = some (.cells #[.int .i64 ((aa ae 0).f0), .int .i64 ((aa ae 0).f1), .int .i64 ((aa ae 0).f2), .int .i64 ((aa ae 0).f3)] 98 (0, 0))) ∧ ag (Below w.heap.size w wc))
 case first =>
  have H := HC9.out; clear HC9; replace H := ifd H; obtain ⟨c19b0, H⟩ := H
  (first | rw [c19b0] | (simp only [jA, jG]; rw [c19b0]) | skip)
  replace H := if3 H; obtain ⟨c20b0, c21b0, c22b0, H⟩ := H
  by_cases c23 : (rd J9 ((aa ae fQ).f0)) = (rd J9 ((aa ae fQ).f1))
  rotate_left
  ·
   rw [if_neg c23] at H; have c23b := bn2 c23; have H' := ak H; clear H
   try go_wp2
   have n0_ : ag (Kd.R (Kd.int .i64) 3 ((((w15.setCell ⟨ig, 0, none⟩ (.int .i64 ((aa ae 0).f0))).setCell ⟨ig, 1, none⟩ (.int .i64 ((aa ae 0).f1))).setCell ⟨ig, 2, none⟩ (.int .i64 ((aa ae 0).f2))).setCell ⟨ig, 3, none⟩ (.int .i64 ((aa ae 0).f3))) w.heap.size (fun k_ => (w.heap.size ≤ k_)) v742 J9) := ⟨by exact rx (Kd.cO (Kd.dN (p := ⟨ig, 3, none⟩) (Kd.dN (p := ⟨ig, 2, none⟩) (Kd.dN (p := ⟨ig, 1, none⟩) (Kd.dN (p := ⟨ig, 0, none⟩) (Kd.fC iR.out iK.out (by decide)) (fun _ hk => hk.2) (.int .i64 ((aa ae 0).f0))) (fun _ hk => hk.2) (.int .i64 ((aa ae 0).f1))) (fun _ hk => hk.2) (.int .i64 ((aa ae 0).f2))) (fun _ hk => hk.2) (.int .i64 ((aa ae 0).f3))) (fun _ hk => hk.1))⟩
   have n1_ : ag (((((w15.setCell ⟨ig, 0, none⟩ (.int .i64 ((aa ae 0).f0))).setCell ⟨ig, 1, none⟩ (.int .i64 ((aa ae 0).f1))).setCell ⟨ig, 2, none⟩ (.int .i64 ((aa ae 0).f2))).setCell ⟨ig, 3, none⟩ (.int .i64 ((aa ae 0).f3))).heap[ug]? = some (.cells #[.int .i64 ay, .slice (some zF) ae.length bN] 24 (0, 0))) := ⟨bz⟩
   have n2_ : ag (((((w15.setCell ⟨ig, 0, none⟩ (.int .i64 ((aa ae 0).f0))).setCell ⟨ig, 1, none⟩ (.int .i64 ((aa ae 0).f1))).setCell ⟨ig, 2, none⟩ (.int .i64 ((aa ae 0).f2))).setCell ⟨ig, 3, none⟩ (.int .i64 ((aa ae 0).f3))).heap[mV]? = some (.cells #[.int .i64 ((aa ae fQ).f0), .int .i64 ((aa ae fQ).f1), .int .i64 ((aa ae fQ).f2), .int .i64 ((aa ae fQ).f3)] 98 (0, 0))) := ⟨bz⟩
   have n3_ : ag (((((w15.setCell ⟨ig, 0, none⟩ (.int .i64 ((aa ae 0).f0))).setCell ⟨ig, 1, none⟩ (.int .i64 ((aa ae 0).f1))).setCell ⟨ig, 2, none⟩ (.int .i64 ((aa ae 0).f2))).setCell ⟨ig, 3, none⟩ (.int .i64 ((aa ae 0).f3))).heap[ig]? = some (.cells #[.int .i64 ((aa ae 0).f0), .int .i64 ((aa ae 0).f1), .int .i64 ((aa ae 0).f2), .int .i64 ((aa ae 0).f3)] 98 (0, 0))) := ⟨bz⟩
   have n4_ : ag (Below w.heap.size w ((((w15.setCell ⟨ig, 0, none⟩ (.int .i64 ((aa ae 0).f0))).setCell ⟨ig, 1, none⟩ (.int .i64 ((aa ae 0).f1))).setCell ⟨ig, 2, none⟩ (.int .i64 ((aa ae 0).f2))).setCell ⟨ig, 3, none⟩ (.int .i64 ((aa ae 0).f3)))) := ⟨lb⟩
   (try clear iR)
   (try clear dX)
   (try clear gU)
   (try clear iK)
   (try clear HB)
   generalize ((((w15.setCell ⟨ig, 0, none⟩ (.int .i64 ((aa ae 0).f0))).setCell ⟨ig, 1, none⟩ (.int .i64 ((aa ae 0).f1))).setCell ⟨ig, 2, none⟩ (.int .i64 ((aa ae 0).f2))).setCell ⟨ig, 3, none⟩ (.int .i64 ((aa ae 0).f3))) = w29 at n0_ n1_ n2_ n3_ n4_ ⊢
   have iR := n0_; have dX := n1_; have gU := n2_; have iK := n3_; have HB := n4_; clear n0_ n1_ n2_ n3_ n4_; have n_ := a5 (Kd.fH iR.out) (aK dX.out) (aK gU.out) (aK iK.out) (bJ HB.out); clear iR dX gU iK HB; obtain ⟨iR, dX, gU, iK, HB⟩ := n_; obtain ⟨Ao31, co31, eo31⟩ := Kd.bT iR.out
   (first | subst eo31 | (injection eo31 with f1_ f2_ f3_; have f4_ := f1_.symm; have f5_ := f3_.symm; clear f1_ f2_ f3_; subst f4_; subst f5_))
   obtain ⟨p749, q749, PH, e749, Ca⟩ := wq (Kd.bB (Kd.aA iR.out).2.2 ((aa ae fQ).f0)); cases e749; obtain ⟨p750, q750, XY, e750, Cb⟩ := wq (Kd.bB (Kd.aA iR.out).2.2 ((aa ae fQ).f1))
   obtain rfl : PH = XY := (by injection e750)
   refine stC 24 [] (cX (bc0 gU) (cX (bc1 gU) (cX (bc2 gU) (cX (bc3 gU) (cX Ca (cY Cb)))))) af.UL af.GH fun hHeld HT_ HW_ => ?_
   generalize w29.drew = w30 at iR dX gU iK HB Ca Cb hHeld ⊢
   refine pv HT_ 0 44 ?_; refine pv HT_ 1 45 ?_; refine pv HT_ 5 49 ?_; refine pv HT_ 6 50 ?_; refine tv HT_ HW_ hHeld 2 46 ?_; refine pv HT_ 3 47 ?_; refine tv HT_ HW_ hHeld 4 48 ?_; refine tv HT_ HW_ hHeld 7 51 ?_; refine pv HT_ 8 52 ?_; refine tv HT_ HW_ hHeld 9 53 ?_; refine pv HT_ 10 54 ?_; refine pv HT_ 11 55 ?_; refine pu HT_ 12 56 ?_; refine pu HT_ 13 57 ?_; refine pu HT_ 14 58 ?_; refine pu HT_ 15 59 ?_; refine pu HT_ 16 60 ?_; refine pu HT_ 17 61 ?_; refine pu HT_ 18 62 ?_; refine pu HT_ 19 63 ?_; refine pu HT_ 20 64 ?_; refine pu HT_ 21 65 ?_; refine pu HT_ 22 66 ?_; refine pv HT_ 23 67 ?_
   refine kN (fV HT_.out (by kernel_rfl)) ?_
   try go_wp2
   go_meet
   case rel => exact ⟨_, (true), sr, H', ⟨by have := HK1.out; first | omega | exact Nat.le_refl _⟩, ⟨rx iR.out⟩, xb dX, xb gU, xb iK, ⟨lb⟩⟩
  rw [if_pos c23] at H; have c23b := be2 c23; clear c23; replace H := if2 H; obtain ⟨c24b0, c25b0, H⟩ := H; have H' := ak H; clear H
  try go_wp2
  have n0_ : ag (Kd.R (Kd.int .i64) 3 ((((w15.setCell ⟨ig, 0, none⟩ (.int .i64 ((aa ae 0).f0))).setCell ⟨ig, 1, none⟩ (.int .i64 ((aa ae 0).f1))).setCell ⟨ig, 2, none⟩ (.int .i64 ((aa ae 0).f2))).setCell ⟨ig, 3, none⟩ (.int .i64 ((aa ae 0).f3))) w.heap.size (fun k_ => (w.heap.size ≤ k_)) v742 J9) := ⟨by exact rx (Kd.cO (Kd.dN (p := ⟨ig, 3, none⟩) (Kd.dN (p := ⟨ig, 2, none⟩) (Kd.dN (p := ⟨ig, 1, none⟩) (Kd.dN (p := ⟨ig, 0, none⟩) (Kd.fC iR.out iK.out (by decide)) (fun _ hk => hk.2) (.int .i64 ((aa ae 0).f0))) (fun _ hk => hk.2) (.int .i64 ((aa ae 0).f1))) (fun _ hk => hk.2) (.int .i64 ((aa ae 0).f2))) (fun _ hk => hk.2) (.int .i64 ((aa ae 0).f3))) (fun _ hk => hk.1))⟩
  have n1_ : ag (((((w15.setCell ⟨ig, 0, none⟩ (.int .i64 ((aa ae 0).f0))).setCell ⟨ig, 1, none⟩ (.int .i64 ((aa ae 0).f1))).setCell ⟨ig, 2, none⟩ (.int .i64 ((aa ae 0).f2))).setCell ⟨ig, 3, none⟩ (.int .i64 ((aa ae 0).f3))).heap[ug]? = some (.cells #[.int .i64 ay, .slice (some zF) ae.length bN] 24 (0, 0))) := ⟨bz⟩
  have n2_ : ag (((((w15.setCell ⟨ig, 0, none⟩ (.int .i64 ((aa ae 0).f0))).setCell ⟨ig, 1, none⟩ (.int .i64 ((aa ae 0).f1))).setCell ⟨ig, 2, none⟩ (.int .i64 ((aa ae 0).f2))).setCell ⟨ig, 3, none⟩ (.int .i64 ((aa ae 0).f3))).heap[mV]? = some (.cells #[.int .i64 ((aa ae fQ).f0), .int .i64 ((aa ae fQ).f1), .int .i64 ((aa ae fQ).f2), .int .i64 ((aa ae fQ).f3)] 98 (0, 0))) := ⟨bz⟩
  have n3_ : ag (((((w15.setCell ⟨ig, 0, none⟩ (.int .i64 ((aa ae 0).f0))).setCell ⟨ig, 1, none⟩ (.int .i64 ((aa ae 0).f1))).setCell ⟨ig, 2, none⟩ (.int .i64 ((aa ae 0).f2))).setCell ⟨ig, 3, none⟩ (.int .i64 ((aa ae 0).f3))).heap[ig]? = some (.cells #[.int .i64 ((aa ae 0).f0), .int .i64 ((aa ae 0).f1), .int .i64 ((aa ae 0).f2), .int .i64 ((aa ae 0).f3)] 98 (0, 0))) := ⟨bz⟩
  have n4_ : ag (Below w.heap.size w ((((w15.setCell ⟨ig, 0, none⟩ (.int .i64 ((aa ae 0).f0))).setCell ⟨ig, 1, none⟩ (.int .i64 ((aa ae 0).f1))).setCell ⟨ig, 2, none⟩ (.int .i64 ((aa ae 0).f2))).setCell ⟨ig, 3, none⟩ (.int .i64 ((aa ae 0).f3)))) := ⟨lb⟩
  (try clear iR)
  (try clear dX)
  (try clear gU)
  (try clear iK)
  (try clear HB)
  generalize ((((w15.setCell ⟨ig, 0, none⟩ (.int .i64 ((aa ae 0).f0))).setCell ⟨ig, 1, none⟩ (.int .i64 ((aa ae 0).f1))).setCell ⟨ig, 2, none⟩ (.int .i64 ((aa ae 0).f2))).setCell ⟨ig, 3, none⟩ (.int .i64 ((aa ae 0).f3))) = w26 at n0_ n1_ n2_ n3_ n4_ ⊢
  have iR := n0_; have dX := n1_; have gU := n2_; have iK := n3_; have HB := n4_; clear n0_ n1_ n2_ n3_ n4_; have n_ := a5 (Kd.fH iR.out) (aK dX.out) (aK gU.out) (aK iK.out) (bJ HB.out); clear iR dX gU iK HB; obtain ⟨iR, dX, gU, iK, HB⟩ := n_; obtain ⟨Ao28, co28, eo28⟩ := Kd.bT iR.out
  (first | subst eo28 | (injection eo28 with f1_ f2_ f3_; have f4_ := f1_.symm; have f5_ := f3_.symm; clear f1_ f2_ f3_; subst f4_; subst f5_))
  obtain ⟨p749, q749, PH, e749, Ca⟩ := wq (Kd.bB (Kd.aA iR.out).2.2 ((aa ae fQ).f0)); cases e749; obtain ⟨p750, q750, XY, e750, Cb⟩ := wq (Kd.bB (Kd.aA iR.out).2.2 ((aa ae fQ).f1))
  obtain rfl : PH = XY := (by injection e750); obtain ⟨p751, q751, ad751, e751, PI⟩ := wq (Kd.bB (Kd.aA iR.out).2.2 ((aa ae fQ).f0))
  obtain rfl : PH = ad751 := (by injection e751); obtain ⟨p752, q752, ad752, e752, PK⟩ := wq (Kd.bB (Kd.aA iR.out).2.2 ((aa ae 0).f0))
  obtain rfl : PH = ad752 := (by injection e752)
  refine stC 24 [] (cX (bc0 gU) (cX (bc1 gU) (cX (bc2 gU) (cX (bc3 gU) (cX (bc0 iK) (cX (bc1 iK) (cX (bc2 iK) (cX (bc3 iK) (cX Ca (cX Cb (cX PI (cY PK)))))))))))) af.UL af.GH fun hHeld HT_ HW_ => ?_
  generalize w26.drew = w27 at iR dX gU iK HB Ca Cb PI PK hHeld ⊢
  refine pv HT_ 0 44 ?_; refine pv HT_ 1 45 ?_; refine pv HT_ 5 49 ?_; refine pv HT_ 6 50 ?_; refine tv HT_ HW_ hHeld 2 46 ?_; refine pv HT_ 3 47 ?_; refine tv HT_ HW_ hHeld 4 48 ?_; refine tv HT_ HW_ hHeld 7 51 ?_; refine pv HT_ 8 52 ?_; refine tv HT_ HW_ hHeld 9 53 ?_; refine pv HT_ 10 54 ?_; refine pv HT_ 11 55 ?_; refine pv HT_ 12 56 ?_; refine pv HT_ 13 57 ?_; refine pv HT_ 17 61 ?_; refine pv HT_ 18 62 ?_; refine tv HT_ HW_ hHeld 14 58 ?_; refine pv HT_ 15 59 ?_; refine tv HT_ HW_ hHeld 16 60 ?_; refine tv HT_ HW_ hHeld 19 63 ?_; refine pv HT_ 20 64 ?_; refine tv HT_ HW_ hHeld 21 65 ?_; refine pv HT_ 22 66 ?_; refine pv HT_ 23 67 ?_
  refine kN (fV HT_.out (by kernel_rfl)) ?_
  try go_wp2
  go_meet
  case rel => exact ⟨_, (((rd J9 ((aa ae fQ).f0)) != (rd J9 ((aa ae 0).f0)))), sr, H', ⟨by have := HK1.out; first | omega | exact Nat.le_refl _⟩, ⟨rx iR.out⟩, xb dX, xb gU, xb iK, ⟨lb⟩⟩
 case rest =>
  clear HC9; obtain ⟨kq, Tp, rfl, HA, HJ8, iR, dX, gU, iK, HB⟩ := hcut
  cases kq with
  | zero => exact absurd HA.out (by simp [af.j1])
  | succ kj8 =>
   have H := HA.out; clear HA
   simp only [af.j1] at H
   by_cases c32 : Tp = true
   rotate_left
   ·
    replace c32 := Bool.eq_false_iff.mpr c32; subst c32
    have H1 : (af.l0 kj8 J9 (wrap64 (fQ + 1)) ay ae) = some (r1, r2, r3, r4) := by rw [if_neg (show ¬ (false = true) by decide)] at H; exact H
    clear H; have H := H1; clear H1; have H' := ak H; clear H
    go_wp2
    go_roundg kj8
    case measure => have := HK1.out; have := HJ8.out; omega
    case rel => exact ⟨(wrap64 (fQ + 1)), sr, H', ⟨by have := HK1.out; have := HJ8.out; omega⟩, ⟨rx iR.out⟩, xb dX, ⟨lb⟩⟩
   subst c32
   replace H := ip H; have HC33 := ak H; clear H; have ⟨_, _⟩ := nn G5; have ⟨_, _⟩ := nn PG; have ⟨_, _, _, _, _, _, _, _⟩ := cf4 gU
   go_upto_region 9 with (fail)
   go_cut [88] (fun v88 wc => ∃ (kq : Nat) (Ka : Bool), v88 = .bool Ka ∧ ag (af.j2 kq ((aa ae fQ).f1) Ka ay ae ((aa ae 0).f0) ((aa ae 0).f1) ((aa ae 0).f2) ((aa ae 0).f3) = some (r1, r2, r3, r4)) ∧ ag (kq ≤ kj8) ∧ ag (wc.heap[ug]? = some (.cells #[.int .i64 ay, (.slice (some zF) ae.length bN)] 24 (0, 0))) ∧ ag (wc.heap[mV]? = some (.cells #[.int .i64 ((aa ae fQ).f0), .int .i64 ((aa ae fQ).f1), .int .i64 ((aa ae fQ).f2), .int .i64 ((aa ae fQ).f3)] 98 (0, 0))) ∧ ag (wc.heap[ig]? = some (.cells #[.int .i64 ((aa ae 0).f0), .int .i64 ((aa ae 0).f1), .int .i64 ((aa ae 0).f2), .int .i64 ((aa ae 0).f3)] 98 (0, 0))) ∧ ag (Below w.heap.size w wc))
   case first =>
    have H := HC33.out; clear HC33; replace H := ifd H; obtain ⟨c37b0, H⟩ := H
    (first | rw [c37b0] | (simp only [jA, jG]; rw [c37b0]) | skip)
    replace H := if3 H; obtain ⟨c38b0, c39b0, c40b0, H⟩ := H
    by_cases c41 : (rd J9 ((aa ae fQ).f0)) = (rd J9 ((aa ae fQ).f1))
    rotate_left
    ·
     rw [if_neg c41] at H; have c41b := bn2 c41; have H' := ak H; clear H
     try go_wp2
     have n_ := a5 (Kd.fH iR.out) (aK dX.out) (aK gU.out) (aK iK.out) (bJ HB.out); clear iR dX gU iK HB; obtain ⟨iR, dX, gU, iK, HB⟩ := n_; obtain ⟨Ao47, co47, eo47⟩ := Kd.bT iR.out
     (first | subst eo47 | (injection eo47 with f1_ f2_ f3_; have f4_ := f1_.symm; have f5_ := f3_.symm; clear f1_ f2_ f3_; subst f4_; subst f5_))
     obtain ⟨p753, q753, XZ, e753, Cc⟩ := wq (Kd.bB (Kd.aA iR.out).2.2 ((aa ae fQ).f0)); cases e753; obtain ⟨p754, q754, X0, e754, Ce⟩ := wq (Kd.bB (Kd.aA iR.out).2.2 ((aa ae fQ).f1))
     obtain rfl : XZ = X0 := (by injection e754)
     refine stC 19 [] (cX (bc0 gU) (cX (bc1 gU) (cX (bc2 gU) (cX (bc3 gU) (cX Cc (cY Ce)))))) af.UW af.GU fun hHeld HT_ HW_ => ?_
     generalize wc.drew = w46 at iR dX gU iK HB Cc Ce hHeld ⊢
     refine pv HT_ 0 70 ?_; refine pv HT_ 1 71 ?_; refine pv HT_ 5 75 ?_; refine pv HT_ 6 76 ?_; refine tv HT_ HW_ hHeld 2 72 ?_; refine pv HT_ 3 73 ?_; refine tv HT_ HW_ hHeld 4 74 ?_; refine tv HT_ HW_ hHeld 7 77 ?_; refine pv HT_ 8 78 ?_; refine tv HT_ HW_ hHeld 9 79 ?_; refine pv HT_ 10 80 ?_; refine pv HT_ 11 81 ?_; refine pu HT_ 12 82 ?_; refine pu HT_ 13 83 ?_; refine pu HT_ 14 84 ?_; refine pu HT_ 15 85 ?_; refine pu HT_ 16 86 ?_; refine pu HT_ 17 87 ?_; refine pv HT_ 18 88 ?_
     refine kN (fV HT_.out (by kernel_rfl)) ?_
     try go_wp2
     go_meet
     case rel => exact ⟨_, (false), sr, H', ⟨by have := HK1.out; have := HJ8.out; first | omega | exact Nat.le_refl _⟩, xb dX, xb gU, xb iK, ⟨lb⟩⟩
    rw [if_pos c41] at H; have c41b := be2 c41; clear c41; replace H := Option.bind_eq_some_iff.mp H; obtain ⟨UU, A420, H⟩ := H; have A42 := ak A420; clear A420; have H' := ak H; clear H
    try go_wp2
    have n_ := a5 (Kd.fH iR.out) (aK dX.out) (aK gU.out) (aK iK.out) (bJ HB.out); clear iR dX gU iK HB; obtain ⟨iR, dX, gU, iK, HB⟩ := n_; obtain ⟨Ao44, co44, eo44⟩ := Kd.bT iR.out
    (first | subst eo44 | (injection eo44 with f1_ f2_ f3_; have f4_ := f1_.symm; have f5_ := f3_.symm; clear f1_ f2_ f3_; subst f4_; subst f5_))
    obtain ⟨p753, q753, XZ, e753, Cc⟩ := wq (Kd.bB (Kd.aA iR.out).2.2 ((aa ae fQ).f0)); cases e753; obtain ⟨p754, q754, X0, e754, Ce⟩ := wq (Kd.bB (Kd.aA iR.out).2.2 ((aa ae fQ).f1))
    obtain rfl : XZ = X0 := (by injection e754)
    refine stC 19 [] (cX (bc0 gU) (cX (bc1 gU) (cX (bc2 gU) (cX (bc3 gU) (cX (bc0 dX) (cX (bc1 dX) (cX (bc0 iK) (cX (bc1 iK) (cX (bc2 iK) (cX (bc3 iK) (cX Cc (cY Ce)))))))))))) af.UW af.GU fun hHeld HT_ HW_ => ?_
    generalize wc.drew = w43 at iR dX gU iK HB Cc Ce hHeld ⊢
    refine pv HT_ 0 70 ?_; refine pv HT_ 1 71 ?_; refine pv HT_ 5 75 ?_; refine pv HT_ 6 76 ?_; refine tv HT_ HW_ hHeld 2 72 ?_; refine pv HT_ 3 73 ?_; refine tv HT_ HW_ hHeld 4 74 ?_; refine tv HT_ HW_ hHeld 7 77 ?_; refine pv HT_ 8 78 ?_; refine tv HT_ HW_ hHeld 9 79 ?_; refine pv HT_ 10 80 ?_; refine pv HT_ 11 81 ?_; refine pv HT_ 13 83 ?_; refine pv HT_ 15 85 ?_; refine tv HT_ HW_ hHeld 12 82 ?_; refine tv HT_ HW_ hHeld 14 84 ?_; refine tv HT_ HW_ hHeld 16 86 ?_
    refine wT (i := 17) (N := some 87) #[T, T, T, T, T, T, T, T, T, T, T, T, T, T, T, T, T, T, F] rfl rfl (gP HT_.out (by kernel_rfl)) (by decide) (fun K hK => ?_)
    refine DD Try.func75 (by kernel_rfl) rfl #[.agg #[.int .i64 ay, .slice (some zF) ae.length bN], .int .i64 ((aa ae fQ).f1), .int .i64 ((aa ae 0).f0)] (by rfl) rfl rfl (by (try simp only [List.map_toArray, List.map_cons, List.map_nil]); first | done | rfl | (simp only [List.length_drop, List.length_take]; rfl)) ?_
    with_reducible refine (fT.calls kj8 ay _ _ ae ((aa ae fQ).f1) ((aa ae 0).f0) UU _ (Kd.cZ bU.out lb) eU.out A42.out).mono ?_
    rintro e w45 ⟨rfl, hb⟩; have HS10_ := (hb.cell (World.block_lt_of_cell? _ _ (hHeld.2.2.2.2.2.2.2.2.2.2.1))).trans (hHeld.2.2.2.2.2.2.2.2.2.2.1); have HS11_ := (hb.cell (World.block_lt_of_cell? _ _ (hHeld.2.2.2.2.2.2.2.2.2.2.2))).trans (hHeld.2.2.2.2.2.2.2.2.2.2.2)
    refine ⟨_, rfl, ?_⟩
    have n_ := a5 (ro iR hb) (bo dX hb) (bo gU hb) (bo iK hb) (bl hb); clear iR dX gU iK HB; obtain ⟨iR, dX, gU, iK, HB⟩ := n_
    (try clear hb)
    (try clear hb2)
    (try clear hk)
    (try clear hi)
    refine hK.out _ _ ⟨(aH gU.out 0).trans rfl, (aH gU.out 1).trans rfl, (aH gU.out 2).trans rfl, (aH gU.out 3).trans rfl, (aH dX.out 0).trans rfl, (aH dX.out 1).trans rfl, (aH iK.out 0).trans rfl, (aH iK.out 1).trans rfl, (aH iK.out 2).trans rfl, (aH iK.out 3).trans rfl, HS10_, HS11_⟩ (fun hHeld => ?_)
    clear hK K
    refine ol (a' := ?_) ?_ ?_
    rotate_left
    ·
     show Act.put _ (some 87) _ = _
     simp only [Act.put, sA, sZ, sS, jA, jG]
     rfl
    refine pv HT_ 18 88 ?_
    refine kN (fV HT_.out (by kernel_rfl)) ?_
    try go_wp2
    go_meet
    case rel => exact ⟨_, (UU), sr, H', ⟨by have := HK1.out; have := HJ8.out; first | omega | exact Nat.le_refl _⟩, xb dX, xb gU, xb iK, ⟨lb⟩⟩
   case rest =>
    clear HC33; obtain ⟨kq, Ka, rfl, HA, HJ32, dX, gU, iK, HB⟩ := hcut
    cases kq with
    | zero => exact absurd HA.out (by simp [af.j2])
    | succ kj32 =>
     have H := HA.out; clear HA
     simp only [af.j2] at H
     have HC48 := ak H; clear H
     go_upto_if 88 with (fail)
     go_cut [11] (fun v11 wc => ∃ (kq : Nat) (zt : Int), v11 = .int .i64 zt ∧ ag (af.j3 kq zt ay ae = some (r1, r2, r3, r4)) ∧ ag (kq ≤ kj32) ∧ ag (wc.heap[ug]? = some (.cells #[.int .i64 ay, (.slice (some zF) ae.length bN)] 24 (0, 0))) ∧ ag (wc.heap[mV]? = some (.cells #[.int .i64 ((aa ae fQ).f0), .int .i64 ((aa ae fQ).f1), .int .i64 ((aa ae fQ).f2), .int .i64 ((aa ae fQ).f3)] 98 (0, 0))) ∧ ag (wc.heap[ig]? = some (.cells #[.int .i64 ((aa ae 0).f0), .int .i64 ((aa ae 0).f1), .int .i64 ((aa ae 0).f2), .int .i64 ((aa ae 0).f3)] 98 (0, 0))) ∧ ag (Below w.heap.size w wc))
     case first =>
      have H := HC48.out; clear HC48
      by_cases c49 : Ka = true
      ·
       subst c49
       replace H := ip H; have H' := ak H; clear H; have ⟨_, _⟩ := nn G6; have ⟨_, _⟩ := nn G7; have ⟨_, _, _, _, _, _, _, _⟩ := cf4 iK
       go_wp2
       go_meet
       case rel => exact ⟨_, (((aa ae 0).f1)), sr, H', ⟨by have := HK1.out; have := HJ8.out; have := HJ32.out; first | omega | exact Nat.le_refl _⟩, xb dX, xb gU, xb iK, ⟨lb⟩⟩
      replace c49 := Bool.eq_false_iff.mpr c49; subst c49
      have H1 : (af.j3 kj32 ((aa ae fQ).f1) ay ae) = some (r1, r2, r3, r4) := by rw [if_neg (show ¬ (false = true) by decide)] at H; exact H
      clear H; have H := H1; clear H1; have H' := ak H; clear H
      go_wp2
      go_meet
      case rel => exact ⟨_, (((aa ae fQ).f1)), sr, H', ⟨by have := HK1.out; have := HJ8.out; have := HJ32.out; first | omega | exact Nat.le_refl _⟩, xb dX, xb gU, xb iK, ⟨lb⟩⟩
     case rest =>
      clear HC48; obtain ⟨kq, zt, rfl, HA, HJ47, dX, gU, iK, HB⟩ := hcut
      cases kq with
      | zero => exact absurd HA.out (by simp [af.j3])
      | succ kj47 =>
       have H := HA.out; clear HA
       simp only [af.j3] at H
       replace H := ife H; obtain ⟨c53b0, c53b1, H⟩ := H; replace H := ife H; obtain ⟨c54b0, c54b1, H⟩ := H; obtain ⟨y756, X3⟩ : ∃ y_ : List Bool, y_ = (List.replicate (ay : Int).toNat false) := ⟨_, rfl⟩; replace H : (af.l1 kj47 zt y756 0 ay ae) = some (r1, r2, r3, r4) := by first | (rw [X3]; exact H) | exact H
       have acU := ak X3; clear X3; have H' := ak H; clear H; have ⟨_, _⟩ := nn BR; have ⟨_, _⟩ := nn BZ; have ⟨_, _, _, _⟩ := cf2 dX
       go_wp2_with (first | ((with_reducible refine aC (N := 93) rfl ?_); refine Kd.ni Kd.bool _ 4 rfl (N := 93) rfl 26 _ _ rfl ay rfl rfl Try.underlying26 (.bool false) 1 IC rfl (by decide) (by omega) false (ok := fun _ => True) (okp := fun _ => True) rfl (fun _ hk => hk) trivial (oda) (Nat.le_trans (Nat.mul_le_mul_right _ (oda : ay.toNat ≤ 281474976710656)) (by omega)) (Below.refl _ _) (Nat.le_refl _) ?_; intro v757 w58 ho59 hb hg_ hnew_; clear hg_ hnew_; (first | rw [← acU.out] at ho59 | (simp only [Int.reduceToNat] at ho59; rw [← acU.out] at ho59)); have n_ := a5 (Kd.bY (Kd.lg (M := fun k_ => (w.heap.size ≤ k_)) ho59 (ax lb) (fun k_ h_ => h_)) (ax lb)) (bo dX hb) (bo gU hb) (bo iK hb) (bl hb); clear dX gU iK HB; obtain ⟨HO758, dX, gU, iK, HB⟩ := n_; clear hb ho59))
       go_loopg [13] kj47 (fun kq v13 w' => ∃ (KU : List Bool) (xw : Int), v13 = .int .i64 xw ∧ ag (af.l1 kq zt KU xw ay ae = some (r1, r2, r3, r4)) ∧ ag (kq ≤ kj47) ∧ ag (Kd.R Kd.bool 4 w' w.heap.size (fun k_ => (w.heap.size ≤ k_)) v757 KU) ∧ ag (w'.heap[ug]? = some (.cells #[.int .i64 ay, (.slice (some zF) ae.length bN)] 24 (0, 0))) ∧ ag (w'.heap[mV]? = some (.cells #[.int .i64 ((aa ae fQ).f0), .int .i64 ((aa ae fQ).f1), .int .i64 ((aa ae fQ).f2), .int .i64 ((aa ae fQ).f3)] 98 (0, 0))) ∧ ag (w'.heap[ig]? = some (.cells #[.int .i64 ((aa ae 0).f0), .int .i64 ((aa ae 0).f1), .int .i64 ((aa ae 0).f2), .int .i64 ((aa ae 0).f3)] 98 (0, 0))) ∧ ag (Below w.heap.size w w'))
       case atStart => exact ⟨(y756), (0), sr, H', ⟨Nat.le_refl _⟩, ⟨by exact rx (Kd.cO HO758.out (fun _ hk => hk.1))⟩, xb dX, xb gU, xb iK, ⟨lb⟩⟩
       clear H'; obtain ⟨KU, xw, rfl, HA, HK5, gV, dX, gU, iK, HB⟩ := hrel
       cases gk with
       | zero => exact absurd HA.out (by simp [af.l1])
       | succ k5 => ?_
       have H := HA.out; clear HA
       simp only [af.l1] at H
       by_cases c60 : xw < ay
       rotate_left
       ·
        rw [if_neg c60] at H; have c60b0 := decide_eq_false c60; clear c60
        simp only [Option.some.injEq, Prod.mk.injEq] at H
        obtain ⟨rfl, rfl, rfl, rfl⟩ := H; have ⟨_, _⟩ := nn BR; have ⟨_, _⟩ := nn BZ; have ⟨_, _, _, _⟩ := cf2 dX
        go_wp2
        refine bodyPost_ret (ru (rs := [.tmp 2, .tmp 3, .tmp 4, .tmp 5]) rfl (by simp) (.tmp (.tmp (.tmp (.tmp .nil))))) rfl ?_
        exact ⟨_, _, _, by first | rfl | (simp [dx, dz] <;> rfl) | (simp [*, dx, dz] <;> rfl), by first | exact Kd.uo _ _ _ _ _ | exact Kd.yP _ _ _ _ _ | exact Kd.uw _ _ _ _ _ | exact Kd.yN _ _ _ _ _ | exact Kd.yO _ _ _ _ _, Kd.uw _ _ _ _ _, by exact rx gV.out, lb⟩
       rw [if_pos c60] at H; have c60b0 := decide_eq_true c60; clear c60; replace H := Option.bind_eq_some_iff.mp H; obtain ⟨UV, A610, H⟩ := H; have A61 := ak A610; clear A610; replace H := if2 H; obtain ⟨c62b0, c63b0, H⟩ := H; obtain ⟨y760, X4⟩ : ∃ y_ : List Bool, y_ = (KU.set (xw : Int).toNat UV) := ⟨_, rfl⟩; replace H : (af.l1 k5 zt y760 (wrap64 (xw + 1)) ay ae) = some (r1, r2, r3, r4) := by first | (rw [X4]; exact H) | exact H
       have Ny760 := ak X4; clear X4; have H' := ak H; clear H; have ⟨_, _⟩ := nn BR; have ⟨_, _⟩ := nn BZ; have ⟨_, _, _, _⟩ := cf2 dX
       go_wp2_with (first | ((with_reducible refine au (f := 75) rfl ?_); refine gl 105 Try.func75 #[.agg #[.int .i64 ay, .slice (some zF) ae.length bN], .int .i64 zt, .int .i64 xw] ?_; (with_reducible refine (fT.calls k5 ay _ _ ae zt xw UV _ (Kd.cZ bU.out lb) eU.out A61.out).mono ?_); rintro e w68 ⟨rfl, hb⟩; refine ⟨_, rfl, ?_⟩; have n_ := a5 (ro gV hb) (bo dX hb) (bo gU hb) (bo iK hb) (bl hb); clear gV dX gU iK HB; obtain ⟨gV, dX, gU, iK, HB⟩ := n_; clear hb; have p64 : 0 ≤ (xw : Int) := oda; have q64 : (xw : Int) < ((KU.length : Int) : Int) := oda; obtain ⟨go64, co64, eo64, gb64, gl64, cl64, HG64⟩ := Kd.l9 gV.out (by omega); (first | cases eo64 | (injection eo64 with ea_ en_ ec_; (first | subst ea_ | (injection ea_ with ea_; subst ea_)); subst ec_; clear en_)); have GB64 := ak gb64; have GG64 := ak HG64; clear gb64 gl64 HG64; obtain ⟨hx64_0, hf64_0⟩ := Kd.gJ false gV.out (xw : Int) p64 q64; replace p64 := eq_true p64; replace q64 := eq_true q64; obtain ⟨hy69_, hz69_⟩ := Kd.gJ false gV.out (xw : Int) (oda) (oda); have HP69 := Kd.lL gV.out (xw : Int) UV) | ((with_reducible refine fG (t := 4) (p := 106) rfl ?_); refine eQ (t := 4) (p := 106) (v := ?vo_w70) (w1 := (w68.setCell ⟨go64, (xw : Int).toNat, none⟩ (.bool UV))) ?hg ?ho ?hn ?hr ?_; (case ho => rfl); (case hg => rfl); (case hn => rfl); (case hr => first | (go_simp; done) | (go_simp; rfl)); intro w70 hw; have hg : w68.grownBy w70 (some go64) := (by rw [hw]; exact HP69.2); have hp_ : Kd.R Kd.bool 4 w70 w.heap.size (fun k_ => (w.heap.size ≤ k_)) (.slice (some ⟨go64, 0, none⟩) KU.length co64) y760 := (by rw [hw, Ny760.out]; exact HP69.1); clear HP69; have n_ := a5 hp_ (bH (bx dX.out) hg (Kd.gQ gV.out dX.out (by decide))) (bH (bx gU.out) hg (Kd.gQ gV.out gU.out (by decide))) (bH (bx iK.out) hg (Kd.gQ gV.out iK.out (by decide))) (by rw [hw]; exact bR (HB.out) GB64.out : Below w.heap.size w w70); clear gV dX gU iK HB; obtain ⟨gV, dX, gU, iK, HB⟩ := n_; clear hg hw hp_))
       go_roundg k5
       case measure => have := HK1.out; have := HJ8.out; have := HJ32.out; have := HJ47.out; have := HK5.out; omega
       case rel => exact ⟨(y760), (wrap64 (xw + 1)), sr, H', ⟨by have := HK1.out; have := HJ8.out; have := HJ32.out; have := HJ47.out; have := HK5.out; omega⟩, ⟨rx gV.out⟩, xb dX, xb gU, xb iK, ⟨lb⟩⟩
end Go.Proofs.Ytkdoihcjhccliaa.Q
