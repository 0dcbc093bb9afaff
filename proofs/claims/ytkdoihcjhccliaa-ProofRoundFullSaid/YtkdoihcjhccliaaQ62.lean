import Derived.Test.YtkdoihcjhccliaaV
import Derived.Test.YtkdoihcjhccliaaQ0
import Derived.Test.YtkdoihcjhccliaaQ3
namespace Go.Proofs.Ytkdoihcjhccliaa.Q
open Go.RowKit Go.Proofs.YtkdoihcjhccliaaW.PrintWords Go.Proofs.YtkdoihcjhccliaaW.PrintLast Go.Proofs.YtkdoihcjhccliaaW.PrintMore
attribute [local go_sem] dF dG eG eH cz cB dH dI   -- for this text's walks alone
set_option linter.unusedVariables false
set_option linter.unusedSimpArgs false

/-! ### bu: function 58 -/
def bu.l0 : Nat → List Int → Int → List Int → Int → Option (List Int)
  | 0, _, _, _, _ => none
  | k + 1, x1, x2, x7, x8 => if x8 < (x1.length : Int) then (if 0 ≤ x8 then (if (Int.tmod (rd x1 x8) 2) = 0 then (if 0 ≤ (wrap64 (Int.tdiv (rd x1 x8) 2)) then (if (wrap64 (Int.tdiv (rd x1 x8) 2)) < (x7.length : Int) then (bu.l0 k x1 x2 (x7.set ((wrap64 (Int.tdiv (rd x1 x8) 2)) : Int).toNat (wrap64 ((rd x7 (wrap64 (Int.tdiv (rd x1 x8) 2))) + x2))) (wrap64 (x8 + 1))) else (none)) else (none)) else (if 0 ≤ (wrap64 (Int.tdiv (rd x1 x8) 2)) then (if (wrap64 (Int.tdiv (rd x1 x8) 2)) < (x7.length : Int) then (bu.l0 k x1 x2 (x7.set ((wrap64 (Int.tdiv (rd x1 x8) 2)) : Int).toNat (wrap64 ((rd x7 (wrap64 (Int.tdiv (rd x1 x8) 2))) - x2))) (wrap64 (x8 + 1))) else (none)) else (none))) else (none)) else (some x7)
def bu.f (k : Nat) (l0 : List Int) (l1 : List Int) (a2 : Int) : Option (List Int) := (some (([] : List Int) : List Int)).bind fun Sm => (if Sm.length + l0.length < 17592186044416 then (bu.l0 k l1 a2 (Sm ++ l0) 0) else (none))
set_option maxHeartbeats 8000000 in
set_option maxRecDepth 100000 in
theorem bu.calls (k : Nat) (A0 : Option Addr) (c0 : Nat) (l0 : List Int) (A1 : Option Addr) (c1 : Nat) (l1 : List Int) (a2 : Int) (r : List Int) (w : World) (hr0 : Kd.C (Kd.int .i64) w A0 l0.length l0) (hc0 : l0.length ≤ c0) (hr1 : Kd.C (Kd.int .i64) w A1 l1.length l1) (hc1 : l1.length ≤ c1) (h : bu.f k l0 l1 a2 = some r) :
    Calls Try.prog 58 #[.slice A0 l0.length c0, .slice A1 l1.length c1, .int .i64 a2] w fun e w' => ∃ v0_ : Value, e = .returned (v0_) ∧ Kd.R (Kd.int .i64) 2 w' w.heap.size (fun _ => True) v0_ r ∧ Below w.heap.size w w' := by
 have HR0 := ak hr0; have HC0 := ak hc0; clear hr0 hc0; have HR1 := ak hr1; have HC1 := ak hc1; clear hr1 hc1; have HB := ak (Below.refl w.heap.size w); have H : ((some (([] : List Int) : List Int)).bind fun Sm => (if Sm.length + l0.length < 17592186044416 then (bu.l0 k l1 a2 (Sm ++ l0) 0) else (none))) = some r := h; clear h; obtain ⟨Sm, Yh⟩ : ∃ y_ : List Int, y_ = (([] : List Int)) := ⟨_, rfl⟩; replace H : (if Sm.length + l0.length < 17592186044416 then (bu.l0 k l1 a2 (Sm ++ l0) 0) else (none)) = some r := by first | (rw [Yh]; exact H) | exact H
 have adj := ak Yh; clear Yh; replace H := ifn H; obtain ⟨c4, H⟩ := H; have LMc4 := ak c4; clear c4; obtain ⟨y355, Yi⟩ : ∃ y_ : List Int, y_ = (Sm ++ l0) := ⟨_, rfl⟩; replace H : (bu.l0 k l1 a2 y355 0) = some r := by first | (rw [Yi]; exact H) | exact H
 have Ny355 := ak Yi; clear Yi; have H' := ak H; clear H
 go_enter Try.func58, Try.ntmps58
 go_wp2_with (first | ((with_reducible refine aC (N := 9) rfl ?_); refine Kd.ut (Kd.int .i64) _ 2 ?hg (N := 9) ?hd (xs := ([] : List Int)) (inner := []) (ok := fun _ => True) (okp := fun _ => True) ?hr ?hp (fun _ hk => hk) trivial (Below.refl _ _) (Nat.le_refl _) (by simp) ?_; (case hd => rfl); (case hg => rfl); (case hr => first | (go_simp; done) | (go_simp; rfl)); (case hp => exact (je.none _ _)); intro v353 w5 ho6 hb hg_ hnew_; clear hg_ hnew_; (first | rw [← adj.out] at ho6 | (simp only [Int.reduceToNat] at ho6; rw [← adj.out] at ho6)); have adk := ak (Kd.bY ho6 (ax lb)); replace HB := ak (bl hb); clear hb ho6) | ((with_reducible refine lJ (b := .append) (xs := #[.tmp 9, .tmp 10]) rfl ?_); at_builtin; refine Kd.xR (Kd.int .i64) (w0 := w) w.heap.size rfl (.tmp 9) (.tmp 10) 25 2 (.int .i64 0) 8 rfl Try.underlying25 wW rfl (by decide) (by omega) v353 Sm l0 _ _ _ (fun _ => True) (fun _ => False) rfl rfl ?aO ?aR (fun _ _ h => h) (fun _ h => h.elim) ?aF ?aB ?aS ?aL ?_; (case aR => repeat (first | exact (Kd.cZ HR0.out HB.out) | (with_reducible refine Kd.nD ?_ _) | (with_reducible refine Kd.nE ?_ _) | (with_reducible refine Kd.rq ?_))); (case aB => exact lb); (case aF => exact (fun _ _ => trivial)); (case aO => exact (rx adk.out)); (case aS => exact (ax lb)); (case aL => have := LMc4.out; omega); intro v356 w7 ho hb hg hat; rw [← Ny355.out] at ho; have n0_ := ak (hb); have n1_ := ak (ho); clear HB; clear adk; have HB := n0_; have HO357 := n1_; clear n0_ n1_; clear ho hb hg hat))
 go_loopg [8] k (fun kq v8 w' => ∃ (mr : List Int) (fQ : Int), v8 = .int .i64 fQ ∧ ag (bu.l0 kq l1 a2 mr fQ = some r) ∧ ag (kq ≤ k) ∧ ag (Kd.R (Kd.int .i64) 2 w' w.heap.size (fun _ => True) v356 mr) ∧ ag (Below w.heap.size w w'))
 case atStart => exact ⟨(y355), (0), sr, H', ⟨Nat.le_refl _⟩, ⟨rx HO357.out⟩, ⟨lb⟩⟩
 clear H'; obtain ⟨mr, fQ, rfl, HA, HK1, lc, HB⟩ := hrel
 cases gk with
 | zero => exact absurd HA.out (by simp [bu.l0])
 | succ k1 => ?_
 have H := HA.out; clear HA
 simp only [bu.l0] at H
 by_cases c8 : fQ < (l1.length : Int)
 rotate_left
 ·
  rw [if_neg c8] at H; have c8b0 := decide_eq_false c8; clear c8; obtain rfl := Option.some.inj H
  go_wp2
  go_ret
  exact ⟨_, by first | rfl | (simp [dx, dz] <;> rfl) | (simp [*, dx, dz] <;> rfl), by exact rx lc.out, lb⟩
 rw [if_pos c8] at H; have c8b0 := decide_eq_true c8; clear c8; replace H := ifd H; obtain ⟨c9b0, H⟩ := H
 by_cases c10 : (Int.tmod (rd l1 fQ) 2) = 0
 rotate_left
 ·
  rw [if_neg c10] at H; have c10b := bn2 c10; obtain ⟨ji18, hji18⟩ : ∃ j_ : Int, (wrap64 (Int.tdiv (rd l1 fQ) 2)) = j_ := ⟨_, rfl⟩; replace H : (if 0 ≤ (ji18) then (if (ji18) < (mr.length : Int) then (bu.l0 k1 l1 a2 (mr.set ((ji18) : Int).toNat (wrap64 ((rd mr (ji18)) - a2))) (wrap64 (fQ + 1))) else (none)) else (none)) = some r := by first | (rw [hji18] at H; exact H) | (simp only [hji18] at H ⊢; exact H)
  have hji18w : (IntKind.i64.wrap (Int.tdiv (rd l1 fQ) 2)) = ji18 := (jA _).trans hji18; replace H := if2 H; obtain ⟨c19b0, c20b0, H⟩ := H; obtain ⟨y364, Yj⟩ : ∃ y_ : List Int, y_ = (mr.set ((ji18) : Int).toNat (wrap64 ((rd mr (ji18)) - a2))) := ⟨_, rfl⟩; replace H : (bu.l0 k1 l1 a2 y364 (wrap64 (fQ + 1))) = some r := by first | (rw [Yj]; exact H) | exact H
  have Ny364 := ak Yj; clear Yj; have H' := ak H; clear H; obtain ⟨p358, q358, Yk, e358, Cx⟩ := wq (Kd.bB HR1.out fQ); cases e358
  (try replace Cx := hbc HB Cx); obtain ⟨p362, q362, acB, e362, Bj⟩ := wq (Kd.bB HR1.out fQ)
  obtain rfl : Yk = acB := (by injection e362)
  (try replace Bj := hbc HB Bj); obtain ⟨Ao22, co22, eo22⟩ := Kd.bT lc.out; subst eo22; obtain ⟨p363, q363, ad363, e363, Yl⟩ := wq (Kd.bB (Kd.aA lc.out).2.2 (ji18)); cases e363; have p21 : 0 ≤ ((ji18) : Int) := oda; have q21 : ((ji18) : Int) < ((mr.length : Int) : Int) := oda
  obtain ⟨go21, co21, eo21, gb21, gl21, cl21, HG21⟩ := Kd.l9 lc.out (by omega)
  (first | cases eo21 | (injection eo21 with ea_ en_ ec_; (first | subst ea_ | (injection ea_ with ea_; subst ea_)); subst ec_; clear en_))
  have GB21 := ak gb21; have GG21 := ak HG21; clear gb21 gl21 HG21
  (first | simp only [add_plain] at Yl | skip)
  obtain ⟨UM, UN⟩ := Kd.gJ 0 lc.out ((ji18) : Int) p21 q21; replace p21 := eq_true p21; replace q21 := eq_true q21; have HP23 := Kd.lL lc.out ((ji18) : Int) (wrap64 ((rd mr (ji18)) - a2))
  go_wp2_with (first | ((with_reducible refine fG (t := 2) (p := 45) rfl ?_); refine eQ (t := 2) (p := 45) (v := ?vo_w24) (w1 := (wr.setCell ⟨go21, ((ji18) : Int).toNat, none⟩ (.int .i64 (wrap64 ((rd mr (ji18)) - a2))))) ?hg ?ho ?hn ?hr ?_; (case ho => rfl); (case hg => rfl); (case hn => rfl); (case hr => first | (go_simp; done) | (go_simp; rfl)); intro w24 hw; have hg : wr.grownBy w24 (some go21) := (by rw [hw]; exact HP23.2); have hp_ : Kd.R (Kd.int .i64) 2 w24 w.heap.size (fun _ => True) (.slice (some ⟨go21, 0, none⟩) mr.length co22) y364 := (by rw [hw, Ny364.out]; exact HP23.1); clear HP23; replace lc := ak (hp_); replace HB := ak ((by rw [hw]; exact bR (HB.out) GB21.out : Below w.heap.size w w24)); clear hg hw hp_))
  go_roundg k1
  case measure => have := HK1.out; omega
  case rel => exact ⟨(y364), (wrap64 (fQ + 1)), sr, H', ⟨by have := HK1.out; omega⟩, ⟨rx lc.out⟩, ⟨lb⟩⟩
 rw [if_pos c10] at H; have c10b := be2 c10; clear c10; obtain ⟨ji11, hji11⟩ : ∃ j_ : Int, (wrap64 (Int.tdiv (rd l1 fQ) 2)) = j_ := ⟨_, rfl⟩; replace H : (if 0 ≤ (ji11) then (if (ji11) < (mr.length : Int) then (bu.l0 k1 l1 a2 (mr.set ((ji11) : Int).toNat (wrap64 ((rd mr (ji11)) + a2))) (wrap64 (fQ + 1))) else (none)) else (none)) = some r := by first | (rw [hji11] at H; exact H) | (simp only [hji11] at H ⊢; exact H)
 have hji11w : (IntKind.i64.wrap (Int.tdiv (rd l1 fQ) 2)) = ji11 := (jA _).trans hji11; replace H := if2 H; obtain ⟨c12b0, c13b0, H⟩ := H; obtain ⟨y361, Ym⟩ : ∃ y_ : List Int, y_ = (mr.set ((ji11) : Int).toNat (wrap64 ((rd mr (ji11)) + a2))) := ⟨_, rfl⟩; replace H : (bu.l0 k1 l1 a2 y361 (wrap64 (fQ + 1))) = some r := by first | (rw [Ym]; exact H) | exact H
 have Ny361 := ak Ym; clear Ym; have H' := ak H; clear H; obtain ⟨p358, q358, Yk, e358, Cx⟩ := wq (Kd.bB HR1.out fQ); cases e358
 (try replace Cx := hbc HB Cx); obtain ⟨p359, q359, ad359, e359, P6⟩ := wq (Kd.bB HR1.out fQ)
 obtain rfl : Yk = ad359 := (by injection e359)
 (try replace P6 := hbc HB P6); obtain ⟨Ao15, co15, eo15⟩ := Kd.bT lc.out; subst eo15; obtain ⟨p360, q360, ad360, e360, Yn⟩ := wq (Kd.bB (Kd.aA lc.out).2.2 (ji11)); cases e360; have p14 : 0 ≤ ((ji11) : Int) := oda; have q14 : ((ji11) : Int) < ((mr.length : Int) : Int) := oda
 obtain ⟨go14, co14, eo14, gb14, gl14, cl14, HG14⟩ := Kd.l9 lc.out (by omega)
 (first | cases eo14 | (injection eo14 with ea_ en_ ec_; (first | subst ea_ | (injection ea_ with ea_; subst ea_)); subst ec_; clear en_))
 have GB14 := ak gb14; have GG14 := ak HG14; clear gb14 gl14 HG14
 (first | simp only [add_plain] at Yn | skip)
 obtain ⟨hx14_0, hf14_0⟩ := Kd.gJ 0 lc.out ((ji11) : Int) p14 q14; replace p14 := eq_true p14; replace q14 := eq_true q14; have HP16 := Kd.lL lc.out ((ji11) : Int) (wrap64 ((rd mr (ji11)) + a2))
 go_wp2_with (first | ((with_reducible refine fG (t := 2) (p := 34) rfl ?_); refine eQ (t := 2) (p := 34) (v := ?vo_w17) (w1 := (wr.setCell ⟨go14, ((ji11) : Int).toNat, none⟩ (.int .i64 (wrap64 ((rd mr (ji11)) + a2))))) ?hg ?ho ?hn ?hr ?_; (case ho => rfl); (case hg => rfl); (case hn => rfl); (case hr => first | (go_simp; done) | (go_simp; rfl)); intro w17 hw; have hg : wr.grownBy w17 (some go14) := (by rw [hw]; exact HP16.2); have hp_ : Kd.R (Kd.int .i64) 2 w17 w.heap.size (fun _ => True) (.slice (some ⟨go14, 0, none⟩) mr.length co15) y361 := (by rw [hw, Ny361.out]; exact HP16.1); clear HP16; replace lc := ak (hp_); replace HB := ak ((by rw [hw]; exact bR (HB.out) GB14.out : Below w.heap.size w w17)); clear hg hw hp_))
 go_roundg k1
 case measure => have := HK1.out; omega
 case rel => exact ⟨(y361), (wrap64 (fQ + 1)), sr, H', ⟨by have := HK1.out; omega⟩, ⟨rx lc.out⟩, ⟨lb⟩⟩
end Go.Proofs.Ytkdoihcjhccliaa.Q
