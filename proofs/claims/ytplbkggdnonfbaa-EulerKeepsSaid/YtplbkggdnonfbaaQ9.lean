import Derived.Test.YtplbkggdnonfbaaQ0
namespace Go.Proofs.Ytplbkggdnonfbaa.Q
open Go.RowKit Go.Proofs.YtplbkggdnonfbaaW.PrintWords Go.Proofs.YtplbkggdnonfbaaW.PrintLast Go.Proofs.YtplbkggdnonfbaaW.PrintMore
attribute [local go_sem] max2_int min2_int max_two min_two max_three min_three max_four min_four   -- for this text's walks alone
set_option linter.unusedVariables false
set_option linter.unusedSimpArgs false

/-! ### euler_Step: function 33 -/
def euler_Step.l0 : Nat → List (S51) → Int → Int → Option ((List (S51)))
  | 0, _, _, _ => none
  | k + 1, x0, x2, x3 => if x2 < x3 then (if 0 ≤ x3 then (if x3 < (x0.length : Int) then (if 0 ≤ x2 then (if x2 < (x0.length : Int) then (euler_Step.l0 k ((x0.set (x2 : Int).toNat (⟨(rd_T51 x0 x3).f0, (rd_T51 x0 x3).f1⟩ : S51)).set (x3 : Int).toNat (⟨(rd_T51 x0 x2).f0, (rd_T51 x0 x2).f1⟩ : S51)) (wrap64 (x2 + 1)) (wrap64 (x3 - 1))) else (none)) else (none)) else (none)) else (none)) else (some x0)
def euler_Step.f (k : Nat) (l0 : List (S51)) : Option ((List (S51))) := euler_Step.l0 k l0 0 (wrap64 ((l0.length : Int) - 1))
theorem euler_Step.mono_l : ∀ k, (∀ y0 y1 y2, LeO (euler_Step.l0 k y0 y1 y2) (euler_Step.l0 (k + 1) y0 y1 y2))
  | 0 => fun _ _ _ r h => by simp [euler_Step.l0] at h
  | k + 1 => by
    have ih0 := euler_Step.mono_l k
    · intro y0 y1 y2
      unfold euler_Step.l0
      repeat' first
      | (with_reducible exact ih0 _ _ _)
      | (with_reducible exact LeO.refl _)
      | (with_reducible exact LeO.none _)
      | (with_reducible refine LeO.ite ?_ ?_)
      | (with_reducible refine LeO.bind ?_ (fun _ => ?_))
      | exact ih0 _ _ _
      | exact LeO.none _
      | refine LeO.ite ?_ ?_
      | refine LeO.bind ?_ (fun _ => ?_)
theorem euler_Step.mono : ∀ a0 k, LeO (euler_Step.f k a0) (euler_Step.f (k + 1) a0) := by
  intro a0 k
  have ih0 := euler_Step.mono_l k
  unfold euler_Step.f
  repeat' first
      | (with_reducible exact ih0 _ _ _)
      | (with_reducible exact LeO.refl _)
      | (with_reducible exact LeO.none _)
      | (with_reducible refine LeO.ite ?_ ?_)
      | (with_reducible refine LeO.bind ?_ (fun _ => ?_))
      | exact ih0 _ _ _
      | exact LeO.none _
      | refine LeO.ite ?_ ?_
      | refine LeO.bind ?_ (fun _ => ?_)
def euler_Step.T3 : Bool × List (List Nat × List Nat) := (true, [([], []), ([], []), ([], []), ([], []), ([], []), ([], []), ([4, 5], [4, 5]), ([6], [6]), ([], []), ([], []), ([8, 9], [8, 9]), ([10], [10]), ([0, 1, 0, 1, 4, 5, 6, 7, 11], [0, 1]), ([12, 7, 0, 1, 4, 5, 6, 7, 11], [7, 12]), ([2, 3, 0, 1, 2, 3, 4, 5, 6, 7, 8, 9, 10, 11, 12, 13], [2, 3]), ([14, 11, 13, 0, 1, 2, 3, 4, 5, 6, 7, 8, 9, 10, 11, 12, 13], [11, 14])])
def euler_Step.B3 : List Nat := [0, 0, 0, 0, 0, 0, 48, 112, 0, 0, 768, 1792, 4083, 8179, 16383, 32767]
theorem euler_Step.tab3 : rtab .any (opsOf Try.f33 3) = euler_Step.T3 := by kernel_rfl
theorem euler_Step.bits3 : waitsOk euler_Step.T3.2 euler_Step.B3 = true := by kernel_rfl
set_option maxHeartbeats 8000000 in
set_option maxRecDepth 100000 in
theorem euler_Step.calls (k : Nat) (P0_ : Nat → Prop) (u9000_ : Value) (l0 : List (S51)) (r : List (S51)) (w0 w : World) (hB : Below w0.heap.size w0 w) (ho0 : Kd.R k51 51 w w0.heap.size P0_ u9000_ l0) (h : euler_Step.f k l0 = some r) :
    Calls Try.prog 33 #[u9000_] w fun e w' => e = .returned (.tuple #[]) ∧ Kd.R k51 51 w' w0.heap.size (fun k_ => (P0_ k_ ∨ w.heap.size ≤ k_)) u9000_ r ∧ Below w0.heap.size w0 w' ∧ Kept w w' (fun k_ => P0_ k_) := by
 have hu51 := Try.underlying51; have HO0 := ak (show Kd.R k51 51 w w0.heap.size (fun k_ => (P0_ k_ ∨ w.heap.size ≤ k_)) u9000_ l0 from Kd.R_mono ho0 (fun k_ hk => (.inl hk))); have HK := ak (Kept.refl w (fun k_ => P0_ k_)); have HW0 := ak hB.size; have HB := ak hB; clear hB; have H : (euler_Step.l0 k l0 0 (wrap64 ((l0.length : Int) - 1))) = some r := h; clear h; have H' := ak H; clear H; obtain ⟨Ao2, co2, eo2⟩ := Kd.R_slice HO0.out; subst eo2
 go_enter Try.func33, Try.ntmps33
 go_wp2
 go_loopg [2, 3] k (fun kq v2 v3 w' => ∃ (x0_1 : List (S51)) (x2_1 : Int) (x3_1 : Int), v2 = .int .i64 x2_1 ∧ v3 = .int .i64 x3_1 ∧ Aside0 (euler_Step.l0 kq x0_1 x2_1 x3_1 = some r) ∧ Aside0 (kq ≤ k) ∧ Aside0 (Kd.R k51 51 w' w0.heap.size (fun k_ => (P0_ k_ ∨ w.heap.size ≤ k_)) (.slice Ao2 l0.length co2) x0_1) ∧ Aside0 (Kept w w' (fun k_ => P0_ k_)) ∧ Aside0 (Below w0.heap.size w0 w'))
 case atStart => exact ⟨(l0), (0), (wrap64 ((l0.length : Int) - 1)), (by first | rfl | (simp [*]; done)), (by first | rfl | (simp [*]; done)), H', ⟨Nat.le_refl _⟩, ⟨rx HO0.out⟩, ⟨lk⟩, ⟨lb⟩⟩
 case round =>
  clear H'; obtain ⟨x0_1, x2_1, x3_1, rfl, rfl, HA, HK1, HO_0, HK, HB⟩ := hrel; have hl0_1 := (Kd.R_reads' HO_0.out).1; rw [hl0_1] at HO_0
  (try simp only [hl0_1])
  cases gk with
  | zero => exact absurd HA.out (by simp [euler_Step.l0])
  | succ k1 =>
   have H := HA.out; clear HA
   simp only [euler_Step.l0] at H
   by_cases c3 : x2_1 < x3_1
   ·
    rw [if_pos c3] at H; have c3b0 := decide_eq_true c3; clear c3; replace H := ifd H; obtain ⟨c4b0, H⟩ := H; replace H := ifd H; obtain ⟨c5b0, H⟩ := H; replace H := ifd H; obtain ⟨c6b0, H⟩ := H; replace H := ifd H; obtain ⟨c7b0, H⟩ := H; obtain ⟨y181, hy181⟩ : ∃ y_ : List (S51), y_ = (x0_1.set (x2_1 : Int).toNat (⟨(rd_T51 x0_1 x3_1).f0, (rd_T51 x0_1 x3_1).f1⟩ : S51)) := ⟨_, rfl⟩; rw [← hy181] at H; have Ny181 := ak hy181; clear hy181; obtain ⟨y182, hy182⟩ : ∃ y_ : List (S51), y_ = (y181.set (x3_1 : Int).toNat (⟨(rd_T51 x0_1 x2_1).f0, (rd_T51 x0_1 x2_1).f1⟩ : S51)) := ⟨_, rfl⟩; rw [← hy182] at H; have Ny182 := ak hy182; clear hy182; have H' := ak H; clear H
    try go_wp2
    have n_ := a3 (Kd.R_drew HO_0.out) (Kept.drew HK.out) (below_drew1 HB.out); clear HO_0 HK HB; obtain ⟨HO_0, HK, HB⟩ := n_; have p179 : 0 ≤ (x3_1 : Int) := oda; have q179 : x3_1 < (x0_1.length : Int) := oda; obtain ⟨ad179, e179, hx179_0, hx179_1⟩ := at_T51 (Kd.R_reads' HO_0.out).2.2 x3_1 p179 q179; cases e179; replace p179 := eq_true p179; replace q179 := eq_true q179; have p180 : 0 ≤ (x2_1 : Int) := oda; have q180 : x2_1 < (x0_1.length : Int) := oda; obtain ⟨ad180, e180, hx180_0, hx180_1⟩ := at_T51 (Kd.R_reads' HO_0.out).2.2 x2_1 p180 q180
    obtain rfl : ad179 = ad180 := (by injection e180)
    replace p180 := eq_true p180; replace q180 := eq_true q180; have p8 : 0 ≤ (x2_1 : Int) := oda; have q8 : (x2_1 : Int) < ((x0_1.length : Int) : Int) := oda
    obtain ⟨go8, co8, eo8, gb8, gl8, cl8, HG8⟩ := Kd.R_form HO_0.out (by omega)
    (first | cases eo8 | (injection eo8 with ea_ en_ ec_; (first | subst ea_ | (injection ea_ with ea_; subst ea_)); subst ec_; clear en_))
    have GB8 := ak gb8; have GG8 := ak HG8; clear gb8 gl8 HG8; have HMgo8 := ak (show (P0_ go8 ∨ w.heap.size ≤ go8) from (HO_0.out.1 _ rfl))
    (first | simp only [add_plain] at hx179_0 | skip)
    (first | simp only [add_plain] at hx179_1 | skip)
    (first | simp only [add_plain] at hx180_0 | skip)
    (first | simp only [add_plain] at hx180_1 | skip)
    obtain ⟨ce8, hcl8, hM8, hcc8, hfr8⟩ := Kd.R_elem HO_0.out z51 (x2_1 : Int) p8 q8; obtain rfl := k51_openM hM8; have hx8_0 : World.cell? _ ⟨go8, (x2_1 : Int).toNat * 2, none⟩ = some (.int .i64 ((rd_T51 x0_1 x2_1).f0)) := hcc8 0 _ rfl; have hx8_1 : World.cell? _ ⟨go8, (x2_1 : Int).toNat * 2 + 1, none⟩ = some (.bool ((rd_T51 x0_1 x2_1).f1)) := hcc8 1 _ rfl; have hf8_0 : World.frozen? _ ⟨go8, (x2_1 : Int).toNat * 2, none⟩ = false := hfr8 0; have hf8_1 : World.frozen? _ ⟨go8, (x2_1 : Int).toNat * 2 + 1, none⟩ = false := hfr8 1; clear hcl8 hcc8 hfr8 hM8; replace p8 := eq_true p8; replace q8 := eq_true q8
    obtain ⟨ce11, hcl11, hM11, hcc11, hfr11⟩ := Kd.R_elem HO_0.out z51 (x2_1 : Int) (oda) (by have h_ : (x2_1 : Int) < ((x0_1.length : Int) : Int) := oda; first | exact h_ | (have e_ := (Kd.R_reads' HO_0.out).1; omega) | simpa using h_)
    obtain rfl := k51_openM hM11; have HP11 := (Kd.R_seg HO_0.out (x2_1 : Int) (oda) (by have h_ : (x2_1 : Int) < ((x0_1.length : Int) : Int) := oda; first | exact h_ | (have e_ := (Kd.R_reads' HO_0.out).1; omega) | simpa using h_) (seg := [.int .i64 ((rd_T51 x0_1 x3_1).f0), .bool ((rd_T51 x0_1 x3_1).f1)]) (j := 0) hcl11 hcc11 (show 2 ≤ 2 from by decide) (x' := (⟨(rd_T51 x0_1 x3_1).f0, (rd_T51 x0_1 x3_1).f1⟩ : S51)) (k51_mkM _ _ _ (⟨(rd_T51 x0_1 x3_1).f0, (rd_T51 x0_1 x3_1).f1⟩ : S51) ) (fun _ hk => hk)).1
    rw [← Ny181.out] at HP11; have HQ11 := ak HP11; clear hcl11 hcc11 hfr11 hM11 HP11; have p9 : 0 ≤ (x3_1 : Int) := oda; have q9 : (x3_1 : Int) < ((x0_1.length : Int) : Int) := oda; obtain ⟨ce9, hcl9, hM9, hcc9, hfr9⟩ := Kd.R_elem HQ11.out z51 (x3_1 : Int) p9 q9; obtain rfl := k51_openM hM9; have hx9_0 : World.cell? _ ⟨go8, (x3_1 : Int).toNat * 2, none⟩ = some (.int .i64 ((rd_T51 y181 x3_1).f0)) := hcc9 0 _ rfl; have hx9_1 : World.cell? _ ⟨go8, (x3_1 : Int).toNat * 2 + 1, none⟩ = some (.bool ((rd_T51 y181 x3_1).f1)) := hcc9 1 _ rfl; have hf9_0 : World.frozen? _ ⟨go8, (x3_1 : Int).toNat * 2, none⟩ = false := hfr9 0; have hf9_1 : World.frozen? _ ⟨go8, (x3_1 : Int).toNat * 2 + 1, none⟩ = false := hfr9 1; clear hcl9 hcc9 hfr9 hM9; replace p9 := eq_true p9; replace q9 := eq_true q9
    obtain ⟨ce12, hcl12, hM12, hcc12, hfr12⟩ := Kd.R_elem HQ11.out z51 (x3_1 : Int) (oda) (by have h_ : (x3_1 : Int) < ((x0_1.length : Int) : Int) := oda; first | exact h_ | (have e_ := (Kd.R_reads' HO_0.out).1; omega) | simpa using h_)
    obtain rfl := k51_openM hM12; have HP12 := (Kd.R_seg HQ11.out (x3_1 : Int) (oda) (by have h_ : (x3_1 : Int) < ((x0_1.length : Int) : Int) := oda; first | exact h_ | (have e_ := (Kd.R_reads' HO_0.out).1; omega) | simpa using h_) (seg := [.int .i64 ((rd_T51 x0_1 x2_1).f0), .bool ((rd_T51 x0_1 x2_1).f1)]) (j := 0) hcl12 hcc12 (show 2 ≤ 2 from by decide) (x' := (⟨(rd_T51 x0_1 x2_1).f0, (rd_T51 x0_1 x2_1).f1⟩ : S51)) (k51_mkM _ _ _ (⟨(rd_T51 x0_1 x2_1).f0, (rd_T51 x0_1 x2_1).f1⟩ : S51) ) (fun _ hk => hk)).1
    rw [← Ny182.out] at HP12; have HQ12 := ak HP12; clear hcl12 hcc12 hfr12 hM12 HP12
    refine start_ (n := 16) (S := fun w' => w'.cell? ⟨go8, ((x3_1).toNat * 2), none⟩ = some (.int .i64 ((rd_T51 x0_1 x3_1).f0)) ∧ w'.cell? ⟨go8, ((x3_1).toNat * 2) + 1, none⟩ = some (.bool ((rd_T51 x0_1 x3_1).f1)) ∧ w'.cell? ⟨go8, ((x2_1).toNat * 2), none⟩ = some (.int .i64 ((rd_T51 x0_1 x2_1).f0)) ∧ w'.cell? ⟨go8, ((x2_1).toNat * 2) + 1, none⟩ = some (.bool ((rd_T51 x0_1 x2_1).f1))) (ds := [13, 15]) #[F, F, F, F, F, F, F, F, F, F, F, F, F, F, F, F] (by kernel_rfl) rfl rfl ⟨hx179_0, hx179_1, hx180_0, hx180_1⟩ (fun hHeld => ?_); refine with_tabW euler_Step.tab3 euler_Step.bits3 (fun HT_ HW_ => ?_)
    generalize wr.drew = w10 at HO_0 HK HB GG8 HQ11 HQ12 hf8_0 hf8_1 hf9_0 hf9_1 hx179_0 hx179_1 hx180_0 hx180_1 hx8_0 hx8_1 hx9_0 hx9_1 hHeld ⊢
    refine pure_ (i := 0) (N := some 14) (v := ?_) (a' := ?_) #[T, F, F, F, F, F, F, F, F, F, F, F, F, F, F, F] rfl rfl (any_of HT_.out (by kernel_rfl)) (fun _ _ _ h => h) (Or.inl ⟨by rfl, ?_⟩) ?_ ?_; rotate_left; intro w'; go_simp; with_reducible rfl; rotate_left; simp only [Act.put, sA, sZ, sS, i64_w, i32_w]; rfl
    refine pure_ (i := 1) (N := some 15) (v := ?_) (a' := ?_) #[T, T, F, F, F, F, F, F, F, F, F, F, F, F, F, F] rfl rfl (any_of HT_.out (by kernel_rfl)) (fun _ _ _ h => h) (Or.inl ⟨by rfl, ?_⟩) ?_ ?_; rotate_left; intro w'; go_simp; with_reducible rfl; rotate_left; simp only [Act.put, sA, sZ, sS, i64_w, i32_w]; rfl
    refine pure_ (i := 2) (N := some 16) (v := ?_) (a' := ?_) #[T, T, T, F, F, F, F, F, F, F, F, F, F, F, F, F] rfl rfl (any_of HT_.out (by kernel_rfl)) (fun _ _ _ h => h) (Or.inl ⟨by rfl, ?_⟩) ?_ ?_; rotate_left; intro w'; go_simp; with_reducible rfl; rotate_left; simp only [Act.put, sA, sZ, sS, i64_w, i32_w]; rfl
    refine pure_ (i := 3) (N := some 17) (v := ?_) (a' := ?_) #[T, T, T, T, F, F, F, F, F, F, F, F, F, F, F, F] rfl rfl (any_of HT_.out (by kernel_rfl)) (fun _ _ _ h => h) (Or.inl ⟨by rfl, ?_⟩) ?_ ?_; rotate_left; intro w'; go_simp; with_reducible rfl; rotate_left; simp only [Act.put, sA, sZ, sS, i64_w, i32_w]; rfl
    refine pure_ (i := 4) (N := some 18) (v := ?_) (a' := ?_) #[T, T, T, T, T, F, F, F, F, F, F, F, F, F, F, F] rfl rfl (any_of HT_.out (by kernel_rfl)) (fun _ _ _ h => h) (Or.inl ⟨by rfl, ?_⟩) ?_ ?_; rotate_left; intro w'; go_simp; with_reducible rfl; rotate_left; simp only [Act.put, sA, sZ, sS, i64_w, i32_w]; rfl
    refine pure_ (i := 5) (N := some 19) (v := ?_) (a' := ?_) #[T, T, T, T, T, T, F, F, F, F, F, F, F, F, F, F] rfl rfl (any_of HT_.out (by kernel_rfl)) (fun _ _ _ h => h) (Or.inl ⟨by rfl, ?_⟩) ?_ ?_; rotate_left; intro w'; go_simp; with_reducible rfl; rotate_left; simp only [Act.put, sA, sZ, sS, i64_w, i32_w]; rfl
    refine pure_ (i := 6) (N := some 20) (v := ?_) (a' := ?_) #[T, T, T, T, T, T, T, F, F, F, F, F, F, F, F, F] rfl rfl (any_of HT_.out (by kernel_rfl)) (fun _ _ _ h => h) (Or.inl ⟨by rfl, ?_⟩) ?_ ?_; rotate_left; intro w'; go_simp; with_reducible rfl; rotate_left; simp only [Act.put, sA, sZ, sS, i64_w, i32_w]; rfl
    refine pure_ (i := 8) (N := some 22) (v := ?_) (a' := ?_) #[T, T, T, T, T, T, T, F, T, F, F, F, F, F, F, F] rfl rfl (any_of HT_.out (by kernel_rfl)) (fun _ _ _ h => h) (Or.inl ⟨by rfl, ?_⟩) ?_ ?_; rotate_left; intro w'; go_simp; with_reducible rfl; rotate_left; simp only [Act.put, sA, sZ, sS, i64_w, i32_w]; rfl
    refine pure_ (i := 9) (N := some 23) (v := ?_) (a' := ?_) #[T, T, T, T, T, T, T, F, T, T, F, F, F, F, F, F] rfl rfl (any_of HT_.out (by kernel_rfl)) (fun _ _ _ h => h) (Or.inl ⟨by rfl, ?_⟩) ?_ ?_; rotate_left; intro w'; go_simp; with_reducible rfl; rotate_left; simp only [Act.put, sA, sZ, sS, i64_w, i32_w]; rfl
    refine pure_ (i := 10) (N := some 24) (v := ?_) (a' := ?_) #[T, T, T, T, T, T, T, F, T, T, T, F, F, F, F, F] rfl rfl (any_of HT_.out (by kernel_rfl)) (fun _ _ _ h => h) (Or.inl ⟨by rfl, ?_⟩) ?_ ?_; rotate_left; intro w'; go_simp; with_reducible rfl; rotate_left; simp only [Act.put, sA, sZ, sS, i64_w, i32_w]; rfl
    refine take_ (i := 7) (N := some 21) (v := ?_) (a' := ?_) #[T, T, T, T, T, T, T, T, T, T, T, F, F, F, F, F] rfl rfl (take_ofW HT_.out HW_.out (by kernel_rfl)) (fun _ _ _ h => h) (Or.inl ⟨by rfl, ?_⟩) hHeld ?_ ?_; rotate_left; rintro w' ⟨s0, s1, s2, s3⟩; go_simp; with_reducible rfl; rotate_left; simp only [Act.put, sA, sZ, sS, i64_w, i32_w]; rfl
    refine take_ (i := 11) (N := some 25) (v := ?_) (a' := ?_) #[T, T, T, T, T, T, T, T, T, T, T, T, F, F, F, F] rfl rfl (take_ofW HT_.out HW_.out (by kernel_rfl)) (fun _ _ _ h => h) (Or.inl ⟨by rfl, ?_⟩) hHeld ?_ ?_; rotate_left; rintro w' ⟨s0, s1, s2, s3⟩; go_simp; with_reducible rfl; rotate_left; simp only [Act.put, sA, sZ, sS, i64_w, i32_w]; rfl
    refine pure_ (i := 12) (N := some 26) (v := ?_) (a' := ?_) #[T, T, T, T, T, T, T, T, T, T, T, T, T, F, F, F] rfl rfl (any_of HT_.out (by kernel_rfl)) (fun _ _ _ h => h) (Or.inl ⟨by rfl, ?_⟩) ?_ ?_; rotate_left; intro w'; go_simp; with_reducible rfl; rotate_left; simp only [Act.put, sA, sZ, sS, i64_w, i32_w]; rfl
    refine last_ (i := 13) (N := none) #[T, T, T, T, T, T, T, T, T, T, T, T, T, T, F, F] rfl rfl (one_of HT_.out (by kernel_rfl)) (by decide) (fun K hK => ?_)
    refine skip_ (w1 := ?_) (by rfl) rfl ?_ ?_
    rotate_left
    ·
     go_simp
     rfl
    refine hK.out _ _ ?_
    clear hK K
    refine pure_ (i := 14) (N := some 27) (v := ?_) (a' := ?_) #[T, T, T, T, T, T, T, T, T, T, T, T, T, T, T, F] rfl rfl (any_of HT_.out (by kernel_rfl)) (fun _ _ _ h => h) (Or.inl ⟨by rfl, ?_⟩) ?_ ?_; rotate_left; intro w'; go_simp; with_reducible rfl; rotate_left; simp only [Act.put, sA, sZ, sS, i64_w, i32_w]; rfl
    have hq0_ : x2_1 < x3_1 := oda; have hq1_ : 0 ≤ x2_1 := oda; have hq2_ : ¬ x3_1.toNat = x2_1.toNat := by omega
    have hq3_ : ¬ x3_1.toNat * 2 = x2_1.toNat * 2 := by omega
    have hq4_ : ¬ x3_1.toNat * 2 = x2_1.toNat * 2 + 1 := by omega
    have hq5_ : ¬ x3_1.toNat * 2 + 1 = x2_1.toNat * 2 := by omega
    have hfa_ := hf9_0; have hfb_ := hf9_1
    simp only [World.frozen?_setCells] at hfa_ hfb_
    refine last_ (i := 15) (N := none) #[T, T, T, T, T, T, T, T, T, T, T, T, T, T, T, T] rfl rfl (one_of HT_.out (by kernel_rfl)) (by decide) (fun K hK => ?_)
    refine skip_ (w1 := ?_) (by rfl) rfl ?_ ?_
    rotate_left
    ·
     go_simp
     rfl
    refine hK.out _ _ ?_
    clear hK K
    refine done_ (done_of HT_.out (by kernel_rfl)) ?_
    try go_wp2
    (try simp only [← hl0_1])
    go_roundg k1
    case measure => have := HK1.out; omega
    case rel => exact ⟨(y182), (wrap64 (x2_1 + 1)), (wrap64 (x3_1 - 1)), (by first | rfl | (simp [*]; done)), (by first | rfl | (simp [*]; done)), H', ⟨by have := HK1.out; omega⟩, ⟨by (try simp only [hl0_1]); (with_reducible repeat (first | apply Kd.R_alloc | apply Kd.R_drewN | apply Kd.R_drew)); exact HQ12.out⟩, ⟨by repeat (first | (with_reducible first | exact HK.out | apply Kept.alloc | apply Kept.drewN | apply Kept.drew | refine Kept.setCell ?_ HMgo8.out _ | refine Kept.setCell ?_ HMgo8.out _ | refine Kept.setCell ?_ HMgo8.out _ | refine Kept.setCell ?_ HMgo8.out _) | exact HK.out)⟩, ⟨by repeat (first | (with_reducible first | exact HB.out | apply below_alloc | apply pw_below_drewN | apply below_drew1 | refine below_set ?_ GB8.out | refine below_set ?_ GB8.out | refine below_set ?_ GB8.out | refine below_set ?_ GB8.out) | exact HB.out)⟩⟩
   ·
    rw [if_neg c3] at H; have c3b0 : decide (x2_1 < x3_1) = false := decide_eq_false c3; clear c3; obtain rfl := Option.some.inj H
    go_wp2
    first | go_end0 | ((try simp only [Exit.inBlock, Exit.then]); refine bodyPost_ret (results_none rfl _ _ _) rfl ?_)
    exact ⟨by first | rfl | (simp [errW_none, errW_some] <;> rfl) | (simp [*, errW_none, errW_some] <;> rfl), (by first | exact (rx HO_0.out) | (simp only [hl0_1]; exact (rx HO_0.out))), lb, lk⟩

/-! ### euler_circuit: function 23 -/
mutual
def euler_circuit.l0 : Nat → List (List (S51)) → List Bool → List Int → List (S51) → List (S51) → Int → List (S45) → Option ((List (S51)) × (List (List (S51))))
  | 0, _, _, _, _, _, _, _ => none
  | k + 1, x2, x7, x8, x9, x10, x184000, x184001 => if 0 ≤ (wrap64 ((x8.length : Int) - 1)) then (if (wrap64 ((x8.length : Int) - 1)) < (x8.length : Int) then (euler_circuit.l1 k x2 x7 x8 x9 x10 (rd x8 (wrap64 ((x8.length : Int) - 1))) x184000 x184001) else (none)) else (none)
def euler_circuit.l1 : Nat → List (List (S51)) → List Bool → List Int → List (S51) → List (S51) → Int → Int → List (S45) → Option ((List (S51)) × (List (List (S51))))
  | 0, _, _, _, _, _, _, _, _ => none
  | k + 1, x2, x7, x8, x9, x10, x11, x184000, x184001 => if 0 ≤ x11 then (if x11 < (x2.length : Int) then (if ((rd_L5 x2 x11).length : Int) > 0 then (if 0 < ((rd_L5 x2 x11).length : Int) then (if 1 ≤ ((rd_L5 x2 x11).length : Int) then ((some (x2.set (x11 : Int).toNat ((rd_L5 x2 x11).drop 1) : List (List (S51)))).bind fun y218 => (if 0 ≤ ((rd_T51 (rd_L5 x2 x11) 0).f0) then (if ((rd_T51 (rd_L5 x2 x11) 0).f0) < (x7.length : Int) then (if rdOf false x7 ((rd_T51 (rd_L5 x2 x11) 0).f0) = true then (euler_circuit.l1 k y218 x7 x8 x9 x10 x11 x184000 x184001) else ((some (x7.set (((rd_T51 (rd_L5 x2 x11) 0).f0) : Int).toNat true : List Bool)).bind fun y220 => (if ((rd_T51 (rd_L5 x2 x11) 0).f0) < (x184001.length : Int) then (if (rd_T51 (rd_L5 x2 x11) 0).f1 = true then ((some (([(rd_T45 x184001 ((rd_T51 (rd_L5 x2 x11) 0).f0)).f0] : List Int) : List Int)).bind fun y223 => (if x8.length + y223.length < 17592186044416 then ((some (([(⟨(rd_T51 (rd_L5 x2 x11) 0).f0, (rd_T51 (rd_L5 x2 x11) 0).f1⟩ : S51)] : List (S51)) : List (S51))).bind fun y229 => (if x9.length + y229.length < 8796093022208 then (euler_circuit.l0 k y218 y220 (x8 ++ y223) (x9 ++ y229) x10 x184000 x184001) else (none))) else (none))) else ((some (([(rd_T45 x184001 ((rd_T51 (rd_L5 x2 x11) 0).f0)).f1] : List Int) : List Int)).bind fun y235 => (if x8.length + y235.length < 17592186044416 then ((some (([(⟨(rd_T51 (rd_L5 x2 x11) 0).f0, (rd_T51 (rd_L5 x2 x11) 0).f1⟩ : S51)] : List (S51)) : List (S51))).bind fun y241 => (if x9.length + y241.length < 8796093022208 then (euler_circuit.l0 k y218 y220 (x8 ++ y235) (x9 ++ y241) x10 x184000 x184001) else (none))) else (none)))) else (none)))) else (none)) else (none))) else (none)) else (none)) else (if (x9.length : Int) = 0 then ((euler_Step.f k x10).bind fun t195 => (some (t195, x2))) else (if 0 ≤ (wrap64 ((x9.length : Int) - 1)) then (if (wrap64 ((x9.length : Int) - 1)) < (x9.length : Int) then ((some (([(⟨(rd_T51 x9 (wrap64 ((x9.length : Int) - 1))).f0, (rd_T51 x9 (wrap64 ((x9.length : Int) - 1))).f1⟩ : S51)] : List (S51)) : List (S51))).bind fun y197 => (if x10.length + y197.length < 8796093022208 then (if 0 ≤ (wrap64 ((x8.length : Int) - 1)) then (if (wrap64 ((x8.length : Int) - 1)) ≤ (x8.length : Int) then (if (wrap64 ((x9.length : Int) - 1)) ≤ (x9.length : Int) then (euler_circuit.l0 k x2 x7 (x8.take ((wrap64 ((x8.length : Int) - 1)) : Int).toNat) (x9.take ((wrap64 ((x9.length : Int) - 1)) : Int).toNat) (x10 ++ y197) x184000 x184001) else (none)) else (none)) else (none)) else (none))) else (none)) else (none)))) else (none)) else (none)
end
def euler_circuit.f (k : Nat) (a0_0 : Int) (l0_1 : List (S45)) (a1 : Int) (l2 : List (List (S51))) : Option ((List (S51)) × (List (List (S51)))) := if 0 ≤ (l0_1.length : Int) then (if ((l0_1.length : Int) : Int).toNat ≤ 281474976710656 then (euler_circuit.l0 k l2 (List.replicate ((l0_1.length : Int) : Int).toNat false) (([a1] : List Int)) (([] : List (S51))) ([] : List (S51)) a0_0 l0_1) else (none)) else (none)
theorem euler_circuit.mono_l : ∀ k, (∀ y0 y1 y2 y3 y4 y5 y6, LeO (euler_circuit.l0 k y0 y1 y2 y3 y4 y5 y6) (euler_circuit.l0 (k + 1) y0 y1 y2 y3 y4 y5 y6)) ∧ (∀ y0 y1 y2 y3 y4 y5 y6 y7, LeO (euler_circuit.l1 k y0 y1 y2 y3 y4 y5 y6 y7) (euler_circuit.l1 (k + 1) y0 y1 y2 y3 y4 y5 y6 y7))
  | 0 => ⟨fun _ _ _ _ _ _ _ r h => by simp [euler_circuit.l0] at h, fun _ _ _ _ _ _ _ _ r h => by simp [euler_circuit.l1] at h⟩
  | k + 1 => by
    obtain ⟨ih0, ih1⟩ := euler_circuit.mono_l k
    refine ⟨?_, ?_⟩
    · intro y0 y1 y2 y3 y4 y5 y6
      unfold euler_circuit.l0
      repeat' first
      | (with_reducible exact ih0 _ _ _ _ _ _ _)
      | (with_reducible exact ih1 _ _ _ _ _ _ _ _)
      | (with_reducible exact euler_Step.mono _ _)
      | (with_reducible exact LeO.refl _)
      | (with_reducible exact LeO.none _)
      | (with_reducible refine LeO.ite ?_ ?_)
      | (with_reducible refine LeO.bind ?_ (fun _ => ?_))
      | exact ih0 _ _ _ _ _ _ _
      | exact ih1 _ _ _ _ _ _ _ _
      | exact euler_Step.mono _ _
      | exact LeO.none _
      | refine LeO.ite ?_ ?_
      | refine LeO.bind ?_ (fun _ => ?_)
    · intro y0 y1 y2 y3 y4 y5 y6 y7
      unfold euler_circuit.l1
      repeat' first
      | (with_reducible exact ih0 _ _ _ _ _ _ _)
      | (with_reducible exact ih1 _ _ _ _ _ _ _ _)
      | (with_reducible exact euler_Step.mono _ _)
      | (with_reducible exact LeO.refl _)
      | (with_reducible exact LeO.none _)
      | (with_reducible refine LeO.ite ?_ ?_)
      | (with_reducible refine LeO.bind ?_ (fun _ => ?_))
      | exact ih0 _ _ _ _ _ _ _
      | exact ih1 _ _ _ _ _ _ _ _
      | exact euler_Step.mono _ _
      | exact LeO.none _
      | refine LeO.ite ?_ ?_
      | refine LeO.bind ?_ (fun _ => ?_)
theorem euler_circuit.mono : ∀ a0 a1 a2 a3 k, LeO (euler_circuit.f k a0 a1 a2 a3) (euler_circuit.f (k + 1) a0 a1 a2 a3) := by
  intro a0 a1 a2 a3 k; obtain ⟨ih0, ih1⟩ := euler_circuit.mono_l k
  unfold euler_circuit.f
  repeat' first
      | (with_reducible exact ih0 _ _ _ _ _ _ _)
      | (with_reducible exact ih1 _ _ _ _ _ _ _ _)
      | (with_reducible exact euler_Step.mono _ _)
      | (with_reducible exact LeO.refl _)
      | (with_reducible exact LeO.none _)
      | (with_reducible refine LeO.ite ?_ ?_)
      | (with_reducible refine LeO.bind ?_ (fun _ => ?_))
      | exact ih0 _ _ _ _ _ _ _
      | exact ih1 _ _ _ _ _ _ _ _
      | exact euler_Step.mono _ _
      | exact LeO.none _
      | refine LeO.ite ?_ ?_
      | refine LeO.bind ?_ (fun _ => ?_)
def euler_circuit.T13 : Bool × List (List Nat × List Nat) := (true, [([], []), ([], []), ([1], [1]), ([0, 2], [0, 2]), ([], []), ([], []), ([5], [5]), ([4, 6, 3], [4, 6]), ([3, 7, 0, 1, 2, 3], [0, 3]), ([7, 8, 0, 1, 2, 3, 4, 5, 6, 7, 8], [4, 7])])
def euler_circuit.B13 : List Nat := [0, 0, 2, 7, 0, 0, 32, 127, 255, 511]
theorem euler_circuit.tab13 : rtab .any (opsOf Try.f23 13) = euler_circuit.T13 := by kernel_rfl
theorem euler_circuit.bits13 : waitsOk euler_circuit.T13.2 euler_circuit.B13 = true := by kernel_rfl
def euler_circuit.T16 : Bool × List (List Nat × List Nat) := (true, [([], []), ([], []), ([1], [1]), ([2], [2]), ([0, 3], [0, 3]), ([], []), ([], []), ([6], [6]), ([7], [7]), ([5, 8], [5, 8]), ([4, 0, 1, 2, 3, 4], [0, 1, 4]), ([9, 10, 0, 1, 2, 3, 4, 5, 6, 7, 8, 9, 10], [5, 6, 9])])
def euler_circuit.B16 : List Nat := [0, 0, 2, 6, 15, 0, 0, 64, 192, 480, 31, 2047]
theorem euler_circuit.tab16 : rtab .any (opsOf Try.f23 16) = euler_circuit.T16 := by kernel_rfl
theorem euler_circuit.bits16 : waitsOk euler_circuit.T16.2 euler_circuit.B16 = true := by kernel_rfl

end Go.Proofs.Ytplbkggdnonfbaa.Q
