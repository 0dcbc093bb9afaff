/- The document's CutEdge: written by genZ.py. -/
import Derived.Test.YtpmclhkednehhaaQ10
import Derived.Test.YtpmclhkednehhaaQ26
import Derived.Test.YtpmclhkednehhaaNetY
set_option linter.unusedVariables false
set_option linter.unusedSimpArgs false
namespace Go.Proofs.Ytpmclhkednehhaa.Q
open Go.RowKit Go.Proofs.YtpmclhkednehhaaW.PrintWords Go.Proofs.YtpmclhkednehhaaW.PrintLast Go.Proofs.YtpmclhkednehhaaW.PrintMore
/-- The first m edges without edge j. -/
def but (E : List S39) (j m : Nat) : List S39 := (E.take m).eraseIdx j
theorem but_zero (E : List S39) (j : Nat) : but E j 0 = [] := by unfold but; rw [List.take_zero, List.eraseIdx_nil]
theorem but_all (E : List S39) (j : Nat) : but E j E.length = E.eraseIdx j := by unfold but; rw [List.take_length]
theorem take_more (E : List S39) (m : Nat) (h : m < E.length) : E.take (m + 1) = E.take m ++ [rd_T39 E (m : Int)] := by
  rw [List.take_succ_eq_append_getElem h]
  congr 2
  unfold rd_T39
  rw [Int.toNat_natCast]
  simp [List.getD, h]
theorem but_skip (E : List S39) (j : Nat) (h : j < E.length) : but E j (j + 1) = but E j j := by
  unfold but
  rw [take_more E j h, List.eraseIdx_append_of_length_le (by rw [List.length_take]; omega), List.eraseIdx_of_length_le (l := E.take j) (by rw [List.length_take]; omega), List.length_take, show j - min j E.length = 0 by omega]
  simp
theorem but_keep (E : List S39) (j m : Nat) (h : m < E.length) (n : m ≠ j) : but E j (m + 1) = but E j m ++ [rd_T39 E (m : Int)] := by
  unfold but
  rw [take_more E m h]
  by_cases a : j < m
  · rw [List.eraseIdx_append_of_lt_length (by rw [List.length_take]; omega)]
  · rw [List.eraseIdx_append_of_length_le (by rw [List.length_take]; omega), List.eraseIdx_of_length_le (l := E.take m) (by rw [List.length_take]; omega), List.length_take, List.eraseIdx_of_length_le (l := [_]) (by simp; omega)]
theorem but_len (E : List S39) (j m : Nat) : (but E j m).length ≤ E.length := by
  unfold but
  have := List.length_eraseIdx_le (E.take m) j
  rw [List.length_take] at this
  omega
set_option maxHeartbeats 4000000 in
set_option maxRecDepth 100000 in
theorem refCutEdge.out (n : Int) (A : Option Addr) (c : Nat) (E : List S39) (i : Int) (W : World) (h : ¬ (0 ≤ i ∧ i < (E.length : Int))) :
    Calls Try.prog 45 #[.agg #[.int .i64 n, .slice A E.length c], .int .i64 i] W fun e w' => e = .returned (.tuple #[.agg #[.int .i64 n, .slice A E.length c], .int .i64 32]) ∧ Below W.heap.size W w' := by
  have hu24 := Try.underlying24
  have hu39 := Try.underlying39
  have hu22 := Try.underlying22
  have HB := ak (Below.refl W.heap.size W)
  rcases (by omega : i < 0 ∨ (0 ≤ i ∧ (E.length : Int) ≤ i)) with h1 | ⟨h1, h2⟩
  · have i1 : decide (i < 0) = true := decide_eq_true h1
    go_enter Try.func45, Try.ntmps45
    go_wp2_with (first
      | ((with_reducible refine gate_dst (N := 2) rfl ?_); refine box_event ?hg (N := 2) ?hd (cs := #[.int .i64 n, .slice A E.length c]) (t := 24) ?hr ?_; (case hd => rfl); (case hg => rfl); (case hr => first | (go_simp; done) | (go_simp; rfl)); intro gg hg w1 bg hb; have HB1 := ak (below_step HB.out hb); have BG := ak bg; clear hb bg hg)
      | ((with_reducible refine gate_dst (N := 4) rfl ?_); refine box_event ?hg (N := 4) ?hd (cs := #[.int .i64 0, .slice none 0 0]) (t := 24) ?hr ?_; (case hd => rfl); (case hg => rfl); (case hr => first | (go_simp; done) | (go_simp; rfl)); intro gr hg w2 br hb; have HB2 := ak (below_step HB1.out hb); have BR := ak br; have GR := ak (show W.heap.size ≤ gr by rw [hg]; exact below_size HB1.out); have NR := ak (show gg ≠ gr by rw [hg]; exact Nat.ne_of_lt (blk_lt BG.out)); have BG2 := ak (blk_below BG.out hb); clear hb br hg; have k0 := bc0 BG2; have k1 := bc1 BG2; have k2 := bc0 BR; have k3 := bc1 BR; have k4 := bf BR 0; have k5 := bf BR 1)
      | ((with_reducible refine gate_store (t := 24) (p := 4) rfl ?_); refine store_event (t := 24) (p := 4) (v := ?vb1) (w1 := (w2.setCell ⟨gr, 0, none⟩ (.int .i64 n)).setCell ⟨gr, 1, none⟩ (.slice A E.length c)) ?hg ?ho ?hn ?hr ?_; (case ho => rfl); (case hg => rfl); (case hn => rfl); (case hr => first | (go_simp; done) | (go_simp; rfl)); intro w3 hw; have HBz := ak (show Below W.heap.size W w3 by rw [hw]; exact below_set (below_set HB2.out GR.out) GR.out); have BRz := ak (show w3.heap[gr]? = some (.cells #[.int .i64 n, .slice A E.length c] 24 (0, 0)) by rw [hw]; exact blk_put (blk_put BR.out 0 _ rfl) 1 _ rfl); have y0 := bc0 BRz; have y1 := bc1 BRz; clear hw))
    exact bodyPost_ret (v := .tuple #[.agg #[.int .i64 n, .slice A E.length c], .int .i64 32]) (by simp [results, Try.results45, go_sem, y0, y1]) rfl ⟨rfl, HBz.out⟩
  · have i1 : decide (i < 0) = false := decide_eq_false (by omega)
    have i2 : decide (i ≥ (E.length : Int)) = true := decide_eq_true h2
    have i3 : decide ((E.length : Int) ≤ i) = true := decide_eq_true h2
    go_enter Try.func45, Try.ntmps45
    go_wp2_with (first
      | ((with_reducible refine gate_dst (N := 2) rfl ?_); refine box_event ?hg (N := 2) ?hd (cs := #[.int .i64 n, .slice A E.length c]) (t := 24) ?hr ?_; (case hd => rfl); (case hg => rfl); (case hr => first | (go_simp; done) | (go_simp; rfl)); intro gg hg w1 bg hb; have HB1 := ak (below_step HB.out hb); have BG := ak bg; clear hb bg hg)
      | ((with_reducible refine gate_dst (N := 4) rfl ?_); refine box_event ?hg (N := 4) ?hd (cs := #[.int .i64 0, .slice none 0 0]) (t := 24) ?hr ?_; (case hd => rfl); (case hg => rfl); (case hr => first | (go_simp; done) | (go_simp; rfl)); intro gr hg w2 br hb; have HB2 := ak (below_step HB1.out hb); have BR := ak br; have GR := ak (show W.heap.size ≤ gr by rw [hg]; exact below_size HB1.out); have NR := ak (show gg ≠ gr by rw [hg]; exact Nat.ne_of_lt (blk_lt BG.out)); have BG2 := ak (blk_below BG.out hb); clear hb br hg; have k0 := bc0 BG2; have k1 := bc1 BG2; have k2 := bc0 BR; have k3 := bc1 BR; have k4 := bf BR 0; have k5 := bf BR 1)
      | ((with_reducible refine gate_store (t := 24) (p := 4) rfl ?_); refine store_event (t := 24) (p := 4) (v := ?vb2) (w1 := (w2.setCell ⟨gr, 0, none⟩ (.int .i64 n)).setCell ⟨gr, 1, none⟩ (.slice A E.length c)) ?hg ?ho ?hn ?hr ?_; (case ho => rfl); (case hg => rfl); (case hn => rfl); (case hr => first | (go_simp; done) | (go_simp; rfl)); intro w3 hw; have HBz := ak (show Below W.heap.size W w3 by rw [hw]; exact below_set (below_set HB2.out GR.out) GR.out); have BRz := ak (show w3.heap[gr]? = some (.cells #[.int .i64 n, .slice A E.length c] 24 (0, 0)) by rw [hw]; exact blk_put (blk_put BR.out 0 _ rfl) 1 _ rfl); have y0 := bc0 BRz; have y1 := bc1 BRz; clear hw))
    exact bodyPost_ret (v := .tuple #[.agg #[.int .i64 n, .slice A E.length c], .int .i64 32]) (by simp [results, Try.results45, go_sem, y0, y1]) rfl ⟨rfl, HBz.out⟩
def refCutEdge.T8t : Bool × List (List Nat × List Nat) := (true, [([], []), ([0], [0]), ([], []), ([2], [2]), ([], []), ([3, 4], [3, 4]), ([5], [5]), ([6], [6]), ([1, 7], [1, 7]), ([0, 1, 2, 3, 4, 5, 6, 7, 8], []), ([9, 8, 8, 0, 1, 2, 3, 4, 5, 6, 7, 8], [8, 9])])
def refCutEdge.B8 : List Nat := [0, 1, 0, 4, 0, 28, 60, 124, 255, 511, 1023]
theorem refCutEdge.T8 : rtab .any (opsOf Try.f45 8) = refCutEdge.T8t := by kernel_rfl
theorem refCutEdge.B8w : waitsOk refCutEdge.T8t.2 refCutEdge.B8 = true := by kernel_rfl
set_option maxHeartbeats 4000000 in
set_option maxRecDepth 100000 in
theorem refCutEdge.did (n : Int) (A : Option Addr) (c : Nat) (E : List S39) (j : Nat) (W : World) (hr : Kd.C k39 W A E.length E) (hc : E.length ≤ c) (h1 : j < E.length) (hl : E.length ≤ 4096) :
    Calls Try.prog 45 #[.agg #[.int .i64 n, .slice A E.length c], .int .i64 (j : Int)] W fun e w' => ∃ (A' : Option Addr) (c' : Nat), e = .returned (.tuple #[.agg #[.int .i64 n, .slice A' (E.eraseIdx j).length c'], .int .i64 0]) ∧ Below W.heap.size W w' ∧ Kd.R k39 39 w' W.heap.size (fun _ => True) (.slice A' (E.eraseIdx j).length c') (E.eraseIdx j) := by
  have hu24 := Try.underlying24
  have hu39 := Try.underlying39
  have hu22 := Try.underlying22
  have HB := ak (Below.refl W.heap.size W)
  have HR := ak hr
  have HC := ak hc
  have J1 := ak h1
  have HL := ak hl
  have i1 : decide ((j : Int) < 0) = false := decide_eq_false (by omega)
  have i2 : decide ((j : Int) ≥ (E.length : Int)) = false := decide_eq_false (by omega)
  have i3 : decide ((E.length : Int) ≤ (j : Int)) = false := decide_eq_false (by omega)
  have i4 : decide (E.length ≤ j) = false := decide_eq_false (by omega)
  clear hr hc h1 hl
  go_enter Try.func45, Try.ntmps45
  go_wp2_with (first
    | ((with_reducible refine gate_dst (N := 2) rfl ?_); refine box_event ?hg (N := 2) ?hd (cs := #[.int .i64 n, .slice A E.length c]) (t := 24) ?hr ?_; (case hd => rfl); (case hg => rfl); (case hr => first | (go_simp; done) | (go_simp; rfl)); intro gg hg w1 bg hb; have HB1 := ak (below_step HB.out hb); have BG := ak bg; clear hb bg hg)
    | ((with_reducible refine gate_dst (N := 4) rfl ?_); refine box_event ?hg (N := 4) ?hd (cs := #[.int .i64 0, .slice none 0 0]) (t := 24) ?hr ?_; (case hd => rfl); (case hg => rfl); (case hr => first | (go_simp; done) | (go_simp; rfl)); intro gr hg w2 br hb; have HB2 := ak (below_step HB1.out hb); have BR := ak br; have GR := ak (show W.heap.size ≤ gr by rw [hg]; exact below_size HB1.out); have NR := ak (show gg ≠ gr by rw [hg]; exact Nat.ne_of_lt (blk_lt BG.out)); have BG2 := ak (blk_below BG.out hb); clear hb br hg; have k0 := bc0 BG2; have k1 := bc1 BG2; have k2 := bc0 BR; have k3 := bc1 BR; have k4 := bf BR 0; have k5 := bf BR 1)
    | ((with_reducible refine gate_dst (N := 6) rfl ?_); refine box_event ?hg (N := 6) ?hd (cs := #[.int .i64 0, .slice none 0 0]) (t := 24) ?hr ?_; (case hd => rfl); (case hg => rfl); (case hr => first | (go_simp; done) | (go_simp; rfl)); intro go hg w3 bo hb; have HB3 := ak (below_step HB2.out hb); have BO := ak bo; have GO := ak (show W.heap.size ≤ go by rw [hg]; exact below_size HB2.out); have NO1 := ak (show gr ≠ go by rw [hg]; exact Nat.ne_of_lt (blk_lt BR.out)); have NO2 := ak (show gg ≠ go by rw [hg]; exact Nat.ne_of_lt (blk_lt BG2.out)); have BR3 := ak (blk_below BR.out hb); have BG3 := ak (blk_below BG2.out hb); clear hb bo hg; have u0 := bc0 BO; have u1 := bc1 BO; have u2 := bf BO 0; have u3 := bf BO 1)
    | ((with_reducible refine gate_store (t := 24) (p := 6) rfl ?_); refine store_event (t := 24) (p := 6) (v := ?vo) (w1 := (w3.setCell ⟨go, 0, none⟩ (.int .i64 n)).setCell ⟨go, 1, none⟩ (.slice none 0 0)) ?hg ?ho ?hn ?hr ?_; (case ho => rfl); (case hg => rfl); (case hn => rfl); (case hr => first | (go_simp; done) | (go_simp; rfl)); intro w4 hw; have HB4 := ak (show Below W.heap.size W w4 by rw [hw]; exact below_set (below_set HB3.out GO.out) GO.out); have BO4 := ak (show w4.heap[go]? = some (.cells #[.int .i64 n, .slice none 0 0] 24 (0, 0)) by rw [hw]; exact blk_put (blk_put BO.out 0 _ rfl) 1 _ rfl); have BR4 := ak (show w4.heap[gr]? = some (.cells #[.int .i64 0, .slice none 0 0] 24 (0, 0)) by rw [hw]; exact blk_far (blk_far BR3.out NO1.out _) NO1.out _); have BG4 := ak (show w4.heap[gg]? = some (.cells #[.int .i64 n, .slice A E.length c] 24 (0, 0)) by rw [hw]; exact blk_far (blk_far BG3.out NO2.out _) NO2.out _); clear hw))
  clear k0 k1 k2 k3 k4 k5 u0 u1 u2 u3 HB1 HB2 HB3 BG BG2 BR BR3 BG3 BO i1 i2 i3 i4
  have R0 := ak (show Kd.R k39 39 w4 W.heap.size (fun _ => True) (.slice none 0 0) (but E j 0) by rw [but_zero]; exact Kd.R_nil _ _ _ _ _)
  go_loopg [7] E.length (fun kq v7 w' => ∃ (m : Nat) (v : Value), v7 = .int .i64 (m : Int) ∧ Aside0 (kq + m = E.length) ∧ Aside0 (Kd.R k39 39 w' W.heap.size (fun _ => True) v (but E j m)) ∧ Aside0 (w'.heap[gg]? = some (.cells #[.int .i64 n, .slice A E.length c] 24 (0, 0))) ∧ Aside0 (w'.heap[gr]? = some (.cells #[.int .i64 0, .slice none 0 0] 24 (0, 0))) ∧ Aside0 (w'.heap[go]? = some (.cells #[.int .i64 n, v] 24 (0, 0))) ∧ Aside0 (Below W.heap.size W w'))
  case atStart => exact ⟨0, _, rfl, ⟨rfl⟩, R0, BG4, BR4, BO4, HB4⟩
  case round =>
    clear R0 BG4 BR4 BO4 HB4 HB
    obtain ⟨m, v, rfl, HK, R1, BG1, BR1, BO1, HB1⟩ := hrel
    obtain ⟨Ao, co, eo⟩ := Kd.R_slice R1.out
    subst eo
    have k0 := bc1 BG1
    by_cases c1 : m < E.length
    · have c1a : decide (m < E.length) = true := decide_eq_true c1
      have c1b : decide ((m : Int) < (E.length : Int)) = true := decide_eq_true (by omega)
      have hw1 : Go.RowKit.wrap64 ((m : Int) + 1) = ((m + 1 : Nat) : Int) := by have := HL.out; unfold Go.RowKit.wrap64; omega
      have M1 := ak c1
      have AL := ak (show ((but E j m).length + 1) * 32 ≤ 140737488355328 by have := HL.out; have := but_len E j m; omega)
      by_cases c2 : m = j
      · have d0 : ((m : Int) != (j : Int)) = false := by rw [bne_eq_false_iff_eq, c2]
        have d1 : ((m : Int) == (j : Int)) = true := beq_iff_eq.mpr (by rw [c2])
        have BS := ak (show but E j (m + 1) = but E j m by rw [c2]; exact but_skip E j J1.out)
        clear c2
        go_wp2
        go_roundg (E.length - (m + 1))
        case measure => have := HK.out; have := M1.out; omega
        case rel => exact ⟨m + 1, _, by first | (rw [hw1]; done) | (simp only [i64_w, hw1]; done) | (go_num; done) | (go_num; rw [hw1]; done), ⟨by have := HK.out; have := M1.out; omega⟩, ⟨by rw [BS.out]; exact R1.out⟩, BG1, BR1, BO1, HB1⟩
      · have d0 : ((m : Int) != (j : Int)) = true := bne_iff_ne.mpr (by omega)
        have d1 : ((m : Int) == (j : Int)) = false := beq_eq_false_iff_ne.mpr (by omega)
        have BK := ak (but_keep E j m c1 c2)
        have p0 : 0 ≤ (m : Int) := by omega
        have p1 : (m : Int) < (E.length : Int) := by omega
        obtain ⟨ad, ea, e1, e2, e3, e4⟩ := at_T39 HR.out (m : Int) p0 p1
        cases ea
        rw [Int.toNat_natCast] at e1 e2 e3 e4
        clear c2
        go_wp2
        refine start_ (n := 11) (S := fun w' => w'.cell? ⟨go, 1, none⟩ = some (.slice Ao (but E j m).length co) ∧ w'.cell? ⟨gg, 1, none⟩ = some (.slice (some ad) E.length c) ∧ w'.cell? (ad.add (m * 4)) = some (.int .i64 (rd_T39 E (m : Int)).f0) ∧ w'.cell? ⟨(ad.add (m * 4)).block, (ad.add (m * 4)).off + 1, none⟩ = some (.int .i64 (rd_T39 E (m : Int)).f1) ∧ w'.cell? ⟨(ad.add (m * 4)).block, (ad.add (m * 4)).off + 2, none⟩ = some (.int .i64 (rd_T39 E (m : Int)).f2) ∧ w'.cell? ⟨(ad.add (m * 4)).block, (ad.add (m * 4)).off + 3, none⟩ = some (.int .i64 (rd_T39 E (m : Int)).f3)) (ds := [10]) #[false, false, false, false, false, false, false, false, false, false, false] (by kernel_rfl) rfl rfl ⟨bc1 (ak (blk_drew BO1.out)), bc1 (ak (blk_drew BG1.out)), (Below.cell (below_drew HB1.out) (World.block_lt_of_cell? W _ e1)).trans e1, (Below.cell (below_drew HB1.out) (World.block_lt_of_cell? W _ e2)).trans e2, (Below.cell (below_drew HB1.out) (World.block_lt_of_cell? W _ e3)).trans e3, (Below.cell (below_drew HB1.out) (World.block_lt_of_cell? W _ e4)).trans e4⟩ (fun hHeld => ?_); refine with_tabW refCutEdge.T8 refCutEdge.B8w (fun HT_ HW_ => ?_)
        have BOd := ak (blk_drew BO1.out); have BGd := ak (blk_drew BG1.out); have BRd := ak (blk_drew BR1.out); have HBd := ak (below_drew HB1.out); have Rd := ak (Kd.R_drew R1.out); clear BO1 BG1 BR1 HB1 R1
        generalize wr.drew = w6 at BOd BGd BRd HBd Rd hHeld ⊢
        refine pure_ (i := 0) (N := some 31) (v := ?_) (a' := ?_) #[true, false, false, false, false, false, false, false, false, false, false] rfl rfl (any_of HT_.out (by kernel_rfl)) (fun _ _ _ h => h) (Or.inl ⟨by rfl, ?_⟩) ?_ ?_; rotate_left; intro w'; go_simp; with_reducible rfl; rotate_left; simp only [Act.put, List.setIfInBounds_toArray, List.set_cons_zero, List.set_cons_succ, i64_w, i32_w]; rfl
        refine take_ (i := 1) (N := some 32) (v := ?_) (a' := ?_) #[true, true, false, false, false, false, false, false, false, false, false] rfl rfl (take_ofW HT_.out HW_.out (by kernel_rfl)) (fun _ _ _ h => h) (Or.inl ⟨by rfl, ?_⟩) hHeld ?_ ?_; rotate_left; rintro w' ⟨s0, s1, s2, s3, s4, s5⟩; go_simp; with_reducible rfl; rotate_left; simp only [Act.put, List.setIfInBounds_toArray, List.set_cons_zero, List.set_cons_succ, i64_w, i32_w]; rfl
        refine pure_ (i := 2) (N := some 33) (v := ?_) (a' := ?_) #[true, true, true, false, false, false, false, false, false, false, false] rfl rfl (any_of HT_.out (by kernel_rfl)) (fun _ _ _ h => h) (Or.inl ⟨by rfl, ?_⟩) ?_ ?_; rotate_left; intro w'; go_simp; with_reducible rfl; rotate_left; simp only [Act.put, List.setIfInBounds_toArray, List.set_cons_zero, List.set_cons_succ, i64_w, i32_w]; rfl
        refine take_ (i := 3) (N := some 34) (v := ?_) (a' := ?_) #[true, true, true, true, false, false, false, false, false, false, false] rfl rfl (take_ofW HT_.out HW_.out (by kernel_rfl)) (fun _ _ _ h => h) (Or.inl ⟨by rfl, ?_⟩) hHeld ?_ ?_; rotate_left; rintro w' ⟨s0, s1, s2, s3, s4, s5⟩; go_simp; with_reducible rfl; rotate_left; simp only [Act.put, List.setIfInBounds_toArray, List.set_cons_zero, List.set_cons_succ, i64_w, i32_w]; rfl
        refine pure_ (i := 4) (N := some 35) (v := ?_) (a' := ?_) #[true, true, true, true, true, false, false, false, false, false, false] rfl rfl (any_of HT_.out (by kernel_rfl)) (fun _ _ _ h => h) (Or.inl ⟨by rfl, ?_⟩) ?_ ?_; rotate_left; intro w'; go_simp; with_reducible rfl; rotate_left; simp only [Act.put, List.setIfInBounds_toArray, List.set_cons_zero, List.set_cons_succ, i64_w, i32_w]; rfl
        refine pure_ (i := 5) (N := some 36) (v := ?_) (a' := ?_) #[true, true, true, true, true, true, false, false, false, false, false] rfl rfl (any_of HT_.out (by kernel_rfl)) (fun _ _ _ h => h) (Or.inl ⟨by rfl, ?_⟩) ?_ ?_; rotate_left; intro w'; go_simp; with_reducible rfl; rotate_left; simp only [Act.put, List.setIfInBounds_toArray, List.set_cons_zero, List.set_cons_succ, i64_w, i32_w]; rfl
        refine take_ (i := 6) (N := some 37) (v := ?_) (a' := ?_) #[true, true, true, true, true, true, true, false, false, false, false] rfl rfl (take_ofW HT_.out HW_.out (by kernel_rfl)) (fun _ _ _ h => h) (Or.inl ⟨by rfl, ?_⟩) hHeld ?_ ?_; rotate_left; rintro w' ⟨s0, s1, s2, s3, s4, s5⟩; go_simp; with_reducible rfl; rotate_left; simp only [Act.put, List.setIfInBounds_toArray, List.set_cons_zero, List.set_cons_succ, i64_w, i32_w]; rfl
        refine one_ (i := 7) (N := some 38) #[true, true, true, true, true, true, true, true, false, false, false] rfl rfl (one_of HT_.out (by kernel_rfl)) (by decide) (fun K hK => ?_)
        refine value_ (w1 := ?_) (v := ?_) (by rfl) rfl ?_ ?_
        rotate_left 2
        ·
         go_simp
         constructor
         ·
          rfl
         ·
          rfl
        refine hK.out _ _ ⟨bc1 (ak (blk_alloc BOd.out _)), bc1 (ak (blk_alloc BGd.out _)), (Below.cell (below_alloc HBd.out _) (World.block_lt_of_cell? W _ e1)).trans e1, (Below.cell (below_alloc HBd.out _) (World.block_lt_of_cell? W _ e2)).trans e2, (Below.cell (below_alloc HBd.out _) (World.block_lt_of_cell? W _ e3)).trans e3, (Below.cell (below_alloc HBd.out _) (World.block_lt_of_cell? W _ e4)).trans e4⟩ (fun hHeld => ?_)
        clear hK K
        refine norm_ (a' := ?_) ?_ ?_
        rotate_left
        ·
         show Act.put _ (some 38) _ = _
         simp only [Act.put, List.setIfInBounds_toArray, List.set_cons_zero, List.set_cons_succ, i64_w, i32_w]
         rfl
        refine one_ (i := 8) (N := some 39) #[true, true, true, true, true, true, true, true, true, false, false] rfl rfl (one_of HT_.out (by kernel_rfl)) (by decide) (fun K hK => ?_)
        refine Kd.R_append_step k39 (w0 := W) W.heap.size (by rfl) (.tmp 32) (.tmp 38) 22 39 (.agg #[(.int .i64 0), (.int .i64 0), (.int .i64 0), (.int .i64 0)]) 32 rfl Try.underlying22 info39 rfl (by decide) (by omega) (.slice Ao (but E j m).length co) (but E j m) (rd_T39 E (m : Int)) [.int .i64 (rd_T39 E (m : Int)).f0, .int .i64 (rd_T39 E (m : Int)).f1, .int .i64 (rd_T39 E (m : Int)).f2, .int .i64 (rd_T39 E (m : Int)).f3] (fun _ => True) (fun _ => False) rfl rfl ?aP (fun _ hk => hk.elim) ?aF ?aO ?aB ?aS ?aL ?_
        (case aP => exact k39_mkM _ _ _ _)
        (case aB => exact HBd.out)
        (case aF => exact (fun _ _ => trivial))
        (case aO => exact Rd.out)
        (case aS => exact below_size HBd.out)
        (case aL => exact AL.out)
        intro v7 w7 ho hb hg hat
        obtain ⟨A7, c7, e7⟩ := Kd.R_slice ho
        rw [List.length_append, List.length_singleton] at e7
        subst e7
        have BG7 := ak (blk_grown BGd.out hg (Kd.R_ne Rd.out BGd.out (by decide)))
        have BR7 := ak (blk_grown BRd.out hg (Kd.R_ne Rd.out BRd.out (by decide)))
        have BO7 := ak (blk_grown BOd.out hg (Kd.R_ne Rd.out BOd.out (by decide)))
        have HB7 := ak hb
        have R7 := ak ho
        clear HBd BGd BRd BOd Rd ho hb hg hat
        refine hK.out _ _ ⟨bc1 BO7, bc1 BG7, (Below.cell HB7.out (World.block_lt_of_cell? W _ e1)).trans e1, (Below.cell HB7.out (World.block_lt_of_cell? W _ e2)).trans e2, (Below.cell HB7.out (World.block_lt_of_cell? W _ e3)).trans e3, (Below.cell HB7.out (World.block_lt_of_cell? W _ e4)).trans e4⟩ (fun hHeld => ?_)
        clear hK K
        refine norm_ (a' := ?_) ?_ ?_
        rotate_left
        ·
         show Act.put _ (some 39) _ = _
         simp only [Act.put, List.setIfInBounds_toArray, List.set_cons_zero, List.set_cons_succ, i64_w, i32_w]
         rfl
        refine pure_ (i := 9) (N := some 40) (v := ?_) (a' := ?_) #[true, true, true, true, true, true, true, true, true, true, false] rfl rfl (any_of HT_.out (by kernel_rfl)) (fun _ _ _ h => h) (Or.inl ⟨by rfl, ?_⟩) ?_ ?_; rotate_left; intro w'; go_simp; with_reducible rfl; rotate_left; simp only [Act.put, List.setIfInBounds_toArray, List.set_cons_zero, List.set_cons_succ, i64_w, i32_w]; rfl
        refine last_ (i := 10) (N := none) #[true, true, true, true, true, true, true, true, true, true, true] rfl rfl (one_of HT_.out (by kernel_rfl)) (by decide) (fun K hK => ?_)
        have q2 := bf BO7 1
        have q3 := bc1 BO7
        refine skip_ (w1 := ?_) (by rfl) rfl ?_ ?_
        rotate_left
        ·
         go_simp
         rfl
        refine hK.out _ _ ?_
        clear hK K
        refine done_ (done_of HT_.out (by kernel_rfl)) ?_
        have BO8 := ak (show (w7.setCell ⟨go, 1, none⟩ (.slice A7 ((but E j m).length + 1) c7)).heap[go]? = some (.cells #[.int .i64 n, .slice A7 ((but E j m).length + 1) c7] 24 (0, 0)) from blk_put BO7.out 1 _ rfl)
        have BR8 := ak (show (w7.setCell ⟨go, 1, none⟩ (.slice A7 ((but E j m).length + 1) c7)).heap[gr]? = some (.cells #[.int .i64 0, .slice none 0 0] 24 (0, 0)) from blk_far BR7.out NO1.out _)
        have BG8 := ak (show (w7.setCell ⟨go, 1, none⟩ (.slice A7 ((but E j m).length + 1) c7)).heap[gg]? = some (.cells #[.int .i64 n, .slice (some ad) E.length c] 24 (0, 0)) from blk_far BG7.out NO2.out _)
        have HB8 := ak (show Below W.heap.size W (w7.setCell ⟨go, 1, none⟩ (.slice A7 ((but E j m).length + 1) c7)) from below_set HB7.out GO.out)
        have R8 := ak (show Kd.R k39 39 (w7.setCell ⟨go, 1, none⟩ (.slice A7 ((but E j m).length + 1) c7)) W.heap.size (fun _ => True) (.slice A7 ((but E j m).length + 1) c7) (but E j m ++ [rd_T39 E (m : Int)]) from Kd.R_set R7.out BO7.out (by decide) 1 _)
        generalize w7.setCell ⟨go, 1, none⟩ (.slice A7 ((but E j m).length + 1) c7) = w8 at BO8 BR8 BG8 HB8 R8 ⊢
        clear q2 q3 HB7 BO7 BR7 BG7 R7 HT_ HW_ hHeld
        go_wp2
        go_roundg (E.length - (m + 1))
        case measure => have := HK.out; have := M1.out; omega
        case rel => exact ⟨m + 1, _, by first | (rw [hw1]; done) | (simp only [i64_w, hw1]; done) | (go_num; done) | (go_num; rw [hw1]; done), ⟨by have := HK.out; have := M1.out; omega⟩, ⟨by rw [BK.out]; exact R8.out⟩, BG8, BR8, BO8, HB8⟩
    · have c1a : decide (m < E.length) = false := decide_eq_false c1
      have c1b : decide ((m : Int) < (E.length : Int)) = false := decide_eq_false (by omega)
      have EI := ak (show but E j m = E.eraseIdx j by rw [show m = E.length by have := HK.out; omega]; exact but_all E j)
      clear c1
      have z0 := bc0 BO1
      have z1 := bc1 BO1
      have z2 := bc0 BR1
      have z3 := bc1 BR1
      have z4 := bf BR1 0
      have z5 := bf BR1 1
      go_wp2_with (first
        | ((with_reducible refine gate_store (t := 24) (p := 4) rfl ?_); refine store_event (t := 24) (p := 4) (v := ?vf) (w1 := (wr.setCell ⟨gr, 0, none⟩ (.int .i64 n)).setCell ⟨gr, 1, none⟩ (.slice Ao (but E j m).length co)) ?hg ?ho ?hn ?hr ?_; (case ho => rfl); (case hg => rfl); (case hn => rfl); (case hr => first | (go_simp; done) | (go_simp; rfl)); intro w9 hw; have HB9 := ak (show Below W.heap.size W w9 by rw [hw]; exact below_set (below_set HB1.out GR.out) GR.out); have BR9 := ak (show w9.heap[gr]? = some (.cells #[.int .i64 n, .slice Ao (but E j m).length co] 24 (0, 0)) by rw [hw]; exact blk_put (blk_put BR1.out 0 _ rfl) 1 _ rfl); have R9 := ak (show Kd.R k39 39 w9 W.heap.size (fun _ => True) (.slice Ao (but E j m).length co) (but E j m) by rw [hw]; exact Kd.R_set (Kd.R_set R1.out BR1.out (by decide) 0 _) (blk_put BR1.out 0 _ rfl) (by decide) 1 _); clear hw; have y0 := bc0 BR9; have y1 := bc1 BR9))
      rw [← EI.out]
      exact bodyPost_ret (v := .tuple #[.agg #[.int .i64 n, .slice Ao (but E j m).length co], .int .i64 0]) (by simp [results, Try.results45, go_sem, y0, y1]) rfl ⟨_, _, rfl, HB9.out, R9.out⟩
theorem refCutEdge.calls (n : Int) (A : Option Addr) (c : Nat) (E : List S39) (i : Int) (W : World) (hr : Kd.C k39 W A E.length E) (hc : E.length ≤ c) (hl : E.length ≤ 4096) :
    Calls Try.prog 45 #[.agg #[.int .i64 n, .slice A E.length c], .int .i64 i] W fun e w' => ∃ (A' : Option Addr) (c' : Nat), e = .returned (.tuple #[.agg #[.int .i64 n, .slice A' (cutI E i).2.length c'], .int .i64 (cutI E i).1]) ∧ Below W.heap.size W w' ∧ Res W w' A c E A' c' (cutI E i).2 := by
  unfold cutI
  by_cases h : 0 ≤ i ∧ i < (E.length : Int)
  · rw [if_pos h]
    obtain ⟨j, rfl⟩ := Int.eq_ofNat_of_zero_le h.1
    rw [Int.toNat_natCast]
    refine (refCutEdge.did n A c E j W hr hc (by omega) hl).mono ?_
    rintro e w' ⟨A', c', rfl, hb, r⟩
    exact ⟨A', c', rfl, hb, .inr r⟩
  · rw [if_neg h]
    refine (refCutEdge.out n A c E i W h).mono ?_
    rintro e w' ⟨rfl, hb⟩
    exact ⟨A, c, rfl, hb, .inl ⟨rfl, rfl, rfl⟩⟩
end Go.Proofs.Ytpmclhkednehhaa.Q
