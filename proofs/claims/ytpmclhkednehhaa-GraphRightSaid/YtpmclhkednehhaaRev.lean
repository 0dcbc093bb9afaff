/- graph.Reverse, typed by hand. -/
import Derived.Test.YtpmclhkednehhaaClone
import Derived.RegionTactic
import Derived.ChangeAlike
set_option linter.unusedVariables false
set_option linter.unusedSimpArgs false
namespace Go.Proofs.Ytpmclhkednehhaa.Q
open Go.RowKit Go.Proofs.YtpmclhkednehhaaW.PrintWords Go.Proofs.YtpmclhkednehhaaW.PrintLast Go.Proofs.YtpmclhkednehhaaW.PrintMore
/-- An edge turned about. -/
def swp (e : S39) : S39 := ⟨e.f1, e.f0, e.f2, e.f3⟩
def graph_Reverse.f (k : Nat) (a0_0 : Int) (l0_1 : List S39) : Option (Int × List S39) := if l0_1.length < 4398046511104 then some (a0_0, l0_1.map swp) else none
theorem graph_Reverse.mono : ∀ a0 a1 k, LeO (graph_Reverse.f k a0 a1) (graph_Reverse.f (k + 1) a0 a1) := fun _ _ _ => LeO.refl _
/-- The first i edges turned about. -/
def turned (i : Nat) (E : List S39) : List S39 := (E.take i).map swp ++ E.drop i
theorem turned_zero (E : List S39) : turned 0 E = E := rfl
theorem turned_all (E : List S39) : turned E.length E = E.map swp := by simp [turned]
theorem turned_len (i : Nat) (E : List S39) (h : i ≤ E.length) : (turned i E).length = E.length := by simp [turned]; omega
theorem turned_at (i : Nat) (E : List S39) (h : i < E.length) : rd_T39 (turned i E) (i : Int) = rd_T39 E (i : Int) := by
  unfold rd_T39 turned
  rw [List.getD_eq_getElem?_getD, List.getD_eq_getElem?_getD, List.getElem?_append_right (by simp; omega)]
  simp [show i - min i E.length = 0 by omega]
theorem turned_succ (i : Nat) (E : List S39) (h : i < E.length) : (turned i E).set i (swp (rd_T39 E (i : Int))) = turned (i + 1) E := by
  unfold turned rd_T39
  rw [List.set_append_right _ _ (by simp; omega), show i - ((E.take i).map swp).length = 0 by simp; omega, List.take_succ_eq_append_getElem h, List.map_append, List.append_assoc, List.drop_eq_getElem_cons h]
  simp [List.getD_eq_getElem?_getD, List.getElem?_eq_getElem h]
  rw [List.drop_eq_getElem_cons h]; rfl
theorem bcell {W w1 : World} (hb : Below W.heap.size W w1) : (∀ b o, b < W.heap.size → w1.cell? ⟨b, o, none⟩ = W.cell? ⟨b, o, none⟩) ∧ (∀ b o, b < W.heap.size → w1.frozen? ⟨b, o, none⟩ = W.frozen? ⟨b, o, none⟩) :=
  ⟨fun b o h => hb.cell (p := ⟨b, o, none⟩) h, fun b o h => hb.frozen (p := ⟨b, o, none⟩) h⟩
structure RVS (w0 : World) (n : Int) (gr ge : Nat) (v : Value) (X : List S39) (W : World) : Prop where
  below : Below w0.heap.size w0 W
  br : W.heap[gr]? = some (.cells #[.int .i64 0, .slice none 0 0] 24 (0, 0))
  be : W.heap[ge]? = some (.cells #[.int .i64 n, v] 24 (0, 0))
  gr0 : w0.heap.size ≤ gr
  row : Kd.R k39 39 W w0.heap.size (fun _ => True) v X
section
variable {w0 : World} {n : Int} {gr ge b m cap : Nat} {X : List S39} {W : World}
theorem RVS.later {v : Value} (h : RVS w0 n gr ge v X W) {W' : World} (hb : Below W.heap.size W W') : RVS w0 n gr ge v X W' := ⟨below_step h.below hb, blk_below h.br hb, blk_below h.be hb, h.gr0, Kd.R_below h.row hb⟩
theorem RVS.cells (h : RVS w0 n gr ge (.slice (some ⟨b, 0, none⟩) m cap) X W) (i : Int) (h0 : 0 ≤ i) (h1 : i < m) :
    W.cell? ⟨b, i.toNat * 4, none⟩ = some (.int .i64 (rd_T39 X i).f0) ∧ W.cell? ⟨b, i.toNat * 4 + 1, none⟩ = some (.int .i64 (rd_T39 X i).f1) ∧ W.frozen? ⟨b, i.toNat * 4, none⟩ = false ∧ W.frozen? ⟨b, i.toNat * 4 + 1, none⟩ = false := by
  obtain ⟨c, hl, hM, hc, hf⟩ := Kd.R_elem h.row z39 i h0 h1
  obtain rfl := k39_openM hM
  exact ⟨hc 0 _ rfl, hc 1 _ rfl, hf 0, hf 1⟩
theorem RVS.swap (h : RVS w0 n gr ge (.slice (some ⟨b, 0, none⟩) m cap) X W) (i : Int) (h0 : 0 ≤ i) (h1 : i < m) (x y : Int) :
    RVS w0 n gr ge (.slice (some ⟨b, 0, none⟩) m cap) (X.set i.toNat ⟨x, y, (rd_T39 X i).f2, (rd_T39 X i).f3⟩) ((W.setCell ⟨b, i.toNat * 4, none⟩ (.int .i64 x)).setCell ⟨b, i.toNat * 4 + 1, none⟩ (.int .i64 y)) := by
  obtain ⟨c, hl, hM, hc, hf⟩ := Kd.R_elem h.row z39 i h0 h1
  obtain ⟨a, g⟩ := Kd.R_seg h.row i h0 h1 (seg := [.int .i64 x, .int .i64 y]) (j := 0) (okp := fun k => k ≠ b) (x' := (⟨x, y, (rd_T39 X i).f2, (rd_T39 X i).f3⟩ : S39)) hl hc (by show 0 + 2 ≤ 4; omega) (by obtain rfl := k39_openM hM; exact k39_mkM _ _ _ (⟨x, y, (rd_T39 X i).f2, (rd_T39 X i).f3⟩ : S39)) (fun k hk => ⟨trivial, hk⟩)
  have sb : (Value.slice (some ⟨b, 0, none⟩) m cap).ownBlock = some b := rfl
  have p0 := Kd.R_base h.row b sb
  rw [← sb] at g
  exact ⟨below_set (below_set h.below p0) p0, blk_grown h.br g (Kd.R_ne h.row h.br (by decide)), blk_grown h.be g (Kd.R_ne h.row h.be (by decide)), h.gr0, a⟩
end
set_option maxHeartbeats 8000000 in
set_option maxRecDepth 100000 in
theorem graph_Reverse.calls (k : Nat) (a0_0 : Int) (A0_1 : Option Addr) (c0_1 : Nat) (l0_1 : List S39) (r1 : Int) (r2 : List S39) (w : World) (hr0_1 : Kd.C k39 w A0_1 l0_1.length l0_1) (hc0_1 : l0_1.length ≤ c0_1) (h : graph_Reverse.f k a0_0 l0_1 = some (r1, r2)) :
    Calls Try.prog 13 #[.agg #[.int .i64 a0_0, .slice A0_1 l0_1.length c0_1]] w fun e w' => ∃ v1_ : Value, e = .returned (.agg #[.int .i64 r1, v1_]) ∧ Kd.R k39 39 w' w.heap.size (fun _ => True) v1_ r2 ∧ Below w.heap.size w w' := by
  have hu24 := Try.underlying24
  have hu41 := Try.underlying39
  have HR := ak hr0_1
  have HC := ak hc0_1
  clear hr0_1 hc0_1
  obtain ⟨hl, h⟩ := ifn h
  have hcl : slices_Clone.f k l0_1 = some l0_1 := by unfold slices_Clone.f; rw [if_pos hl]
  have CL := ak hcl
  clear hcl
  obtain ⟨rfl, rfl⟩ : a0_0 = r1 ∧ l0_1.map swp = r2 := by simpa using h
  clear h
  have HB := ak (Below.refl w.heap.size w)
  go_enter Try.func13, Try.ntmps13
  go_wp2_with (first
    | ((with_reducible refine gate_dst (N := 1) rfl ?_); refine box_event ?hg (N := 1) ?hd (cs := #[.int .i64 a0_0, .slice A0_1 l0_1.length c0_1]) (t := 24) ?hr ?_; (case hd => rfl); (case hg => rfl); (case hr => first | (go_simp; done) | (go_simp; rfl)); intro gg hg w1 bg hb; have HB1 := ak (below_step HB.out hb); have BG := ak bg; clear hb bg hg)
    | ((with_reducible refine gate_dst (N := 2) rfl ?_); refine box_event ?hg (N := 2) ?hd (cs := #[.int .i64 0, .slice none 0 0]) (t := 24) ?hr ?_; (case hd => rfl); (case hg => rfl); (case hr => first | (go_simp; done) | (go_simp; rfl)); intro gr hg w2 br hb; have HB2 := ak (below_step HB1.out hb); have BR := ak br; have GR := ak (show w.heap.size ≤ gr by rw [hg]; exact below_size HB1.out); replace BG := ak (blk_below BG.out hb); clear hb br hg))
  have BR0 := ak BR.out
  have k0 : w2.cell? ⟨gg, 0, none⟩ = some (.int .i64 a0_0) := bc0 BG
  have k1 : w2.cell? ⟨gg, 1, none⟩ = some (.slice A0_1 l0_1.length c0_1) := bc1 BG
  have k2 := World.new_ne w2 _ k0
  have k3 := World.new_ne w2 _ k1
  have gl := blk_lt BG.out
  have gn : gg ≠ w2.heap.size := Nat.ne_of_lt gl
  go_region_held3 (fun w' => w'.cell? ⟨gg, 0, none⟩ = some (.int .i64 a0_0) ∧ w'.cell? ⟨gg, 1, none⟩ = some (.slice A0_1 l0_1.length c0_1)) (first | exact ⟨bc0 (ak (bx BG.out)), bc1 (ak (bx BG.out))⟩ | exact ⟨bc0 (ak (blk_far (blk_far BG.out gn _) gn _)), bc1 (ak (blk_far (blk_far BG.out gn _) gn _))⟩ | go_keep)
    (first | (go_at_call 32; (with_reducible refine (slices_Clone.calls k _ _ l0_1 l0_1 _ (by first | exact Kd.C_below HR.out HB2.out | exact Kd.C_below HR.out lb) HC.out CL.out).mono ?_); rintro e w3 ⟨v, rfl, hv, hb⟩; obtain ⟨Av, cv, ev⟩ := Kd.R_slice hv; subst ev; replace BG := ak (blk_below (bx BG.out) hb); replace BR := ak (blk_below (bx BR.out) hb); have HB3 := ak (below_step lb hb); obtain ⟨hc_, hf_⟩ := bcell hb))
  have V := ak (show RVS w a0_0 gr w3.heap.size (.slice Av l0_1.length cv) l0_1 (w3.alloc (.cells #[.int .i64 a0_0, .slice Av l0_1.length cv] 24)) from ⟨below_alloc HB3.out _, blk_alloc BR.out _, blk_new w3 _, GR.out, Kd.R_alloc (Kd.R_lower hv (below_size lb)) _⟩)
  generalize w3.alloc (.cells #[.int .i64 a0_0, .slice Av l0_1.length cv] 24) = W0 at V ⊢
  generalize w3.heap.size = ge at V ⊢
  clear hb hc_ hf_ BG BR HB3 hv k0 k1 k2 k3 gl gn
  rotate_left
  have be0 : w3.heap[w2.heap.size]? = some (.cells #[.int .i64 0, .slice none 0 0] 24 (0, 0)) := blk_below (blk_drew (blk_new w2 _)) hb
  have GE : w.heap.size ≤ w2.heap.size := below_size HB2.out
  have V := ak (show RVS w a0_0 gr w2.heap.size (.slice Av l0_1.length cv) l0_1 ((w3.setCell ⟨w2.heap.size, 0, none⟩ (.int .i64 a0_0)).setCell ⟨w2.heap.size, 1, none⟩ (.slice Av l0_1.length cv)) from ⟨below_set (below_set HB3.out GE) GE, blk_far (blk_far BR.out (Nat.ne_of_lt (blk_lt BR0.out)) _) (Nat.ne_of_lt (blk_lt BR0.out)) _, blk_put (blk_put be0 0 _ rfl) 1 _ rfl, GR.out, Kd.R_set (Kd.R_set (Kd.R_lower hv (below_size lb)) be0 (by decide) 0 _) (blk_put be0 0 _ rfl) (by decide) 1 _⟩)
  generalize (w3.setCell ⟨w2.heap.size, 0, none⟩ (.int .i64 a0_0)).setCell ⟨w2.heap.size, 1, none⟩ (.slice Av l0_1.length cv) = W0 at V ⊢
  generalize w2.heap.size = ge at V ⊢
  clear hb hc_ hf_ BG BR HB3 hv k0 k1 k2 k3 gl gn be0 GE
  all_goals
    have k0 : W0.cell? ⟨ge, 1, none⟩ = some (.slice Av l0_1.length cv) := (blk_cell V.out.be 1).trans rfl
    have hlz : l0_1.length ≤ 4398046511104 := Nat.le_of_lt hl
    go_wp2
    clear k0
    go_loopg [15] l0_1.length (fun kq v15 w' => ∃ (i : Nat), v15 = .int .i64 (i : Int) ∧ Aside0 (kq + i = l0_1.length) ∧ Aside0 (RVS w a0_0 gr ge (.slice Av l0_1.length cv) (turned i l0_1) w'))
    case atStart => exact ⟨0, rfl, ⟨rfl⟩, V⟩
    case round =>
      clear V
      obtain ⟨i, rfl, HK, V⟩ := hrel
      by_cases c1 : i < l0_1.length
      · have c1a : decide (i < l0_1.length) = true := decide_eq_true c1
        have c1b : decide ((i : Int) < (l0_1.length : Int)) = true := decide_eq_true (by omega)
        obtain ⟨b, cp, e, -⟩ := Kd.R_form V.out.row (by rw [turned_len _ _ (Nat.le_of_lt c1)]; omega)
        injection e with e1 e2 e3
        subst e1
        clear e2 e3
        have k0 : wr.cell? ⟨ge, 1, none⟩ = some (.slice (some ⟨b, 0, none⟩) l0_1.length cv) := (blk_cell V.out.be 1).trans rfl
        obtain ⟨k1, k2, k3, k4⟩ := V.out.cells (i : Int) (by omega) (by omega)
        have VS := ak (V.out.swap (i : Int) (by omega) (by omega) (rd_T39 (turned i l0_1) (i : Int)).f1 (rd_T39 (turned i l0_1) (i : Int)).f0)
        rw [turned_at i l0_1 c1] at k1 k2 VS
        rw [Int.toNat_natCast] at k1 k2 k3 k4 VS
        have te := turned_succ i l0_1 c1
        unfold swp at te
        rw [te] at VS
        clear te
        go_wp2
        go_region
        have V2 := ak (VS.out.later (below_drew (Below.refl _ _)))
        go_wp2
        go_roundg (l0_1.length - (i + 1))
        case measure => have := HK.out; omega
        case rel => exact ⟨i + 1, by go_num, ⟨by have := HK.out; omega⟩, V2⟩
      · have c1a : decide (i < l0_1.length) = false := decide_eq_false c1
        have c1b : decide ((i : Int) < (l0_1.length : Int)) = false := decide_eq_false (by omega)
        obtain rfl : i = l0_1.length := by have := HK.out; omega
        have k0 : wr.cell? ⟨ge, 0, none⟩ = some (.int .i64 a0_0) := (blk_cell V.out.be 0).trans rfl
        have k1 : wr.cell? ⟨ge, 1, none⟩ = some (.slice Av l0_1.length cv) := (blk_cell V.out.be 1).trans rfl
        have k2 : wr.cell? ⟨gr, 0, none⟩ = some (.int .i64 0) := (blk_cell V.out.br 0).trans rfl
        have k3 : wr.cell? ⟨gr, 1, none⟩ = some (.slice none 0 0) := (blk_cell V.out.br 1).trans rfl
        have k4 := blk_frozen V.out.br 0
        have k5 := blk_frozen V.out.br 1
        go_wp2
        have br' := blk_put (blk_put V.out.br 0 (.int .i64 a0_0) rfl) 1 (.slice Av l0_1.length cv) rfl
        have k6 := (blk_cell br' 0).trans rfl
        have k7 := (blk_cell br' 1).trans rfl
        rw [turned_all] at V
        exact bodyPost_ret (v := .agg #[.int .i64 a0_0, .slice Av l0_1.length cv]) (by simp [results, Try.results13, go_sem, k6, k7]) rfl ⟨_, rfl, Kd.R_set (Kd.R_set V.out.row V.out.br (by decide) 0 _) (blk_put V.out.br 0 _ rfl) (by decide) 1 _, below_set (below_set V.out.below V.out.gr0) V.out.gr0⟩
end Go.Proofs.Ytpmclhkednehhaa.Q
