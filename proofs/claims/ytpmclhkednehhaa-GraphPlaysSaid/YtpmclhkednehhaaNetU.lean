import Derived.Test.YtpmclhkednehhaaQ0
import Derived.RegionTactic
import Derived.ChangeAlike
import Derived.StillTailTactics
import Derived.Test.YtpmclhkednehhaaQ3
import Derived.Test.YtpmclhkednehhaaQ2
/- slices.Clone of a row of edges: the same edges, a row of its own; typed by hand. -/
set_option linter.unusedVariables false
set_option linter.unusedSimpArgs false
namespace Go.Proofs.Ytpmclhkednehhaa.Q
open Go.RowKit Go.Proofs.YtpmclhkednehhaaW.PrintWords Go.Proofs.YtpmclhkednehhaaW.PrintLast Go.Proofs.YtpmclhkednehhaaW.PrintMore
def slices_Clone.f (k : Nat) (l0 : List S39) : Option (List S39) := if l0.length < 4398046511104 then some l0 else none
theorem nil_eq (n c : Nat) (w : World) : Sem.run Try.prog (binOp BinOp.eql 22 (Value.slice none n c) (Value.slice none 0 0)) w = Result.ok (Value.bool true) w := by kernel_rfl
theorem nil_ne (A : Addr) (n c : Nat) (w : World) : Sem.run Try.prog (binOp BinOp.eql 22 (Value.slice (some A) n c) (Value.slice none 0 0)) w = Result.ok (Value.bool false) w := by kernel_rfl
theorem C_none_nil {w : World} {l : List S39} (h : Kd.C k39 w none l.length l) : l = [] := by
  cases l with
  | nil => rfl
  | cons a t =>
    obtain ⟨ad, e, _⟩ := at_T39 h 0 (Int.le_refl 0) (by rw [List.length_cons]; omega)
    cases e
theorem k39_KM (w : World) (base : Nat) (ok : Nat → Prop) (x : S39) (cs : List Value) (h : k39.K w x cs) : k39.M w base ok x cs := by
  have e := k39_open h
  rw [e]; exact k39_mkM _ _ _ x
set_option maxHeartbeats 4000000 in
theorem slices_Clone.calls (k : Nat) (A0 : Option Addr) (c0 : Nat) (l0 : List S39) (r : List S39) (w : World) (hr0 : Kd.C k39 w A0 l0.length l0) (hc0 : l0.length ≤ c0) (h : slices_Clone.f k l0 = some r) :
    Calls Try.prog 32 #[.slice A0 l0.length c0] w fun e w' => ∃ v0_ : Value, e = .returned v0_ ∧ Kd.R k39 39 w' w.heap.size (fun _ => True) v0_ r ∧ Below w.heap.size w w' := by
  have hl : l0.length < 4398046511104 := by
    unfold slices_Clone.f at h
    by_cases q : l0.length < 4398046511104
    · exact q
    · rw [if_neg q] at h; cases h
  have hr : r = l0 := by unfold slices_Clone.f at h; rw [if_pos hl] at h; exact (Option.some.inj h).symm
  subst hr
  clear h
  cases A0 with
  | none =>
    obtain rfl := C_none_nil hr0
    have hq := nil_eq ([] : List S39).length c0
    have hq0 := nil_eq 0 c0
    go_enter Try.func32, Try.ntmps32
    go_wp2
    go_ret
    exact ⟨_, rfl, Kd.R_nil _ _ _ _ _, Below.refl _ _⟩
  | some A =>
    have hq := nil_ne A r.length c0
    go_enter Try.func32, Try.ntmps32
    go_wp2_with (first | ((with_reducible refine gate_dst (N := 5) rfl ?_); refine Kd.R_lit k39 _ 39 ?hg (N := 5) ?hd (xs := ([] : List S39)) (inner := []) (ok := fun _ => True) (okp := fun _ => True) ?hr ?hp (fun _ hk => hk) trivial (Below.refl _ _) (Nat.le_refl _) (by simp) ?_; (case hd => rfl); (case hg => rfl); (case hr => first | (go_simp; done) | (go_simp; rfl)); (case hp => exact (Reps.none _ _)); intro v5 w5 ho hb hg_ hnew_) | ((with_reducible refine gate_builtin (b := .append) (xs := #[.tmp 5, .tmp 6]) rfl ?_); at_builtin; refine Kd.R_append_rows k39 (Rr := k39.K w5) (w0 := w) w.heap.size rfl (.tmp 5) (.tmp 6) 22 39 (.agg #[(.int .i64 0), (.int .i64 0), (.int .i64 0), (.int .i64 0)]) 32 rfl Try.underlying22 info39 rfl (by decide) (by omega) v5 [] r _ _ _ (fun _ => True) (fun _ => False) rfl rfl ?aO ?aR (fun x cs h => k39_KM _ _ _ x cs h) (fun _ h => h.elim) ?aF ?aB ?aS ?aL ?_; (case aR => exact Kd.C_below hr0 hb); (case aB => exact hb); (case aF => exact (fun _ _ => trivial)); (case aO => exact ho); (case aS => exact below_size hb); (case aL => simp; omega); intro v7 w7 ho7 hb7 hg7 hat7))
    go_ret
    exact ⟨_, rfl, ho7, hb7⟩
end Go.Proofs.Ytpmclhkednehhaa.Q
/- graph.Reverse, typed by hand. -/
set_option linter.unusedVariables false
set_option linter.unusedSimpArgs false
namespace Go.Proofs.Ytpmclhkednehhaa.Q
open Go.RowKit Go.Proofs.YtpmclhkednehhaaW.PrintWords Go.Proofs.YtpmclhkednehhaaW.PrintLast Go.Proofs.YtpmclhkednehhaaW.PrintMore
/-- An edge turned about. -/
def swp (e : S39) : S39 := ⟨e.f1, e.f0, e.f2, e.f3⟩
def graph_Reverse.f (k : Nat) (a0_0 : Int) (l0_1 : List S39) : Option (Int × List S39) := if l0_1.length < 4398046511104 then some (a0_0, l0_1.map swp) else none
theorem graph_Reverse.mono : ∀ a0 a1 k, LeO (graph_Reverse.f k a0 a1) (graph_Reverse.f (k + 1) a0 a1) := fun _ _ _ => LeO.refl _
/-- The first i edges turned about. -/
def turned (i : Nat) (E : List S39) : List S39 := (E.take i).map swp ++ E.drop i
theorem turned_zero (E : List S39) : turned 0 E = E := rfl
theorem turned_all (E : List S39) : turned E.length E = E.map swp := by simp [turned]
theorem turned_len (i : Nat) (E : List S39) (h : i ≤ E.length) : (turned i E).length = E.length := by simp [turned]; omega
theorem turned_at (i : Nat) (E : List S39) (h : i < E.length) : rd_T39 (turned i E) (i : Int) = rd_T39 E (i : Int) := by
  unfold rd_T39 turned
  rw [List.getD_eq_getElem?_getD, List.getD_eq_getElem?_getD, List.getElem?_append_right (by simp; omega)]
  simp [show i - min i E.length = 0 by omega]
theorem turned_succ (i : Nat) (E : List S39) (h : i < E.length) : (turned i E).set i (swp (rd_T39 E (i : Int))) = turned (i + 1) E := by
  unfold turned rd_T39
  rw [List.set_append_right _ _ (by simp; omega), show i - ((E.take i).map swp).length = 0 by simp; omega, List.take_succ_eq_append_getElem h, List.map_append, List.append_assoc, List.drop_eq_getElem_cons h]
  simp [List.getD_eq_getElem?_getD, List.getElem?_eq_getElem h]
  rw [List.drop_eq_getElem_cons h]; rfl
theorem bcell {W w1 : World} (hb : Below W.heap.size W w1) : (∀ b o, b < W.heap.size → w1.cell? ⟨b, o, none⟩ = W.cell? ⟨b, o, none⟩) ∧ (∀ b o, b < W.heap.size → w1.frozen? ⟨b, o, none⟩ = W.frozen? ⟨b, o, none⟩) :=
  ⟨fun b o h => hb.cell (p := ⟨b, o, none⟩) h, fun b o h => hb.frozen (p := ⟨b, o, none⟩) h⟩
structure RVS (w0 : World) (n : Int) (gr ge : Nat) (v : Value) (X : List S39) (W : World) : Prop where
  below : Below w0.heap.size w0 W
  br : W.heap[gr]? = some (.cells #[.int .i64 0, .slice none 0 0] 24 (0, 0))
  be : W.heap[ge]? = some (.cells #[.int .i64 n, v] 24 (0, 0))
  gr0 : w0.heap.size ≤ gr
  row : Kd.R k39 39 W w0.heap.size (fun _ => True) v X
section
variable {w0 : World} {n : Int} {gr ge b m cap : Nat} {X : List S39} {W : World}
theorem RVS.later {v : Value} (h : RVS w0 n gr ge v X W) {W' : World} (hb : Below W.heap.size W W') : RVS w0 n gr ge v X W' := ⟨below_step h.below hb, blk_below h.br hb, blk_below h.be hb, h.gr0, Kd.R_below h.row hb⟩
theorem RVS.cells (h : RVS w0 n gr ge (.slice (some ⟨b, 0, none⟩) m cap) X W) (i : Int) (h0 : 0 ≤ i) (h1 : i < m) :
    W.cell? ⟨b, i.toNat * 4, none⟩ = some (.int .i64 (rd_T39 X i).f0) ∧ W.cell? ⟨b, i.toNat * 4 + 1, none⟩ = some (.int .i64 (rd_T39 X i).f1) ∧ W.frozen? ⟨b, i.toNat * 4, none⟩ = false ∧ W.frozen? ⟨b, i.toNat * 4 + 1, none⟩ = false := by
  obtain ⟨c, hl, hM, hc, hf⟩ := Kd.R_elem h.row z39 i h0 h1
  obtain rfl := k39_openM hM
  exact ⟨hc 0 _ rfl, hc 1 _ rfl, hf 0, hf 1⟩
theorem RVS.swap (h : RVS w0 n gr ge (.slice (some ⟨b, 0, none⟩) m cap) X W) (i : Int) (h0 : 0 ≤ i) (h1 : i < m) (x y : Int) :
    RVS w0 n gr ge (.slice (some ⟨b, 0, none⟩) m cap) (X.set i.toNat ⟨x, y, (rd_T39 X i).f2, (rd_T39 X i).f3⟩) ((W.setCell ⟨b, i.toNat * 4, none⟩ (.int .i64 x)).setCell ⟨b, i.toNat * 4 + 1, none⟩ (.int .i64 y)) := by
  obtain ⟨c, hl, hM, hc, hf⟩ := Kd.R_elem h.row z39 i h0 h1
  obtain ⟨a, g⟩ := Kd.R_seg h.row i h0 h1 (seg := [.int .i64 x, .int .i64 y]) (j := 0) (okp := fun k => k ≠ b) (x' := (⟨x, y, (rd_T39 X i).f2, (rd_T39 X i).f3⟩ : S39)) hl hc (by show 0 + 2 ≤ 4; omega) (by obtain rfl := k39_openM hM; exact k39_mkM _ _ _ (⟨x, y, (rd_T39 X i).f2, (rd_T39 X i).f3⟩ : S39)) (fun k hk => ⟨trivial, hk⟩)
  have sb : (Value.slice (some ⟨b, 0, none⟩) m cap).ownBlock = some b := rfl
  have p0 := Kd.R_base h.row b sb
  rw [← sb] at g
  exact ⟨below_set (below_set h.below p0) p0, blk_grown h.br g (Kd.R_ne h.row h.br (by decide)), blk_grown h.be g (Kd.R_ne h.row h.be (by decide)), h.gr0, a⟩
end
set_option maxHeartbeats 8000000 in
set_option maxRecDepth 100000 in
theorem graph_Reverse.calls (k : Nat) (a0_0 : Int) (A0_1 : Option Addr) (c0_1 : Nat) (l0_1 : List S39) (r1 : Int) (r2 : List S39) (w : World) (hr0_1 : Kd.C k39 w A0_1 l0_1.length l0_1) (hc0_1 : l0_1.length ≤ c0_1) (h : graph_Reverse.f k a0_0 l0_1 = some (r1, r2)) :
    Calls Try.prog 13 #[.agg #[.int .i64 a0_0, .slice A0_1 l0_1.length c0_1]] w fun e w' => ∃ v1_ : Value, e = .returned (.agg #[.int .i64 r1, v1_]) ∧ Kd.R k39 39 w' w.heap.size (fun _ => True) v1_ r2 ∧ Below w.heap.size w w' := by
  have hu24 := Try.underlying24
  have hu41 := Try.underlying39
  have HR := ak hr0_1
  have HC := ak hc0_1
  clear hr0_1 hc0_1
  obtain ⟨hl, h⟩ := ifn h
  have hcl : slices_Clone.f k l0_1 = some l0_1 := by unfold slices_Clone.f; rw [if_pos hl]
  have CL := ak hcl
  clear hcl
  obtain ⟨rfl, rfl⟩ : a0_0 = r1 ∧ l0_1.map swp = r2 := by simpa using h
  clear h
  have HB := ak (Below.refl w.heap.size w)
  go_enter Try.func13, Try.ntmps13
  go_wp2_with (first
    | ((with_reducible refine gate_dst (N := 1) rfl ?_); refine box_event ?hg (N := 1) ?hd (cs := #[.int .i64 a0_0, .slice A0_1 l0_1.length c0_1]) (t := 24) ?hr ?_; (case hd => rfl); (case hg => rfl); (case hr => first | (go_simp; done) | (go_simp; rfl)); intro gg hg w1 bg hb; have HB1 := ak (below_step HB.out hb); have BG := ak bg; clear hb bg hg)
    | ((with_reducible refine gate_dst (N := 2) rfl ?_); refine box_event ?hg (N := 2) ?hd (cs := #[.int .i64 0, .slice none 0 0]) (t := 24) ?hr ?_; (case hd => rfl); (case hg => rfl); (case hr => first | (go_simp; done) | (go_simp; rfl)); intro gr hg w2 br hb; have HB2 := ak (below_step HB1.out hb); have BR := ak br; have GR := ak (show w.heap.size ≤ gr by rw [hg]; exact below_size HB1.out); replace BG := ak (blk_below BG.out hb); clear hb br hg))
  have BR0 := ak BR.out
  have k0 : w2.cell? ⟨gg, 0, none⟩ = some (.int .i64 a0_0) := bc0 BG
  have k1 : w2.cell? ⟨gg, 1, none⟩ = some (.slice A0_1 l0_1.length c0_1) := bc1 BG
  have k2 := World.new_ne w2 _ k0
  have k3 := World.new_ne w2 _ k1
  have gl := blk_lt BG.out
  have gn : gg ≠ w2.heap.size := Nat.ne_of_lt gl
  go_region_held3 (fun w' => w'.cell? ⟨gg, 0, none⟩ = some (.int .i64 a0_0) ∧ w'.cell? ⟨gg, 1, none⟩ = some (.slice A0_1 l0_1.length c0_1)) (first | exact ⟨bc0 (ak (bx BG.out)), bc1 (ak (bx BG.out))⟩ | exact ⟨bc0 (ak (blk_far (blk_far BG.out gn _) gn _)), bc1 (ak (blk_far (blk_far BG.out gn _) gn _))⟩ | go_keep)
    (first | (go_at_call 32; (with_reducible refine (slices_Clone.calls k _ _ l0_1 l0_1 _ (by first | exact Kd.C_below HR.out HB2.out | exact Kd.C_below HR.out lb) HC.out CL.out).mono ?_); rintro e w3 ⟨v, rfl, hv, hb⟩; obtain ⟨Av, cv, ev⟩ := Kd.R_slice hv; subst ev; replace BG := ak (blk_below (bx BG.out) hb); replace BR := ak (blk_below (bx BR.out) hb); have HB3 := ak (below_step lb hb); obtain ⟨hc_, hf_⟩ := bcell hb))
  have V := ak (show RVS w a0_0 gr w3.heap.size (.slice Av l0_1.length cv) l0_1 (w3.alloc (.cells #[.int .i64 a0_0, .slice Av l0_1.length cv] 24)) from ⟨below_alloc HB3.out _, blk_alloc BR.out _, blk_new w3 _, GR.out, Kd.R_alloc (Kd.R_lower hv (below_size lb)) _⟩)
  generalize w3.alloc (.cells #[.int .i64 a0_0, .slice Av l0_1.length cv] 24) = W0 at V ⊢
  generalize w3.heap.size = ge at V ⊢
  clear hb hc_ hf_ BG BR HB3 hv k0 k1 k2 k3 gl gn
  rotate_left
  have be0 : w3.heap[w2.heap.size]? = some (.cells #[.int .i64 0, .slice none 0 0] 24 (0, 0)) := blk_below (blk_drew (blk_new w2 _)) hb
  have GE : w.heap.size ≤ w2.heap.size := below_size HB2.out
  have V := ak (show RVS w a0_0 gr w2.heap.size (.slice Av l0_1.length cv) l0_1 ((w3.setCell ⟨w2.heap.size, 0, none⟩ (.int .i64 a0_0)).setCell ⟨w2.heap.size, 1, none⟩ (.slice Av l0_1.length cv)) from ⟨below_set (below_set HB3.out GE) GE, blk_far (blk_far BR.out (Nat.ne_of_lt (blk_lt BR0.out)) _) (Nat.ne_of_lt (blk_lt BR0.out)) _, blk_put (blk_put be0 0 _ rfl) 1 _ rfl, GR.out, Kd.R_set (Kd.R_set (Kd.R_lower hv (below_size lb)) be0 (by decide) 0 _) (blk_put be0 0 _ rfl) (by decide) 1 _⟩)
  generalize (w3.setCell ⟨w2.heap.size, 0, none⟩ (.int .i64 a0_0)).setCell ⟨w2.heap.size, 1, none⟩ (.slice Av l0_1.length cv) = W0 at V ⊢
  generalize w2.heap.size = ge at V ⊢
  clear hb hc_ hf_ BG BR HB3 hv k0 k1 k2 k3 gl gn be0 GE
  all_goals
    have k0 : W0.cell? ⟨ge, 1, none⟩ = some (.slice Av l0_1.length cv) := (blk_cell V.out.be 1).trans rfl
    have hlz : l0_1.length ≤ 4398046511104 := Nat.le_of_lt hl
    go_wp2
    clear k0
    go_loopg [15] l0_1.length (fun kq v15 w' => ∃ (i : Nat), v15 = .int .i64 (i : Int) ∧ Aside0 (kq + i = l0_1.length) ∧ Aside0 (RVS w a0_0 gr ge (.slice Av l0_1.length cv) (turned i l0_1) w'))
    case atStart => exact ⟨0, rfl, ⟨rfl⟩, V⟩
    case round =>
      clear V
      obtain ⟨i, rfl, HK, V⟩ := hrel
      by_cases c1 : i < l0_1.length
      · have c1a : decide (i < l0_1.length) = true := decide_eq_true c1
        have c1b : decide ((i : Int) < (l0_1.length : Int)) = true := decide_eq_true (by omega)
        obtain ⟨b, cp, e, -⟩ := Kd.R_form V.out.row (by rw [turned_len _ _ (Nat.le_of_lt c1)]; omega)
        injection e with e1 e2 e3
        subst e1
        clear e2 e3
        have k0 : wr.cell? ⟨ge, 1, none⟩ = some (.slice (some ⟨b, 0, none⟩) l0_1.length cv) := (blk_cell V.out.be 1).trans rfl
        obtain ⟨k1, k2, k3, k4⟩ := V.out.cells (i : Int) (by omega) (by omega)
        have VS := ak (V.out.swap (i : Int) (by omega) (by omega) (rd_T39 (turned i l0_1) (i : Int)).f1 (rd_T39 (turned i l0_1) (i : Int)).f0)
        rw [turned_at i l0_1 c1] at k1 k2 VS
        rw [Int.toNat_natCast] at k1 k2 k3 k4 VS
        have te := turned_succ i l0_1 c1
        unfold swp at te
        rw [te] at VS
        clear te
        go_wp2
        go_region
        have V2 := ak (VS.out.later (below_drew (Below.refl _ _)))
        go_wp2
        go_roundg (l0_1.length - (i + 1))
        case measure => have := HK.out; omega
        case rel => exact ⟨i + 1, by go_num, ⟨by have := HK.out; omega⟩, V2⟩
      · have c1a : decide (i < l0_1.length) = false := decide_eq_false c1
        have c1b : decide ((i : Int) < (l0_1.length : Int)) = false := decide_eq_false (by omega)
        obtain rfl : i = l0_1.length := by have := HK.out; omega
        have k0 : wr.cell? ⟨ge, 0, none⟩ = some (.int .i64 a0_0) := (blk_cell V.out.be 0).trans rfl
        have k1 : wr.cell? ⟨ge, 1, none⟩ = some (.slice Av l0_1.length cv) := (blk_cell V.out.be 1).trans rfl
        have k2 : wr.cell? ⟨gr, 0, none⟩ = some (.int .i64 0) := (blk_cell V.out.br 0).trans rfl
        have k3 : wr.cell? ⟨gr, 1, none⟩ = some (.slice none 0 0) := (blk_cell V.out.br 1).trans rfl
        have k4 := blk_frozen V.out.br 0
        have k5 := blk_frozen V.out.br 1
        go_wp2
        have br' := blk_put (blk_put V.out.br 0 (.int .i64 a0_0) rfl) 1 (.slice Av l0_1.length cv) rfl
        have k6 := (blk_cell br' 0).trans rfl
        have k7 := (blk_cell br' 1).trans rfl
        rw [turned_all] at V
        exact bodyPost_ret (v := .agg #[.int .i64 a0_0, .slice Av l0_1.length cv]) (by simp [results, Try.results13, go_sem, k6, k7]) rfl ⟨_, rfl, Kd.R_set (Kd.R_set V.out.row V.out.br (by decide) 0 _) (blk_put V.out.br 0 _ rfl) (by decide) 1 _, below_set (below_set V.out.below V.out.gr0) V.out.gr0⟩
end Go.Proofs.Ytpmclhkednehhaa.Q
/- A net: its small questions, typed by hand. -/
set_option linter.unusedVariables false
set_option linter.unusedSimpArgs false
namespace Go.Proofs.Ytpmclhkednehhaa.Q
open Go.RowKit Go.Proofs.YtpmclhkednehhaaW.PrintWords Go.Proofs.YtpmclhkednehhaaW.PrintLast Go.Proofs.YtpmclhkednehhaaW.PrintMore
/-- A net: its box, and the row of its edges. -/
structure NS (w0 : World) (p : Nat) (n : Int) (v : Value) (E : List S39) (W : World) : Prop where
  below : Below w0.heap.size w0 W
  bp : W.heap[p]? = some (.cells #[.int .i64 n, v] 44 (0, 0))
  p0 : w0.heap.size ≤ p
  row : Kd.R k39 39 W w0.heap.size (fun _ => True) v E
section
variable {w0 : World} {p : Nat} {n : Int} {v : Value} {E : List S39} {W : World}
theorem NS.later (h : NS w0 p n v E W) {W' : World} (hb : Below W.heap.size W W') : NS w0 p n v E W' := ⟨below_step h.below hb, blk_below h.bp hb, h.p0, Kd.R_below h.row hb⟩
theorem NS.c0 (h : NS w0 p n v E W) : W.cell? ⟨p, 0, none⟩ = some (.int .i64 n) := (blk_cell h.bp 0).trans rfl
theorem NS.c1 (h : NS w0 p n v E W) : W.cell? ⟨p, 1, none⟩ = some v := (blk_cell h.bp 1).trans rfl
theorem NS.f1 (h : NS w0 p n v E W) : W.frozen? ⟨p, 1, none⟩ = false := blk_frozen h.bp 1
end
theorem shape_node.calls (p : Nat) (n x : Int) (W : World) (k0 : W.cell? ⟨p, 0, none⟩ = some (.int .i64 n)) :
    Calls Try.prog 33 #[.pointer (some ⟨p, 0, none⟩), .int .i64 x] W fun e w' => e = .returned (.bool (decide (0 ≤ x) && decide (x < n))) ∧ w' = W := by
  have hu42 := Try.underlying42
  by_cases c : 0 ≤ x
  · have c1 : decide (0 ≤ x) = true := decide_eq_true c
    rw [c1, Bool.true_and]
    go_enter Try.func33, Try.ntmps33
    go_wp2
    go_ret
    exact ⟨rfl, rfl⟩
  · have c1 : decide (0 ≤ x) = false := decide_eq_false c
    rw [c1, Bool.false_and]
    go_enter Try.func33, Try.ntmps33
    go_wp2
    go_ret
    exact ⟨rfl, rfl⟩
theorem shape_edge.calls (p : Nat) (A : Option Addr) (m cap : Nat) (x : Int) (W : World) (k0 : W.cell? ⟨p, 1, none⟩ = some (.slice A m cap)) :
    Calls Try.prog 38 #[.pointer (some ⟨p, 0, none⟩), .int .i64 x] W fun e w' => e = .returned (.bool (decide (0 ≤ x) && decide (x < (m : Int)))) ∧ w' = W := by
  have hu42 := Try.underlying42
  by_cases c : 0 ≤ x
  · have c1 : decide (0 ≤ x) = true := decide_eq_true c
    rw [c1, Bool.true_and]
    go_enter Try.func38, Try.ntmps38
    go_wp2
    go_ret
    exact ⟨rfl, rfl⟩
  · have c1 : decide (0 ≤ x) = false := decide_eq_false c
    rw [c1, Bool.false_and]
    go_enter Try.func38, Try.ntmps38
    go_wp2
    go_ret
    exact ⟨rfl, rfl⟩
theorem shape_Nodes.calls (p : Nat) (n : Int) (W : World) (k0 : W.cell? ⟨p, 0, none⟩ = some (.int .i64 n)) :
    Calls Try.prog 20 #[.pointer (some ⟨p, 0, none⟩)] W fun e w' => e = .returned (.int .i64 n) ∧ w' = W := by
  have hu42 := Try.underlying42
  go_enter Try.func20, Try.ntmps20
  go_wp2
  go_ret
  exact ⟨rfl, rfl⟩
theorem shape_Edges.calls (p : Nat) (A : Option Addr) (m cap : Nat) (W : World) (k0 : W.cell? ⟨p, 1, none⟩ = some (.slice A m cap)) :
    Calls Try.prog 21 #[.pointer (some ⟨p, 0, none⟩)] W fun e w' => e = .returned (.int .i64 (m : Int)) ∧ w' = W := by
  have hu42 := Try.underlying42
  go_enter Try.func21, Try.ntmps21
  go_wp2
  go_ret
  exact ⟨rfl, rfl⟩
end Go.Proofs.Ytpmclhkednehhaa.Q
/- A net out of a graph: typed by hand. -/
set_option linter.unusedVariables false
set_option linter.unusedSimpArgs false
namespace Go.Proofs.Ytpmclhkednehhaa.Q
open Go.RowKit Go.Proofs.YtpmclhkednehhaaW.PrintWords Go.Proofs.YtpmclhkednehhaaW.PrintLast Go.Proofs.YtpmclhkednehhaaW.PrintMore
set_option maxHeartbeats 8000000 in
set_option maxRecDepth 100000 in
theorem graph_From.bad (k : Nat) (n : Int) (A : Option Addr) (cE : Nat) (E : List S39) (w : World) (hr : Kd.C k39 w A E.length E) (hc : E.length ≤ cE) (c a : Int) (A20 : graph_Check.f k n E = some (c, a)) (c3 : ¬ c = 0) :
    Calls Try.prog 11 #[.agg #[.int .i64 n, .slice A E.length cE]] w fun e w' => e = .returned (.tuple #[.pointer none, .agg #[.int .i64 c, .int .i64 a]]) ∧ Below w.heap.size w w' := by
  have hu24 := Try.underlying24
  have hu28 := Try.underlying28
  have HR := ak hr
  have HC := ak hc
  clear hr hc
  have HB := ak (Below.refl w.heap.size w)
  have A2 := ak A20
  clear A20
  have c3b0 : (c == 0) = false := beq_eq_false_iff_ne.mpr c3
  have c3b1 : (c != 0) = true := bne_iff_ne.mpr c3
  clear c3
  go_enter Try.func11, Try.ntmps11
  go_wp2_with (first
    | ((with_reducible refine gate_dst (N := 1) rfl ?_); refine box_event ?hg (N := 1) ?hd (cs := #[.int .i64 n, .slice A E.length cE]) (t := 24) ?hr ?_; (case hd => rfl); (case hg => rfl); (case hr => first | (go_simp; done) | (go_simp; rfl)); intro gg hg w1 bg hb; have HB1 := ak (below_step HB.out hb); have BG := ak bg; clear hb bg hg)
    | ((with_reducible refine gate_dst (N := 3) rfl ?_); refine box_event ?hg (N := 3) ?hd (cs := #[.int .i64 0, .int .i64 0]) (t := 28) ?hr ?_; (case hd => rfl); (case hg => rfl); (case hr => first | (go_simp; done) | (go_simp; rfl)); intro gr hg w2 br hb; have HB2 := ak (below_step HB1.out hb); have BR := ak br; have GR := ak (show w.heap.size ≤ gr by rw [hg]; exact below_size HB1.out); replace BG := ak (blk_below BG.out hb); clear hb br hg; have k0 := bc0 BG; have k1 := bc1 BG)
    | (go_at_call 9; (with_reducible refine (graph_Check.calls k n _ _ E c a _ (Kd.C_below HR.out HB2.out) HC.out A2.out).mono ?_); rintro e w3 ⟨rfl, hb⟩; have HB3 := ak (below_step HB2.out hb); replace BG := ak (blk_below BG.out hb); replace BR := ak (blk_below BR.out hb); clear hb)
    | ((with_reducible refine gate_dst (N := 4) rfl ?_); refine box_event ?hg (N := 4) ?hd (cs := #[.int .i64 0, .int .i64 0]) (t := 28) ?hr ?_; (case hd => rfl); (case hg => rfl); (case hr => first | (go_simp; done) | (go_simp; rfl)); intro gf hg w4 bf_ hb; have HB4 := ak (below_step HB3.out hb); have BF := ak bf_; have GF := ak (show w.heap.size ≤ gf by rw [hg]; exact below_size HB3.out); have NF := ak (show gr ≠ gf by rw [hg]; exact Nat.ne_of_lt (blk_lt BR.out)); replace BG := ak (blk_below BG.out hb); replace BR := ak (blk_below BR.out hb); clear hb bf_ hg; have k2 := bf BF 0; have k3 := bf BF 1; have k4 := bc0 BF; have k5 := bc1 BF)
    | ((with_reducible refine gate_store (t := 28) (p := 4) rfl ?_); refine store_event (t := 28) (p := 4) (v := ?vo5b) (w1 := (w4.setCell ⟨gf, 0, none⟩ (.int .i64 c)).setCell ⟨gf, 1, none⟩ (.int .i64 a)) ?hg ?ho ?hn ?hr ?_; (case ho => rfl); (case hg => rfl); (case hn => rfl); (case hr => first | (go_simp; done) | (go_simp; rfl)); intro w5 hw; have HB5 := ak (show Below w.heap.size w w5 by rw [hw]; exact below_set (below_set HB4.out GF.out) GF.out); replace BF := ak (show w5.heap[gf]? = some (.cells #[.int .i64 c, .int .i64 a] 28 (0, 0)) by rw [hw]; exact blk_put (blk_put BF.out 0 _ rfl) 1 _ rfl); have k6 := bc0 BF; have k7 := bc1 BF; replace BR := ak (show w5.heap[gr]? = some (.cells #[.int .i64 0, .int .i64 0] 28 (0, 0)) by rw [hw]; exact blk_far (blk_far BR.out NF.out _) NF.out _); have k8 := bc0 BR; have k9 := bc1 BR; have k10 := bf BR 0; have k11 := bf BR 1; clear hw))
  have nb1 : gf ≠ gr := fun h => NF.out h.symm
  have nb2 : gr ≠ gf := NF.out
  go_region
  go_wp2
  have b1 := blk_drew (blk_put (blk_put BR.out 0 (.int .i64 c) rfl) 1 (.int .i64 a) rfl)
  have k12 := (blk_cell b1 0).trans rfl
  have k13 := (blk_cell b1 1).trans rfl
  exact bodyPost_ret (v := .tuple #[.pointer none, .agg #[.int .i64 c, .int .i64 a]]) (by simp [results, Try.results11, go_sem, k12, k13]) rfl ⟨rfl, below_drew (below_set (below_set HB5.out GR.out) GR.out)⟩
set_option maxHeartbeats 8000000 in
set_option maxRecDepth 100000 in
theorem graph_From.good (k : Nat) (n : Int) (A : Option Addr) (cE : Nat) (E : List S39) (w : World) (hr : Kd.C k39 w A E.length E) (hc : E.length ≤ cE) (a : Int) (A20 : graph_Check.f k n E = some (0, a)) (hl : E.length < 4398046511104) :
    Calls Try.prog 11 #[.agg #[.int .i64 n, .slice A E.length cE]] w fun e w' => ∃ (p : Nat) (v : Value), e = .returned (.tuple #[.pointer (some ⟨p, 0, none⟩), .agg #[.int .i64 0, .int .i64 0]]) ∧ NS w p n v E w' := by
  have hu24 := Try.underlying24
  have hu28 := Try.underlying28
  have HR := ak hr
  have HC := ak hc
  clear hr hc
  have HB := ak (Below.refl w.heap.size w)
  have A2 := ak A20
  clear A20
  have hcl : slices_Clone.f k E = some E := by unfold slices_Clone.f; rw [if_pos hl]
  have CL := ak hcl
  clear hcl hl
  go_enter Try.func11, Try.ntmps11
  go_wp2_with (first
    | ((with_reducible refine gate_dst (N := 1) rfl ?_); refine box_event ?hg (N := 1) ?hd (cs := #[.int .i64 n, .slice A E.length cE]) (t := 24) ?hr ?_; (case hd => rfl); (case hg => rfl); (case hr => first | (go_simp; done) | (go_simp; rfl)); intro gg hg w1 bg hb; have HB1 := ak (below_step HB.out hb); have BG := ak bg; clear hb bg hg)
    | ((with_reducible refine gate_dst (N := 3) rfl ?_); refine box_event ?hg (N := 3) ?hd (cs := #[.int .i64 0, .int .i64 0]) (t := 28) ?hr ?_; (case hd => rfl); (case hg => rfl); (case hr => first | (go_simp; done) | (go_simp; rfl)); intro gr hg w2 br hb; have HB2 := ak (below_step HB1.out hb); have BR := ak br; have GR := ak (show w.heap.size ≤ gr by rw [hg]; exact below_size HB1.out); have NR := ak (show gg ≠ gr by rw [hg]; exact Nat.ne_of_lt (blk_lt BG.out)); replace BG := ak (blk_below BG.out hb); clear hb br hg; have k0 := bc0 BG; have k1 := bc1 BG)
    | (go_at_call 9; (with_reducible refine (graph_Check.calls k n _ _ E 0 a _ (Kd.C_below HR.out HB2.out) HC.out A2.out).mono ?_); rintro e w3 ⟨rfl, hb⟩; have HB3 := ak (below_step HB2.out hb); replace BG := ak (blk_below BG.out hb); replace BR := ak (blk_below BR.out hb); clear hb)
    | ((with_reducible refine gate_dst (N := 4) rfl ?_); refine box_event ?hg (N := 4) ?hd (cs := #[.int .i64 0, .int .i64 0]) (t := 28) ?hr ?_; (case hd => rfl); (case hg => rfl); (case hr => first | (go_simp; done) | (go_simp; rfl)); intro gf hg w4 bf_ hb; have HB4 := ak (below_step HB3.out hb); have BF := ak bf_; have GF := ak (show w.heap.size ≤ gf by rw [hg]; exact below_size HB3.out); have NF := ak (show gr ≠ gf by rw [hg]; exact Nat.ne_of_lt (blk_lt BR.out)); have NG := ak (show gg ≠ gf by rw [hg]; exact Nat.ne_of_lt (blk_lt BG.out)); replace BG := ak (blk_below BG.out hb); replace BR := ak (blk_below BR.out hb); clear hb bf_ hg; have k2 := bf BF 0; have k3 := bf BF 1; have k4 := bc0 BF; have k5 := bc1 BF)
    | ((with_reducible refine gate_store (t := 28) (p := 4) rfl ?_); refine store_event (t := 28) (p := 4) (v := ?vo5b) (w1 := (w4.setCell ⟨gf, 0, none⟩ (.int .i64 0)).setCell ⟨gf, 1, none⟩ (.int .i64 a)) ?hg ?ho ?hn ?hr ?_; (case ho => rfl); (case hg => rfl); (case hn => rfl); (case hr => first | (go_simp; done) | (go_simp; rfl)); intro w5 hw; have HB5 := ak (show Below w.heap.size w w5 by rw [hw]; exact below_set (below_set HB4.out GF.out) GF.out); replace BF := ak (show w5.heap[gf]? = some (.cells #[.int .i64 0, .int .i64 a] 28 (0, 0)) by rw [hw]; exact blk_put (blk_put BF.out 0 _ rfl) 1 _ rfl); have k6 := bc0 BF; have k7 := bc1 BF; replace BR := ak (show w5.heap[gr]? = some (.cells #[.int .i64 0, .int .i64 0] 28 (0, 0)) by rw [hw]; exact blk_far (blk_far BR.out NF.out _) NF.out _); have k8 := bc0 BR; have k9 := bc1 BR; have k10 := bf BR 0; have k11 := bf BR 1; have BG5 := ak (show w5.heap[gg]? = some (.cells #[.int .i64 n, .slice A E.length cE] 24 (0, 0)) by rw [hw]; exact blk_far (blk_far BG.out NG.out _) NG.out _); have k12 := bc0 BG5; have k13 := bc1 BG5; clear hw))
  have nb1 : gf ≠ gr := fun h => NF.out h.symm
  have nb2 : gr ≠ gf := NF.out
  have k14 := bf BR 0
  go_wp2
  go_region_held3 (fun w' => w'.cell? ⟨gg, 0, none⟩ = some (.int .i64 n) ∧ w'.cell? ⟨gg, 1, none⟩ = some (.slice A E.length cE) ∧ w'.cell? ⟨gr, 0, none⟩ = some (.int .i64 0) ∧ w'.cell? ⟨gr, 1, none⟩ = some (.int .i64 0) ∧ w'.frozen? ⟨gr, 0, none⟩ = false ∧ w'.frozen? ⟨gr, 1, none⟩ = false) (first | exact ⟨bc0 (ak (bx BG5.out)), bc1 (ak (bx BG5.out)), bc0 (ak (bx BR.out)), bc1 (ak (bx BR.out)), bf (ak (bx BR.out)) 0, bf (ak (bx BR.out)) 1⟩ | exact ⟨bc0 (ak (blk_far (blk_far (bx BG5.out) NR.out _) NR.out _)), bc1 (ak (blk_far (blk_far (bx BG5.out) NR.out _) NR.out _)), bc0 (ak (blk_put (blk_put (bx BR.out) 0 _ rfl) 1 _ rfl)), bc1 (ak (blk_put (blk_put (bx BR.out) 0 _ rfl) 1 _ rfl)), bf (ak (blk_put (blk_put (bx BR.out) 0 _ rfl) 1 _ rfl)) 0, bf (ak (blk_put (blk_put (bx BR.out) 0 _ rfl) 1 _ rfl)) 1⟩ | go_keep)
    (first | (go_at_call 32; (with_reducible refine (slices_Clone.calls k _ _ E E _ (by first | exact Kd.C_below HR.out HB5.out | exact Kd.C_below HR.out lb) HC.out CL.out).mono ?_); rintro e w6 ⟨v, rfl, hv, hb⟩; obtain ⟨Av, cv, ev⟩ := Kd.R_slice hv; subst ev; replace BG5 := ak (blk_below (bx BG5.out) hb); replace BR := ak (blk_below (bx BR.out) hb); have HB6 := ak (below_step lb hb); obtain ⟨hc_, hf_⟩ := bcell hb))
  have ne : w6.heap.size ≠ gr := Nat.ne_of_gt (blk_lt BR.out)
  have br1 := blk_put (blk_put (blk_alloc BR.out (.cells #[.int .i64 n, .slice Av E.length cv] 44)) 0 (.int .i64 0) rfl) 1 (.int .i64 0) rfl
  have NV := ak (show NS w w6.heap.size n (.slice Av E.length cv) E (((w6.alloc (.cells #[.int .i64 n, .slice Av E.length cv] 44)).setCell ⟨gr, 0, none⟩ (.int .i64 0)).setCell ⟨gr, 1, none⟩ (.int .i64 0)) from ⟨below_set (below_set (below_alloc HB6.out _) GR.out) GR.out, blk_far (blk_far (blk_new w6 _) ne _) ne _, below_size HB6.out, Kd.R_set (Kd.R_set (Kd.R_alloc (Kd.R_lower hv (below_size lb)) _) (blk_alloc BR.out _) (by decide) 0 _) (blk_put (blk_alloc BR.out _) 0 _ rfl) (by decide) 1 _⟩)
  have k20 := (blk_cell br1 0).trans rfl
  have k21 := (blk_cell br1 1).trans rfl
  go_wp2
  exact bodyPost_ret (v := .tuple #[.pointer (some ⟨w6.heap.size, 0, none⟩), .agg #[.int .i64 0, .int .i64 0]]) (by simp [results, Try.results11, go_sem, k20, k21]) rfl ⟨_, _, rfl, NV.out⟩
end Go.Proofs.Ytpmclhkednehhaa.Q
/- An edge that fits is taken: typed by hand. -/
set_option linter.unusedVariables false
set_option linter.unusedSimpArgs false
namespace Go.Proofs.Ytpmclhkednehhaa.Q
open Go.RowKit Go.Proofs.YtpmclhkednehhaaW.PrintWords Go.Proofs.YtpmclhkednehhaaW.PrintLast Go.Proofs.YtpmclhkednehhaaW.PrintMore
theorem shape_node.yes (p : Nat) (n x : Int) (W : World) (k0 : W.cell? ⟨p, 0, none⟩ = some (.int .i64 n)) (x0 : 0 ≤ x) (x1 : x < n) :
    Calls Try.prog 33 #[.pointer (some ⟨p, 0, none⟩), .int .i64 x] W fun e w' => e = .returned (.bool true) ∧ Drawn0 W w' := by
  refine (shape_node.calls p n x W k0).mono ?_
  rintro e w' ⟨rfl, rfl⟩
  exact ⟨by rw [decide_eq_true x0, decide_eq_true x1]; rfl, Drawn0.refl _⟩
set_option maxHeartbeats 8000000 in
set_option maxRecDepth 100000 in
theorem Net_fits.yes (p : Nat) (n : Int) (e0 : S39) (W : World) (v : Value) (h : W.heap[p]? = some (.cells #[.int .i64 n, v] 44 (0, 0))) (a0 : 0 ≤ e0.f0) (a1 : e0.f0 < n) (b0 : 0 ≤ e0.f1) (b1 : e0.f1 < n) (hl : graph_label.f e0.f0 e0.f1 e0.f2 e0.f3 = some true) :
    Calls Try.prog 37 #[.pointer (some ⟨p, 0, none⟩), .agg #[.int .i64 e0.f0, .int .i64 e0.f1, .int .i64 e0.f2, .int .i64 e0.f3]] W fun e w' => e = .returned (.int .i64 0) ∧ Below W.heap.size W w' := by
  have hu44 := Try.underlying44
  have hu42 := Try.underlying42
  have hu39 := Try.underlying39
  have HP := ak h
  have HL := ak hl
  clear h hl
  have HB := ak (Below.refl W.heap.size W)
  go_enter Try.func37, Try.ntmps37
  go_wp2_with (first
    | ((with_reducible refine gate_dst (N := 3) rfl ?_); refine box_event ?hg (N := 3) ?hd (cs := #[.int .i64 e0.f0, .int .i64 e0.f1, .int .i64 e0.f2, .int .i64 e0.f3]) (t := 39) ?hr ?_; (case hd => rfl); (case hg => rfl); (case hr => first | (go_simp; done) | (go_simp; rfl)); intro ge hg w1 be hb; have HB1 := ak (below_step HB.out hb); have BE := ak be; have HP1 := ak (blk_below HP.out hb); clear hb be hg))
  have k0 := bc0 HP1
  have k1 := bc0 BE
  have k2 := bc1 BE
  have k3 := bc2 BE
  have k4 := bc3 BE
  go_quiet (first
    | (go_at_call 33; (with_reducible refine (shape_node.yes p n e0.f0 _ (bc0 (ak (bx HP1.out))) a0 a1).mono ?_); rintro e w' ⟨rfl, ⟨nd, rfl⟩⟩; (try first | exact ⟨rfl, _, World.drewN_drewN _ _ _⟩ | exact ⟨rfl, _, Eq.trans (World.drewN_drewN _ _ _) (congrArg (World.drewN _) (Nat.add_assoc _ _ _))⟩))
    | (go_at_call 33; (with_reducible refine (shape_node.yes p n e0.f1 _ (bc0 (ak (bx HP1.out))) b0 b1).mono ?_); rintro e w' ⟨rfl, ⟨nd, rfl⟩⟩; (try first | exact ⟨rfl, _, World.drewN_drewN _ _ _⟩ | exact ⟨rfl, _, Eq.trans (World.drewN_drewN _ _ _) (congrArg (World.drewN _) (Nat.add_assoc _ _ _))⟩)))
  go_wp2_with (first
    | (go_at_call 30; (with_reducible refine (graph_label.calls e0.f0 e0.f1 e0.f2 e0.f3 true _ HL.out).mono ?_); rintro e w5 ⟨rfl, hb⟩; have HB5 := ak (below_step lb hb); clear hb))
  go_ret
  exact ⟨rfl, HB5.out⟩
def Net_AddEdge.T6t : Bool × List (List Nat × List Nat) := (true, [([], []), ([], []), ([1], [1]), ([2], [2]), ([3], [3]), ([4], [4]), ([], []), ([6], [6]), ([5, 7], [5, 7]), ([0, 0, 1, 2, 3, 4, 5, 6, 7, 8], [0]), ([9, 0, 1, 2, 3, 4, 5, 6, 7, 8], [9]), ([10, 0, 1, 2, 3, 4, 5, 6, 7, 8], [10]), ([11, 8, 8, 0, 1, 2, 3, 4, 5, 6, 7, 8], [8, 11])])
def Net_AddEdge.B6 : List Nat := [0, 0, 2, 6, 14, 30, 0, 64, 254, 511, 1023, 2047, 4095]
theorem Net_AddEdge.T6 : rtab .any (opsOf Try.f23 6) = Net_AddEdge.T6t := by kernel_rfl
theorem Net_AddEdge.B6w : waitsOk Net_AddEdge.T6t.2 Net_AddEdge.B6 = true := by kernel_rfl
set_option maxHeartbeats 8000000 in
set_option maxRecDepth 100000 in
theorem Net_AddEdge.yes (w0 : World) (p : Nat) (n : Int) (A : Option Addr) (cap : Nat) (E : List S39) (e0 : S39) (W : World) (h : NS w0 p n (.slice A E.length cap) E W) (lt : E.length < 4096) (a0 : 0 ≤ e0.f0) (a1 : e0.f0 < n) (b0 : 0 ≤ e0.f1) (b1 : e0.f1 < n) (hl : graph_label.f e0.f0 e0.f1 e0.f2 e0.f3 = some true) :
    Calls Try.prog 23 #[.pointer (some ⟨p, 0, none⟩), .agg #[.int .i64 e0.f0, .int .i64 e0.f1, .int .i64 e0.f2, .int .i64 e0.f3]] W fun e w' => e = .returned (.tuple #[.int .i64 (E.length : Int), .int .i64 0]) ∧ ∃ (A' : Option Addr) (cap' : Nat), NS w0 p n (.slice A' (E.length + 1) cap') (E ++ [e0]) w' := by
  have hu44 := Try.underlying44
  have hu42 := Try.underlying42
  have hu39 := Try.underlying39
  have hu22 := Try.underlying22
  have N0 := ak h
  have HL := ak hl
  clear h hl
  have d1 : ((E.length : Int) == 4096) = false := beq_eq_false_iff_ne.mpr (by omega)
  have d2 : decide ((E.length : Int) = 4096) = false := decide_eq_false (by omega)
  have d3 : ¬ (E.length : Int) = 4096 := by omega
  go_enter Try.func23, Try.ntmps23
  go_wp2_with (first
    | ((with_reducible refine gate_dst (N := 3) rfl ?_); refine box_event ?hg (N := 3) ?hd (cs := #[.int .i64 e0.f0, .int .i64 e0.f1, .int .i64 e0.f2, .int .i64 e0.f3]) (t := 39) ?hr ?_; (case hd => rfl); (case hg => rfl); (case hr => first | (go_simp; done) | (go_simp; rfl)); intro ge hg w1 be hb; have N1 := ak (N0.out.later hb); have BE := ak be; have NE := ak (show some ge ≠ (Value.slice A E.length cap).ownBlock from fun he => by have := Kd.R_lt N0.out.row ge he.symm; omega); clear hb be hg; have k0 := N1.out.c1; have k1 := bc0 BE; have k2 := bc1 BE; have k3 := bc2 BE; have k4 := bc3 BE)
    | (go_at_call 37; (with_reducible refine (Net_fits.yes p n e0 _ _ N1.out.bp a0 a1 b0 b1 HL.out).mono ?_); rintro e w2 ⟨rfl, hb⟩; have N2 := ak (N1.out.later hb); have BE2 := ak (blk_below BE.out hb); clear hb))
  clear k0 k1 k2 k3 k4
  have N3 := ak (N2.out.later (below_drew (Below.refl _ _)))
  have BE3 := ak (blk_drew BE2.out)
  clear N0 N1 N2 BE BE2
  refine start_ (n := 13) (S := fun w' => w'.cell? ⟨p, 1, none⟩ = some (.slice A E.length cap) ∧ w'.cell? ⟨ge, 0, none⟩ = some (.int .i64 e0.f0) ∧ w'.cell? ⟨ge, 1, none⟩ = some (.int .i64 e0.f1) ∧ w'.cell? ⟨ge, 2, none⟩ = some (.int .i64 e0.f2) ∧ w'.cell? ⟨ge, 3, none⟩ = some (.int .i64 e0.f3)) (ds := [12]) #[false, false, false, false, false, false, false, false, false, false, false, false, false] (by kernel_rfl) rfl rfl ⟨N3.out.c1, bc0 BE3, bc1 BE3, bc2 BE3, bc3 BE3⟩ (fun hHeld => ?_); refine with_tabW Net_AddEdge.T6 Net_AddEdge.B6w (fun HT_ HW_ => ?_)
  generalize w2.drew = w3 at N3 BE3 hHeld ⊢
  refine pure_ (i := 0) (N := some 20) (v := ?_) (a' := ?_) #[true, false, false, false, false, false, false, false, false, false, false, false, false] rfl rfl (any_of HT_.out (by kernel_rfl)) (fun _ _ _ h => h) (Or.inl ⟨by rfl, ?_⟩) ?_ ?_; rotate_left; intro w'; go_simp; with_reducible rfl; rotate_left; simp only [Act.put, List.setIfInBounds_toArray, List.set_cons_zero, List.set_cons_succ, i64_w, i32_w]; rfl
  refine pure_ (i := 1) (N := some 21) (v := ?_) (a' := ?_) #[true, true, false, false, false, false, false, false, false, false, false, false, false] rfl rfl (any_of HT_.out (by kernel_rfl)) (fun _ _ _ h => h) (Or.inl ⟨by rfl, ?_⟩) ?_ ?_; rotate_left; intro w'; go_simp; with_reducible rfl; rotate_left; simp only [Act.put, List.setIfInBounds_toArray, List.set_cons_zero, List.set_cons_succ, i64_w, i32_w]; rfl
  refine pure_ (i := 2) (N := some 22) (v := ?_) (a' := ?_) #[true, true, true, false, false, false, false, false, false, false, false, false, false] rfl rfl (any_of HT_.out (by kernel_rfl)) (fun _ _ _ h => h) (Or.inl ⟨by rfl, ?_⟩) ?_ ?_; rotate_left; intro w'; go_simp; with_reducible rfl; rotate_left; simp only [Act.put, List.setIfInBounds_toArray, List.set_cons_zero, List.set_cons_succ, i64_w, i32_w]; rfl
  refine pure_ (i := 3) (N := some 23) (v := ?_) (a' := ?_) #[true, true, true, true, false, false, false, false, false, false, false, false, false] rfl rfl (any_of HT_.out (by kernel_rfl)) (fun _ _ _ h => h) (Or.inl ⟨by rfl, ?_⟩) ?_ ?_; rotate_left; intro w'; go_simp; with_reducible rfl; rotate_left; simp only [Act.put, List.setIfInBounds_toArray, List.set_cons_zero, List.set_cons_succ, i64_w, i32_w]; rfl
  refine pure_ (i := 4) (N := some 24) (v := ?_) (a' := ?_) #[true, true, true, true, true, false, false, false, false, false, false, false, false] rfl rfl (any_of HT_.out (by kernel_rfl)) (fun _ _ _ h => h) (Or.inl ⟨by rfl, ?_⟩) ?_ ?_; rotate_left; intro w'; go_simp; with_reducible rfl; rotate_left; simp only [Act.put, List.setIfInBounds_toArray, List.set_cons_zero, List.set_cons_succ, i64_w, i32_w]; rfl
  refine take_ (i := 5) (N := some 25) (v := ?_) (a' := ?_) #[true, true, true, true, true, true, false, false, false, false, false, false, false] rfl rfl (take_ofW HT_.out HW_.out (by kernel_rfl)) (fun _ _ _ h => h) (Or.inl ⟨by rfl, ?_⟩) hHeld ?_ ?_; rotate_left; rintro w' ⟨s0, s1, s2, s3, s4⟩; go_simp; with_reducible rfl; rotate_left; simp only [Act.put, List.setIfInBounds_toArray, List.set_cons_zero, List.set_cons_succ, i64_w, i32_w]; rfl
  refine take_ (i := 6) (N := some 26) (v := ?_) (a' := ?_) #[true, true, true, true, true, true, true, false, false, false, false, false, false] rfl rfl (take_ofW HT_.out HW_.out (by kernel_rfl)) (fun _ _ _ h => h) (Or.inl ⟨by rfl, ?_⟩) hHeld ?_ ?_; rotate_left; rintro w' ⟨s0, s1, s2, s3, s4⟩; go_simp; with_reducible rfl; rotate_left; simp only [Act.put, List.setIfInBounds_toArray, List.set_cons_zero, List.set_cons_succ, i64_w, i32_w]; rfl
  refine one_ (i := 7) (N := some 27) #[true, true, true, true, true, true, true, true, false, false, false, false, false] rfl rfl (one_of HT_.out (by kernel_rfl)) (by decide) (fun K hK => ?_)
  refine value_ (w1 := ?_) (v := ?_) (by rfl) rfl ?_ ?_
  rotate_left 2
  ·
   go_simp
   constructor
   ·
    rfl
   ·
    rfl
  refine hK.out _ _ ⟨(N3.out.later (below_alloc (Below.refl _ _) _)).c1, bc0 (ak (blk_alloc BE3.out _)), bc1 (ak (blk_alloc BE3.out _)), bc2 (ak (blk_alloc BE3.out _)), bc3 (ak (blk_alloc BE3.out _))⟩ (fun hHeld => ?_)
  clear hK K
  refine norm_ (a' := ?_) ?_ ?_
  rotate_left
  ·
   show Act.put _ (some 27) _ = _
   simp only [Act.put, List.setIfInBounds_toArray, List.set_cons_zero, List.set_cons_succ, i64_w, i32_w]
   rfl
  refine one_ (i := 8) (N := some 28) #[true, true, true, true, true, true, true, true, true, false, false, false, false] rfl rfl (one_of HT_.out (by kernel_rfl)) (by decide) (fun K hK => ?_)
  refine Kd.R_append_step k39 (w0 := w0) w0.heap.size (by rfl) (.tmp 25) (.tmp 27) 22 39 (.agg #[(.int .i64 0), (.int .i64 0), (.int .i64 0), (.int .i64 0)]) 32 rfl Try.underlying22 info39 rfl (by decide) (by omega) (.slice A E.length cap) E e0 [.int .i64 e0.f0, .int .i64 e0.f1, .int .i64 e0.f2, .int .i64 e0.f3] (fun _ => True) (fun _ => False) rfl rfl ?aP (fun _ hk => hk.elim) ?aF ?aO ?aB ?aS ?aL ?_
  (case aP => exact k39_mkM _ _ _ e0)
  (case aB => exact N3.out.below)
  (case aF => exact (fun _ _ => trivial))
  (case aO => exact N3.out.row)
  (case aS => exact below_size N3.out.below)
  (case aL => omega)
  intro v7 w7 ho hb hg hat
  obtain ⟨A7, c7, e7⟩ := Kd.R_slice ho
  rw [List.length_append] at e7
  subst e7
  have BE7 := ak (blk_grown BE3.out hg NE.out)
  have BP7 := ak (blk_grown N3.out.bp hg (Kd.R_ne N3.out.row N3.out.bp (by decide)))
  have HB7 := ak hb
  have R7 := ak (show Kd.R k39 39 w7 w0.heap.size (fun _ => True) (.slice A7 (E.length + 1) c7) (E ++ [e0]) from ho)
  have P0 := ak N3.out.p0
  clear N3 BE3 ho hb hg hat
  refine hK.out _ _ ⟨bc1 BP7, bc0 BE7, bc1 BE7, bc2 BE7, bc3 BE7⟩ (fun hHeld => ?_)
  clear hK K
  refine norm_ (a' := ?_) ?_ ?_
  rotate_left
  ·
   show Act.put _ (some 28) _ = _
   simp only [Act.put, List.setIfInBounds_toArray, List.set_cons_zero, List.set_cons_succ, i64_w, i32_w]
   rfl
  refine pure_ (i := 9) (N := some 29) (v := ?_) (a' := ?_) #[true, true, true, true, true, true, true, true, true, true, false, false, false] rfl rfl (any_of HT_.out (by kernel_rfl)) (fun _ _ _ h => h) (Or.inl ⟨by rfl, ?_⟩) ?_ ?_; rotate_left; intro w'; go_simp; with_reducible rfl; rotate_left; simp only [Act.put, List.setIfInBounds_toArray, List.set_cons_zero, List.set_cons_succ, i64_w, i32_w]; rfl
  refine pure_ (i := 10) (N := some 30) (v := ?_) (a' := ?_) #[true, true, true, true, true, true, true, true, true, true, true, false, false] rfl rfl (any_of HT_.out (by kernel_rfl)) (fun _ _ _ h => h) (Or.inl ⟨by rfl, ?_⟩) ?_ ?_; rotate_left; intro w'; go_simp; with_reducible rfl; rotate_left; simp only [Act.put, List.setIfInBounds_toArray, List.set_cons_zero, List.set_cons_succ, i64_w, i32_w]; rfl
  refine pure_ (i := 11) (N := some 31) (v := ?_) (a' := ?_) #[true, true, true, true, true, true, true, true, true, true, true, true, false] rfl rfl (any_of HT_.out (by kernel_rfl)) (fun _ _ _ h => h) (Or.inl ⟨by rfl, ?_⟩) ?_ ?_; rotate_left; intro w'; go_simp; with_reducible rfl; rotate_left; simp only [Act.put, List.setIfInBounds_toArray, List.set_cons_zero, List.set_cons_succ, i64_w, i32_w]; rfl
  refine last_ (i := 12) (N := none) #[true, true, true, true, true, true, true, true, true, true, true, true, true] rfl rfl (one_of HT_.out (by kernel_rfl)) (by decide) (fun K hK => ?_)
  have k2 := bf BP7 1
  have k3 := bc1 BP7
  refine skip_ (w1 := ?_) (by rfl) rfl ?_ ?_
  rotate_left
  ·
   go_simp
   rfl
  refine hK.out _ _ ?_
  clear hK K
  refine done_ (done_of HT_.out (by kernel_rfl)) ?_
  have N8 := ak (show NS w0 p n (.slice A7 (E.length + 1) c7) (E ++ [e0]) (w7.setCell ⟨p, 1, none⟩ (.slice A7 (E.length + 1) c7)) from ⟨below_set HB7.out P0.out, blk_put BP7.out 1 _ rfl, P0.out, Kd.R_set R7.out BP7.out (by decide) 1 _⟩)
  generalize w7.setCell ⟨p, 1, none⟩ (.slice A7 (E.length + 1) c7) = w8 at N8 ⊢
  clear k2 k3 HB7 BP7 R7 BE7 HT_ HW_ hHeld
  have k5 := N8.out.c1
  have s1 : Go.RowKit.wrap64 (((E.length + 1 : Nat) : Int) - 1) = (E.length : Int) := by unfold Go.RowKit.wrap64; omega
  have s2 : Go.RowKit.wrap64 ((E.length : Int) + 1 - 1) = (E.length : Int) := by unfold Go.RowKit.wrap64; omega
  have s3 : IntKind.i64.wrap ((E.length : Int) + 1 - 1) = (E.length : Int) := by rw [i64_w]; exact s2
  go_wp2
  first | simp only [s1] | simp only [s2] | simp only [s3] | skip
  exact bodyPost_ret (v := .tuple #[.int .i64 (E.length : Int), .int .i64 0]) (by simp [results, Try.results23, go_sem, s1, s2, s3]) rfl ⟨rfl, _, _, N8.out⟩
end Go.Proofs.Ytpmclhkednehhaa.Q
/- An edge that is there is told; and the law's waking: typed by hand. -/
set_option linter.unusedVariables false
set_option linter.unusedSimpArgs false
namespace Go.Proofs.Ytpmclhkednehhaa.Q
open Go.RowKit Go.Proofs.YtpmclhkednehhaaW.PrintWords Go.Proofs.YtpmclhkednehhaaW.PrintLast Go.Proofs.YtpmclhkednehhaaW.PrintMore
theorem NS.edge {w0 : World} {p : Nat} {n : Int} {b m cap : Nat} {E : List S39} {W : World} (h : NS w0 p n (.slice (some ⟨b, 0, none⟩) m cap) E W) (i : Nat) (hi : i < m) :
    W.cell? ⟨b, i * 4, none⟩ = some (.int .i64 (rd_T39 E (i : Int)).f0) ∧ W.cell? ⟨b, i * 4 + 1, none⟩ = some (.int .i64 (rd_T39 E (i : Int)).f1) ∧ W.cell? ⟨b, i * 4 + 2, none⟩ = some (.int .i64 (rd_T39 E (i : Int)).f2) ∧ W.cell? ⟨b, i * 4 + 3, none⟩ = some (.int .i64 (rd_T39 E (i : Int)).f3) := by
  obtain ⟨c, hl, hM, hc, hf⟩ := Kd.R_elem h.row z39 (i : Int) (by omega) (by omega)
  obtain rfl := k39_openM hM
  rw [Int.toNat_natCast] at hc
  exact ⟨hc 0 _ rfl, hc 1 _ rfl, hc 2 _ rfl, hc 3 _ rfl⟩
set_option maxHeartbeats 8000000 in
set_option maxRecDepth 100000 in
theorem Net_Edge.yes (w0 : World) (p : Nat) (n : Int) (A : Option Addr) (cap : Nat) (E : List S39) (W : World) (h : NS w0 p n (.slice A E.length cap) E W) (i : Nat) (hi : i < E.length) :
    Calls Try.prog 29 #[.pointer (some ⟨p, 0, none⟩), .int .i64 (i : Int)] W fun e w' => e = .returned (.tuple #[.agg #[.int .i64 (rd_T39 E (i : Int)).f0, .int .i64 (rd_T39 E (i : Int)).f1, .int .i64 (rd_T39 E (i : Int)).f2, .int .i64 (rd_T39 E (i : Int)).f3], .int .i64 0]) ∧ Below W.heap.size W w' := by
  have hu44 := Try.underlying44
  have hu42 := Try.underlying42
  have hu39 := Try.underlying39
  have hu22 := Try.underlying22
  obtain ⟨b, cp, ea, -⟩ := Kd.R_form h.row (by omega)
  injection ea with e1 e2 e3
  subst e1
  clear e2 e3
  have N0 := ak h
  clear h
  have HB := ak (Below.refl W.heap.size W)
  have c1 : (0 : Int) ≤ (i : Int) := Int.natCast_nonneg _
  have c2 : (i : Int) < (E.length : Int) := by omega
  have c3 : decide ((0 : Int) ≤ (i : Int)) = true := decide_eq_true c1
  have c4 : decide ((i : Int) < (E.length : Int)) = true := decide_eq_true c2
  go_enter Try.func29, Try.ntmps29
  go_wp2_with (first
    | ((with_reducible refine gate_dst (N := 4) rfl ?_); refine box_event ?hg (N := 4) ?hd (cs := #[.int .i64 0, .int .i64 0, .int .i64 0, .int .i64 0]) (t := 39) ?hr ?_; (case hd => rfl); (case hg => rfl); (case hr => first | (go_simp; done) | (go_simp; rfl)); intro ge hg w1 be hb; have HB1 := ak (below_step HB.out hb); have GE := ak (show W.heap.size ≤ ge by rw [hg]; exact Nat.le_refl _); have NE := ak (show b ≠ ge from fun he => by have := Kd.R_lt N0.out.row b rfl; omega); have N1 := ak (N0.out.later hb); have BE := ak be; clear hb be hg)
    | (go_at_call 38; (with_reducible refine (shape_edge.calls p _ _ _ _ _ N1.out.c1).mono ?_); rintro e w2 ⟨rfl, rfl⟩; rw [c3, c4]; have k0 := N1.out.c1; obtain ⟨k1, k2, k3, k4⟩ := N1.out.edge i hi; have k5 := bc0 BE; have k6 := bc1 BE; have k7 := bc2 BE; have k8 := bc3 BE; have l0 := bf BE 0; have l1 := bf BE 1; have l2 := bf BE 2; have l3 := bf BE 3; have nb1 := NE.out; have nb2 : ge ≠ b := fun h => NE.out h.symm))
  have b1 := blk_put (blk_put (blk_put (blk_put BE.out 0 (.int .i64 (rd_T39 E (i : Int)).f0) rfl) 1 (.int .i64 (rd_T39 E (i : Int)).f1) rfl) 2 (.int .i64 (rd_T39 E (i : Int)).f2) rfl) 3 (.int .i64 (rd_T39 E (i : Int)).f3) rfl
  have k12 := (blk_cell b1 0).trans rfl
  have k13 := (blk_cell b1 1).trans rfl
  have k14 := (blk_cell b1 2).trans rfl
  have k15 := (blk_cell b1 3).trans rfl
  exact bodyPost_ret (v := .tuple #[.agg #[.int .i64 (rd_T39 E (i : Int)).f0, .int .i64 (rd_T39 E (i : Int)).f1, .int .i64 (rd_T39 E (i : Int)).f2, .int .i64 (rd_T39 E (i : Int)).f3], .int .i64 0]) (by simp [results, Try.results29, go_sem, k12, k13, k14, k15]) rfl ⟨rfl, below_set (below_set (below_set (below_set HB1.out GE.out) GE.out) GE.out) GE.out⟩
set_option maxHeartbeats 8000000 in
set_option maxRecDepth 100000 in
theorem compasslaw03_awake.calls (k : Nat) (a : Int) (h : graph_Check.f k 2 [] = some (0, a)) (hl : graph_label.f 0 1 3 0 = some true) (w : World) : Calls Try.prog 8 #[] w fun e w' => e = .returned (.bool true) ∧ Below w.heap.size w w' := by
  have hu24 := Try.underlying24
  have hu28 := Try.underlying28
  have hu39 := Try.underlying39
  have hu42 := Try.underlying42
  have hu44 := Try.underlying44
  have HB := ak (Below.refl w.heap.size w)
  have HK := ak h
  have HL := ak hl
  clear h hl
  go_enter Try.func8, Try.ntmps8
  go_wp2_with (first
    | (go_at_call 11; (refine (graph_From.good k 2 none 0 [] _ (Kd.C_nil _ _) (Nat.le_refl _) a HK.out (by decide)).mono ?_); rintro e w1 ⟨p, v, rfl, ns⟩; obtain ⟨A1, c1, e1⟩ := Kd.R_slice ns.row; subst e1; have N1 := ak ns; clear ns)
    | ((with_reducible refine gate_dst (N := 2) rfl ?_); refine box_event ?hg (N := 2) ?hd (cs := #[.int .i64 0, .int .i64 0]) (t := 28) ?hr ?_; (case hd => rfl); (case hg => rfl); (case hr => first | (go_simp; done) | (go_simp; rfl)); intro gf hg w2 bf_ hb; have N2 := ak (N1.out.later hb); have BF := ak bf_; have GF := ak (show w.heap.size ≤ gf by rw [hg]; exact below_size N1.out.below); have NF := ak (show p ≠ gf by rw [hg]; exact Nat.ne_of_lt (blk_lt N1.out.bp)); have k2 := bf BF 0; have k3 := bf BF 1; have k4 := bc0 BF; have k5 := bc1 BF; clear hb bf_ hg)
    | ((with_reducible refine gate_store (t := 28) (p := 2) rfl ?_); refine store_event (t := 28) (p := 2) (v := ?vo5b) (w1 := (w2.setCell ⟨gf, 0, none⟩ (.int .i64 0)).setCell ⟨gf, 1, none⟩ (.int .i64 0)) ?hg ?ho ?hn ?hr ?_; (case ho => rfl); (case hg => rfl); (case hn => rfl); (case hr => first | (go_simp; done) | (go_simp; rfl)); intro w3 hw; have N3 := ak (show NS w p 2 (.slice A1 ([] : List S39).length c1) [] w3 by rw [hw]; exact ⟨below_set (below_set N2.out.below GF.out) GF.out, blk_far (blk_far N2.out.bp NF.out _) NF.out _, N2.out.p0, Kd.R_set (Kd.R_set N2.out.row BF.out (by decide) 0 _) (blk_put BF.out 0 _ rfl) (by decide) 1 _⟩); have BF3 := ak (show w3.heap[gf]? = some (.cells #[.int .i64 0, .int .i64 0] 28 (0, 0)) by rw [hw]; exact blk_put (blk_put BF.out 0 _ rfl) 1 _ rfl); have k6 := bc0 BF3; clear hw)
    | (go_at_call 23; (refine (Net_AddEdge.yes w p 2 A1 c1 [] ⟨0, 1, 3, 0⟩ _ N3.out (by decide) (by decide) (by decide) (by decide) (by decide) HL.out).mono ?_); rintro e w4 ⟨rfl, A4, c4, ns⟩; have N4 := ak ns; clear ns)
    | (go_at_call 29; (refine (Net_Edge.yes w p 2 A4 c4 [⟨0, 1, 3, 0⟩] _ N4.out 0 (by decide)).mono ?_); rintro e w5 ⟨rfl, hb⟩; have N5 := ak (N4.out.later hb); clear hb)
    | (go_at_call 21; (refine (shape_Edges.calls p A4 1 c4 _ (N5.out.later (below_alloc (Below.refl _ _) _)).c1).mono ?_); rintro e w6 ⟨rfl, rfl⟩)
    | (go_at_call 20; (refine (shape_Nodes.calls p 2 _ (N5.out.later (below_alloc (Below.refl _ _) _)).c0).mono ?_); rintro e w7 ⟨rfl, rfl⟩))
  go_ret
  exact ⟨rfl, below_alloc N5.out.below _⟩
end Go.Proofs.Ytpmclhkednehhaa.Q
/- A net told plainly: a graph in new memory; typed by hand. -/
set_option linter.unusedVariables false
set_option linter.unusedSimpArgs false
namespace Go.Proofs.Ytpmclhkednehhaa.Q
open Go.RowKit Go.Proofs.YtpmclhkednehhaaW.PrintWords Go.Proofs.YtpmclhkednehhaaW.PrintLast Go.Proofs.YtpmclhkednehhaaW.PrintMore
set_option maxHeartbeats 8000000 in
set_option maxRecDepth 100000 in
theorem shape_Plain.calls (k p : Nat) (n : Int) (A : Option Addr) (cap : Nat) (E : List S39) (W : World) (hp : W.heap[p]? = some (.cells #[.int .i64 n, .slice A E.length cap] 44 (0, 0))) (hr : Kd.C k39 W A E.length E) (hc : E.length ≤ cap) (hl : E.length < 4398046511104) :
    Calls Try.prog 16 #[.pointer (some ⟨p, 0, none⟩)] W fun e w' => ∃ v : Value, e = .returned (.agg #[.int .i64 n, v]) ∧ Kd.R k39 39 w' W.heap.size (fun _ => True) v E ∧ Below W.heap.size W w' := by
  have hu24 := Try.underlying24
  have hu42 := Try.underlying42
  have CL := ak (show slices_Clone.f k E = some E by unfold slices_Clone.f; rw [if_pos hl])
  have HP := ak hp
  have HR := ak hr
  have HC := ak hc
  clear hp hr hc hl
  have HB := ak (Below.refl W.heap.size W)
  go_enter Try.func16, Try.ntmps16
  go_wp2_with (first
    | ((with_reducible refine gate_dst (N := 2) rfl ?_); refine box_event ?hg (N := 2) ?hd (cs := #[.int .i64 0, .slice none 0 0]) (t := 24) ?hr ?_; (case hd => rfl); (case hg => rfl); (case hr => first | (go_simp; done) | (go_simp; rfl)); intro gr hg w1 br hb; have HB1 := ak (below_step HB.out hb); have BR := ak br; have GR := ak (show W.heap.size ≤ gr by rw [hg]; exact Nat.le_refl _); have BP := ak (blk_below HP.out hb); have NP := ak (show p ≠ gr by rw [hg]; exact Nat.ne_of_lt (blk_lt HP.out)); clear hb br hg))
  go_region_held3 (fun w' => w'.cell? ⟨p, 0, none⟩ = some (.int .i64 n) ∧ w'.cell? ⟨p, 1, none⟩ = some (.slice A E.length cap)) (first | exact ⟨bc0 (ak (bx BP.out)), bc1 (ak (bx BP.out))⟩ | exact ⟨bc0 (ak (blk_far (blk_far (bx BP.out) NP.out _) NP.out _)), bc1 (ak (blk_far (blk_far (bx BP.out) NP.out _) NP.out _))⟩)
    (first | (go_at_call 32; (with_reducible refine (slices_Clone.calls k _ _ E E _ (by first | exact Kd.C_below HR.out HB1.out | exact Kd.C_below HR.out (below_drew HB1.out)) HC.out CL.out).mono ?_); rintro e w2 ⟨v, rfl, hv, hb⟩; obtain ⟨Av, cv, ev⟩ := Kd.R_slice hv; subst ev; replace BP := ak (blk_below (bx BP.out) hb); replace BR := ak (blk_below (bx BR.out) hb); have HB2 := ak (below_step (below_drew HB1.out) hb); have q0 := bc0 BR; have q1 := bc1 BR; have f0 := bf BR 0; have f1 := bf BR 1))
  have b1 := blk_put (blk_put BR.out 0 (.int .i64 n) rfl) 1 (.slice Av E.length cv) rfl
  have k20 := (blk_cell b1 0).trans rfl
  have k21 := (blk_cell b1 1).trans rfl
  have RV := ak (Kd.R_set (Kd.R_set (Kd.R_lower hv (below_size (below_drew HB1.out))) BR.out (by decide) 0 (.int .i64 n)) (blk_put BR.out 0 _ rfl) (by decide) 1 (.slice Av E.length cv))
  go_wp2
  exact bodyPost_ret (v := .agg #[.int .i64 n, .slice Av E.length cv]) (by simp [results, Try.results16, go_sem, k20, k21]) rfl ⟨_, rfl, RV.out, below_set (below_set HB2.out GR.out) GR.out⟩
end Go.Proofs.Ytpmclhkednehhaa.Q
