/- A node is cut: the walk; typed by hand. -/
import Derived.Test.YtpmclhkednehhaaQ2
import Derived.Test.YtpmclhkednehhaaNetW2
set_option linter.unusedVariables false
set_option linter.unusedSimpArgs false
namespace Go.Proofs.Ytpmclhkednehhaa.Q
open Go.RowKit Go.Proofs.YtpmclhkednehhaaW.PrintWords Go.Proofs.YtpmclhkednehhaaW.PrintLast Go.Proofs.YtpmclhkednehhaaW.PrintMore
/-- An edge of which the first ends have been lowered. -/
def stage (v : Int) (k : Nat) (e : S39) : S39 := if k = 0 then e else if k = 1 then ⟨decv v e.f0, e.f1, e.f2, e.f3⟩ else decE v e
theorem stage_yes0 {v : Int} {e : S39} (h : (stage v 0 e).f0 > v) : (⟨(stage v 0 e).f0 - 1, (stage v 0 e).f1, (stage v 0 e).f2, (stage v 0 e).f3⟩ : S39) = stage v 1 e := by
  have h' : e.f0 > v := h
  show (⟨e.f0 - 1, e.f1, e.f2, e.f3⟩ : S39) = ⟨decv v e.f0, e.f1, e.f2, e.f3⟩
  unfold decv
  rw [if_pos h']
theorem stage_no0 {v : Int} {e : S39} (h : ¬ (stage v 0 e).f0 > v) : stage v 0 e = stage v 1 e := by
  have h' : ¬ e.f0 > v := h
  show e = ⟨decv v e.f0, e.f1, e.f2, e.f3⟩
  unfold decv
  rw [if_neg h']
theorem stage_yes1 {v : Int} {e : S39} (h : (stage v 1 e).f1 > v) : (⟨(stage v 1 e).f0, (stage v 1 e).f1 - 1, (stage v 1 e).f2, (stage v 1 e).f3⟩ : S39) = stage v 2 e := by
  have h' : e.f1 > v := h
  show (⟨decv v e.f0, e.f1 - 1, e.f2, e.f3⟩ : S39) = ⟨decv v e.f0, decv v e.f1, e.f2, e.f3⟩
  rw [show decv v e.f1 = e.f1 - 1 from if_pos h']
theorem stage_no1 {v : Int} {e : S39} (h : ¬ (stage v 1 e).f1 > v) : stage v 1 e = stage v 2 e := by
  have h' : ¬ e.f1 > v := h
  show (⟨decv v e.f0, e.f1, e.f2, e.f3⟩ : S39) = ⟨decv v e.f0, decv v e.f1, e.f2, e.f3⟩
  rw [show decv v e.f1 = e.f1 from if_neg h']
structure Mid (v : Int) (Y Z : List S39) (i k : Nat) : Prop where
  len : Z.length = Y.length
  here : rd_T39 Z (i : Int) = stage v k (rd_T39 Y (i : Int))
  there : ∀ j : Nat, j ≠ i → j < Y.length → rd_T39 Z (j : Int) = rd_T39 Y (j : Int)
theorem Mid.start (v : Int) (Y : List S39) (i : Nat) : Mid v Y Y i 0 := ⟨rfl, rfl, fun _ _ _ => rfl⟩
theorem Mid.set {v : Int} {Y Z : List S39} {i k : Nat} (h : Mid v Y Z i k) (hi : i < Y.length) {x : S39} (hx : x = stage v (k + 1) (rd_T39 Y (i : Int))) : Mid v Y (Z.set i x) i (k + 1) := by
  refine ⟨by rw [List.length_set]; exact h.len, ?_, fun j hj hl => ?_⟩
  · rw [rd_set Z i i x (by rw [h.len]; exact hi), if_pos rfl, hx]
  · rw [rd_set Z i j x (by rw [h.len]; exact hl), if_neg (fun e => hj e.symm)]
    exact h.there j hj hl
theorem Mid.stay {v : Int} {Y Z : List S39} {i k : Nat} (h : Mid v Y Z i k) (hx : stage v k (rd_T39 Y (i : Int)) = stage v (k + 1) (rd_T39 Y (i : Int))) : Mid v Y Z i (k + 1) := ⟨h.len, h.here.trans hx, h.there⟩
theorem Low.mid {v : Int} {E Y Z : List S39} {i : Nat} (h : Low v E Y i) (m : Mid v Y Z i 2) (hi : i < E.length) : Low v E Z (i + 1) := by
  refine ⟨m.len.trans h.len, fun k hk hk2 => ?_, fun k hk hk2 => ?_⟩
  · by_cases e : k = i
    · subst e
      rw [m.here, h.back k (Nat.le_refl _) hk2]
      rfl
    · rw [m.there k e (by rw [h.len]; exact hk2)]
      exact h.front k (by omega) hk2
  · rw [m.there k (by omega) (by rw [h.len]; exact hk2)]
    exact h.back k (by omega) hk2
theorem Net_CutNode.out (p : Nat) (n : Int) (v : Int) (x : Value) (W : World) (h : W.heap[p]? = some (.cells #[.int .i64 n, x] 44 (0, 0))) (hv : (decide (0 ≤ v) && decide (v < n)) = false) :
    Calls Try.prog 26 #[.pointer (some ⟨p, 0, none⟩), .int .i64 v] W fun e w' => e = .returned (.int .i64 30) ∧ Below W.heap.size W w' := by
  have hu44 := Try.underlying44
  have HP := ak h
  have D0 := ak hv
  have HB := ak (Below.refl W.heap.size W)
  clear h hv
  go_enter Try.func26, Try.ntmps26
  go_wp2_with (first
    | ((with_reducible refine gate_dst (N := 3) rfl ?_); refine box_event ?hg (N := 3) ?hd (cs := #[.int .i64 v]) (t := 3) ?hr ?_; (case hd => rfl); (case hg => rfl); (case hr => first | (go_simp; done) | (go_simp; rfl)); intro gv hg w1 bv hb; have HB1 := ak (below_step HB.out hb); have BV := ak bv; have BP := ak (blk_below HP.out hb); clear hb bv hg))
  go_region_held3 (fun w' => w'.cell? ⟨gv, 0, none⟩ = some (.int .i64 v)) (exact bc0 (ak (bx BV.out)))
    (first | (go_at_call 33; (with_reducible refine (shape_node.calls p n v _ (bc0 (ak (bx BP.out)))).mono ?_); rintro e w' ⟨rfl, rfl⟩; rw [D0.out]))
  go_wp2
  go_ret
  exact ⟨rfl, below_drew HB1.out⟩
set_option maxHeartbeats 8000000 in
set_option maxRecDepth 100000 in
theorem Net_CutNode.did (w0 : World) (p : Nat) (n : Int) (v : Int) (A : Option Addr) (cap : Nat) (E : List S39) (W : World) (h : NS w0 p n (.slice A E.length cap) E W) (hl : E.length ≤ 4096) (h0 : 0 ≤ v) (h1 : v < n) (hn : n ≤ 1024) (he : ∀ e ∈ E, 0 ≤ e.f0 ∧ e.f0 < n ∧ 0 ≤ e.f1 ∧ e.f1 < n) :
    Calls Try.prog 26 #[.pointer (some ⟨p, 0, none⟩), .int .i64 v] W fun e w' => e = .returned (.int .i64 0) ∧ Did w0 W w' p (.slice A E.length cap) (n - 1) ((E.filter (stays v)).map (decE v)) := by
  have hu44 := Try.underlying44
  have hu42 := Try.underlying42
  have hu39 := Try.underlying39
  have hu22 := Try.underlying22
  have hmf : ∀ (fn : Fn) (first cap : Array Value) (w : World), (Instr.makeFunc fn first cap).run Try.prog w = .ok (.func fn first cap) w := fun _ _ _ _ => rfl
  have D0 := ak (show (decide (0 ≤ v) && decide (v < n)) = true by rw [decide_eq_true h0, decide_eq_true h1]; rfl)
  have V0 := ak h0
  have V1 := ak h1
  have N1 := ak hn
  have N0 := ak h
  have HL := ak hl
  have HE := ak he
  have K0 := ak (Below.refl W.heap.size W)
  clear h hl h0 h1 hn he
  go_enter Try.func26, Try.ntmps26
  go_wp2_with (first
    | ((with_reducible refine gate_dst (N := 3) rfl ?_); refine box_event ?hg (N := 3) ?hd (cs := #[.int .i64 v]) (t := 3) ?hr ?_; (case hd => rfl); (case hg => rfl); (case hr => first | (go_simp; done) | (go_simp; rfl)); intro gv hg w1 bv hb; have K1 := ak (below_step K0.out hb); have BV := ak bv; have N2 := ak (N0.out.later hb); clear hb bv hg))
  go_region_held3 (fun w' => w'.cell? ⟨gv, 0, none⟩ = some (.int .i64 v)) (exact bc0 (ak (bx BV.out)))
    (first | (go_at_call 33; (with_reducible refine (shape_node.calls p n v _ ((blk_cell (bx N2.out.bp) 0).trans rfl)).mono ?_); rintro e w' ⟨rfl, rfl⟩; rw [D0.out]))
  have N3 := ak (N2.out.later (below_drew (Below.refl _ _)))
  have K3 := ak (below_drew K1.out)
  have BV3 := ak (blk_drew BV.out)
  have k0 := N2.out.c1
  go_wp2_with (first
    | (go_at_call 40; (with_reducible refine (slices_DeleteFunc.calls w0 p n gv v A cap E _ N3.out HL.out BV3.out).mono ?_); rintro e w3 ⟨rfl, -, h3, h4, h5, h6, h7⟩; have BP4 := ak h3; have BV4 := ak h4; have B4 := ak h5; have R4 := ak h6; have K4 := ak (keep_trans (keep_below K3.out _ _) h7); clear h3 h4 h5 h6 h7; have k1 := bc1 BP4; have k2 := bf BP4 1))
  clear k0 k1 k2
  have GP := ak (show gv ≠ p from fun e => by
    have h1 := BP4.out
    rw [← e, BV4.out] at h1
    injection h1 with h1
    injection h1 with _ h1
    exact absurd h1 (by decide))
  have P0 := ak N0.out.p0
  obtain ⟨E1, ee⟩ : ∃ m, m = E.filter (stays v) := ⟨_, rfl⟩
  rw [← ee] at R4 ⊢
  have C0 := ak (show CN w0 W p n A E1.length cap gv v E1 (w3.setCell ⟨p, 1, none⟩ (.slice A E1.length cap)) from ⟨⟨below_set B4.out P0.out, blk_put BP4.out 1 _ rfl, P0.out, Kd.R_set R4.out BP4.out (by decide) 1 _⟩, keep_trans (by cases A <;> exact K4.out) (keep_set _ _ _ _ _), blk_far BV4.out GP.out _⟩)
  generalize w3.setCell ⟨p, 1, none⟩ (.slice A E1.length cap) = w5 at C0 ⊢
  have HE1 := ak (show ∀ e ∈ E1, 0 ≤ e.f0 ∧ e.f0 < n ∧ 0 ≤ e.f1 ∧ e.f1 < n from fun e h => HE.out e (by rw [ee] at h; exact (List.mem_filter.mp h).1))
  have HL1 := ak (show E1.length ≤ 4096 by rw [ee]; exact Nat.le_trans (List.length_filter_le _ _) HL.out)
  have EE := ak ee
  have OB := ak (show (Value.slice A E.length cap).ownBlock = (Value.slice A E1.length cap).ownBlock by cases A <;> rfl)
  clear ee N0 N2 N3 K1 K3 BV BV3 BP4 BV4 B4 R4 K4 GP
  go_loopg [31] E1.length (fun kq v31 w' => ∃ (i : Nat) (Y : List S39), v31 = .int .i64 (i : Int) ∧ Aside0 (kq + i = E1.length) ∧ Aside0 (Low v E1 Y i) ∧ Aside0 (CN w0 W p n A E1.length cap gv v Y w'))
  case atStart => exact ⟨0, E1, rfl, ⟨rfl⟩, ⟨Low.start v E1⟩, C0⟩
  case round =>
    clear C0
    obtain ⟨i, Y, rfl, HK, LY, C1⟩ := hrel
    by_cases c1 : i < E1.length
    · have c1a : decide (i < E1.length) = true := decide_eq_true c1
      have c1b : decide ((i : Int) < (E1.length : Int)) = true := decide_eq_true (by omega)
      have I1 := ak c1
      obtain ⟨b, cp, ea, -⟩ := Kd.R_form C1.out.ns.row (by rw [LY.out.len]; omega)
      injection ea with e1 e2 e3
      subst e1
      clear e2 e3
      have p0 : 0 ≤ (i : Int) := by omega
      have q0 : (i : Int) < (E1.length : Int) := by omega
      have hw1 : Go.RowKit.wrap64 ((i : Int) + 1) = ((i + 1 : Nat) : Int) := by have := HL1.out; unfold Go.RowKit.wrap64; omega
      go_wp2
      go_region_held3 (fun w' => w'.cell? ⟨p, 1, none⟩ = some (.slice (some ⟨b, 0, none⟩) E1.length cap)) (first | exact (C1.out.later (below_drew (Below.refl _ _))).ns.c1 | exact ((C1.out.later (below_drew (Below.refl _ _))).later (below_alloc (Below.refl _ _) _)).ns.c1) (fail)
      have C2 := ak ((C1.out.later (below_alloc (Below.refl _ _) (.cells #[.pointer (some ⟨b, i * 4, none⟩), .pointer (some ⟨b, i * 4 + 1, none⟩)] 76 (0, 0)))).later (below_drew (Below.refl _ _)))
      have BA := ak (blk_drew (blk_new wr (.cells #[.pointer (some ⟨b, i * 4, none⟩), .pointer (some ⟨b, i * 4 + 1, none⟩)] 76 (0, 0))))
      have GB := ak (show wr.heap.size ≠ b from fun e => by have := Kd.R_lt C1.out.ns.row b rfl; omega)
      generalize (wr.alloc (.cells #[.pointer (some ⟨b, i * 4, none⟩), .pointer (some ⟨b, i * 4 + 1, none⟩)] 76 (0, 0))).drew = w6 at C2 BA ⊢
      generalize wr.heap.size = ga at BA GB ⊢
      clear C1
      go_wp2
      go_loopg [52] 2 (fun kq v52 w' => ∃ (k : Nat) (Z : List S39), v52 = .int .i64 (k : Int) ∧ Aside0 (kq + k = 2) ∧ Aside0 (Mid v Y Z i k) ∧ Aside0 (CN w0 W p n (some ⟨b, 0, none⟩) E1.length cap gv v Z w') ∧ Aside0 (w'.heap[ga]? = some (.cells #[.pointer (some ⟨b, i * 4, none⟩), .pointer (some ⟨b, i * 4 + 1, none⟩)] 76 (0, 0))))
      case atStart => exact ⟨0, Y, rfl, ⟨rfl⟩, ⟨Mid.start v Y i⟩, C2, BA⟩
      case round =>
        clear C2 BA
        obtain ⟨k, Z, rfl, HK2, MZ, C3, BA3⟩ := hrel
        by_cases c2 : k < 2
        · obtain ⟨⟨q1, q2, q3, q4⟩, q5, q6, q7, q8⟩ := row_cells C3.out.ns.row i I1.out
          have z3 := C3.out.v0
          have EB := HE1.out (rd_T39 E1 (i : Int)) (by rw [rd_nat E1 i I1.out]; exact List.getElem_mem I1.out)
          have EY := LY.out.back i (Nat.le_refl _) I1.out
          have n1024 := N1.out
          rcases (by omega : k = 0 ∨ k = 1) with e | e
          · subst e
            have FB0 : 0 ≤ (rd_T39 Z (i : Int)).f0 ∧ (rd_T39 Z (i : Int)).f0 < n := by
              rw [MZ.out.here]
              show 0 ≤ (rd_T39 Y (i : Int)).f0 ∧ (rd_T39 Y (i : Int)).f0 < n
              rw [EY]
              exact ⟨EB.1, EB.2.1⟩
            have FB := ak FB0
            clear FB0 EB EY c2
            by_cases c4 : (rd_T39 Z (i : Int)).f0 > v
            · have g1 : decide ((rd_T39 Z (i : Int)).f0 > v) = true := decide_eq_true c4
              have g2 : decide (v < (rd_T39 Z (i : Int)).f0) = true := decide_eq_true c4
              have gs : Go.RowKit.wrap64 ((rd_T39 Z (i : Int)).f0 - 1) = (rd_T39 Z (i : Int)).f0 - 1 := by have := FB.out; unfold Go.RowKit.wrap64; omega
              have G4 := ak c4
              have N24 := ak n1024
              have z4 : wr.cell? ⟨ga, 0, none⟩ = some (.pointer (some ⟨b, i * 4, none⟩)) := bc0 BA3
              clear c4 n1024
              go_wp2
              go_region_held3 (fun w' => w'.cell? ⟨b, i * 4, none⟩ = some (.int .i64 (rd_T39 Z (i : Int)).f0) ∧ w'.cell? ⟨gv, 0, none⟩ = some (.int .i64 v)) (exact ⟨q1, z3⟩) (fail)
              have C4 := ak ((C3.out.later (below_drew (Below.refl _ _))).put0 i I1.out ((rd_T39 Z (i : Int)).f0 - 1))
              have BA4 := ak (blk_far (blk_drew BA3.out) GB.out (.int .i64 ((rd_T39 Z (i : Int)).f0 - 1)) (p := ⟨b, i * 4, none⟩))
              go_wp2
              go_roundg (2 - (0 + 1))
              case measure => have := HK2.out; omega
              case rel => exact ⟨0 + 1, Z.set i ⟨(rd_T39 Z (i : Int)).f0 - 1, (rd_T39 Z (i : Int)).f1, (rd_T39 Z (i : Int)).f2, (rd_T39 Z (i : Int)).f3⟩, rfl, ⟨by have := HK2.out; omega⟩, ⟨MZ.out.set (by rw [LY.out.len]; exact I1.out) (by have := G4.out; rw [MZ.out.here] at this ⊢; exact stage_yes0 this)⟩, by first | exact C4 | (simp only [gs]; exact C4), by first | exact BA4 | (simp only [gs]; exact BA4)⟩
            · have g1 : decide ((rd_T39 Z (i : Int)).f0 > v) = false := decide_eq_false c4
              have g2 : decide (v < (rd_T39 Z (i : Int)).f0) = false := decide_eq_false c4
              have G4 := ak c4
              have z4 : wr.cell? ⟨ga, 0, none⟩ = some (.pointer (some ⟨b, i * 4, none⟩)) := bc0 BA3
              clear c4 n1024
              go_wp2
              go_region_held3 (fun w' => w'.cell? ⟨b, i * 4, none⟩ = some (.int .i64 (rd_T39 Z (i : Int)).f0) ∧ w'.cell? ⟨gv, 0, none⟩ = some (.int .i64 v)) (exact ⟨q1, z3⟩) (fail)
              go_wp2
              go_roundg (2 - (0 + 1))
              case measure => have := HK2.out; omega
              case rel => exact ⟨0 + 1, Z, rfl, ⟨by have := HK2.out; omega⟩, ⟨MZ.out.stay (by have := G4.out; rw [MZ.out.here] at this; exact stage_no0 (by omega))⟩, ⟨C3.out.later (below_drew (Below.refl _ _))⟩, ⟨blk_drew BA3.out⟩⟩
          · subst e
            have FB0 : 0 ≤ (rd_T39 Z (i : Int)).f1 ∧ (rd_T39 Z (i : Int)).f1 < n := by
              rw [MZ.out.here]
              show 0 ≤ (rd_T39 Y (i : Int)).f1 ∧ (rd_T39 Y (i : Int)).f1 < n
              rw [EY]
              exact ⟨EB.2.2.1, EB.2.2.2⟩
            have FB := ak FB0
            clear FB0 EB EY c2
            by_cases c4 : (rd_T39 Z (i : Int)).f1 > v
            · have g1 : decide ((rd_T39 Z (i : Int)).f1 > v) = true := decide_eq_true c4
              have g2 : decide (v < (rd_T39 Z (i : Int)).f1) = true := decide_eq_true c4
              have gs : Go.RowKit.wrap64 ((rd_T39 Z (i : Int)).f1 - 1) = (rd_T39 Z (i : Int)).f1 - 1 := by have := FB.out; unfold Go.RowKit.wrap64; omega
              have G4 := ak c4
              have N24 := ak n1024
              have z4 : wr.cell? ⟨ga, 1, none⟩ = some (.pointer (some ⟨b, i * 4 + 1, none⟩)) := bc1 BA3
              clear c4 n1024
              go_wp2
              go_region_held3 (fun w' => w'.cell? ⟨b, i * 4 + 1, none⟩ = some (.int .i64 (rd_T39 Z (i : Int)).f1) ∧ w'.cell? ⟨gv, 0, none⟩ = some (.int .i64 v)) (exact ⟨q2, z3⟩) (fail)
              have C4 := ak ((C3.out.later (below_drew (Below.refl _ _))).put1 i I1.out ((rd_T39 Z (i : Int)).f1 - 1))
              have BA4 := ak (blk_far (blk_drew BA3.out) GB.out (.int .i64 ((rd_T39 Z (i : Int)).f1 - 1)) (p := ⟨b, i * 4 + 1, none⟩))
              go_wp2
              go_roundg (2 - (1 + 1))
              case measure => have := HK2.out; omega
              case rel => exact ⟨1 + 1, Z.set i ⟨(rd_T39 Z (i : Int)).f0, (rd_T39 Z (i : Int)).f1 - 1, (rd_T39 Z (i : Int)).f2, (rd_T39 Z (i : Int)).f3⟩, rfl, ⟨by have := HK2.out; omega⟩, ⟨MZ.out.set (by rw [LY.out.len]; exact I1.out) (by have := G4.out; rw [MZ.out.here] at this ⊢; exact stage_yes1 this)⟩, by first | exact C4 | (simp only [gs]; exact C4), by first | exact BA4 | (simp only [gs]; exact BA4)⟩
            · have g1 : decide ((rd_T39 Z (i : Int)).f1 > v) = false := decide_eq_false c4
              have g2 : decide (v < (rd_T39 Z (i : Int)).f1) = false := decide_eq_false c4
              have G4 := ak c4
              have z4 : wr.cell? ⟨ga, 1, none⟩ = some (.pointer (some ⟨b, i * 4 + 1, none⟩)) := bc1 BA3
              clear c4 n1024
              go_wp2
              go_region_held3 (fun w' => w'.cell? ⟨b, i * 4 + 1, none⟩ = some (.int .i64 (rd_T39 Z (i : Int)).f1) ∧ w'.cell? ⟨gv, 0, none⟩ = some (.int .i64 v)) (exact ⟨q2, z3⟩) (fail)
              go_wp2
              go_roundg (2 - (1 + 1))
              case measure => have := HK2.out; omega
              case rel => exact ⟨1 + 1, Z, rfl, ⟨by have := HK2.out; omega⟩, ⟨MZ.out.stay (by have := G4.out; rw [MZ.out.here] at this; exact stage_no1 (by omega))⟩, ⟨C3.out.later (below_drew (Below.refl _ _))⟩, ⟨blk_drew BA3.out⟩⟩
        · have ek : k = 2 := by have := HK2.out; omega
          subst ek
          go_wp2
          go_roundg (E1.length - (i + 1))
          case measure => have := HK.out; omega
          case rel => exact ⟨i + 1, Z, by first | (rw [hw1]; done) | (simp only [i64_w, hw1]; done) | (go_num; done) | (go_num; rw [hw1]; done), ⟨by have := HK.out; have := I1.out; omega⟩, ⟨LY.out.mid MZ.out I1.out⟩, C3⟩
    · have c1a : decide (i < E1.length) = false := decide_eq_false c1
      have c1b : decide ((i : Int) < (E1.length : Int)) = false := decide_eq_false (by omega)
      have EY := LY.out.done c1
      subst EY
      clear c1
      have k0 := C1.out.ns.c0
      have k1 := blk_frozen C1.out.ns.bp 0
      have s1 : Go.RowKit.wrap64 (n - 1) = n - 1 := by have := N1.out; have := V0.out; have := V1.out; unfold Go.RowKit.wrap64; omega
      have s2 : IntKind.i64.wrap (n - 1) = n - 1 := by rw [i64_w]; exact s1
      go_wp2
      go_ret
      have ns := C1.out.ns
      have len : (E1.map (decE v)).length = E1.length := List.length_map _
      rw [← EE.out]
      refine ⟨rfl, A, cap, ?_, ?_, .inl ?_⟩
      · rw [len]
        exact ⟨below_set ns.below ns.p0, blk_put ns.bp 0 _ rfl, ns.p0, Kd.R_set ns.row ns.bp (by decide) 0 _⟩
      · rw [OB.out]
        exact keep_trans C1.out.keep (keep_set _ _ _ _ _)
      · rw [OB.out, len]
/-- What CutNode answers, and the nodes and edges then. -/
def cutN (n : Int) (E : List S39) (v : Int) : Int × Int × List S39 := if 0 ≤ v ∧ v < n then (0, n - 1, (E.filter (stays v)).map (decE v)) else (30, n, E)
theorem Net_CutNode.calls (w0 : World) (p : Nat) (n : Int) (A : Option Addr) (cap : Nat) (E : List S39) (v : Int) (W : World) (h : NS w0 p n (.slice A E.length cap) E W) (hl : E.length ≤ 4096) (hn : n ≤ 1024) (he : ∀ e ∈ E, 0 ≤ e.f0 ∧ e.f0 < n ∧ 0 ≤ e.f1 ∧ e.f1 < n) :
    Calls Try.prog 26 #[.pointer (some ⟨p, 0, none⟩), .int .i64 v] W fun e w' => e = .returned (.int .i64 (cutN n E v).1) ∧ Did w0 W w' p (.slice A E.length cap) (cutN n E v).2.1 (cutN n E v).2.2 := by
  unfold cutN
  by_cases a : 0 ≤ v ∧ v < n
  · rw [if_pos a]
    exact Net_CutNode.did w0 p n v A cap E W h hl a.1 a.2 hn he
  · rw [if_neg a]
    refine (Net_CutNode.out p n v _ W h.bp (by rw [Bool.and_eq_false_iff, decide_eq_false_iff_not, decide_eq_false_iff_not]; omega)).mono ?_
    rintro e w' ⟨rfl, hb⟩
    exact ⟨rfl, Did.same h hb⟩
end Go.Proofs.Ytpmclhkednehhaa.Q
