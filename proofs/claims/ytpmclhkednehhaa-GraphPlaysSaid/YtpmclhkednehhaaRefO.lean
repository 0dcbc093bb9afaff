/- The document's Out and In, an edge that is not there, and a net's fork: typed by hand. -/
import Derived.Test.YtpmclhkednehhaaQ10
import Derived.Test.YtpmclhkednehhaaQ24
import Derived.Test.YtpmclhkednehhaaQ26
import Derived.Test.YtpmclhkednehhaaNetV
import Derived.Test.YtpmclhkednehhaaNetT
set_option linter.unusedVariables false
set_option linter.unusedSimpArgs false
namespace Go.Proofs.Ytpmclhkednehhaa.Q
open Go.RowKit Go.Proofs.YtpmclhkednehhaaW.PrintWords Go.Proofs.YtpmclhkednehhaaW.PrintLast Go.Proofs.YtpmclhkednehhaaW.PrintMore
set_option maxHeartbeats 4000000 in
set_option maxRecDepth 100000 in
theorem refOut.calls (n v : Int) (A : Option Addr) (c : Nat) (E : List S39) (W : World) (hr : Kd.C k39 W A E.length E) (hc : E.length ≤ c) (hl : E.length ≤ 4096) :
    Calls Try.prog 50 #[.agg #[.int .i64 n, .slice A E.length c], .int .i64 v] W fun x w' => ∃ u : Value, x = .returned u ∧ Kd.R (Kd.int .i64) 3 w' W.heap.size (fun _ => True) u (outs v E) ∧ Below W.heap.size W w' := by
  have hu24 := Try.underlying24
  have hu39 := Try.underlying39
  have hu22 := Try.underlying22
  have HB := ak (Below.refl W.heap.size W)
  have LN := ak hl
  have HR := ak hr
  have HC := ak hc
  clear hl hr hc
  go_enter Try.func50, Try.ntmps50
  go_wp2_with (first
    | ((with_reducible refine gate_dst (N := 2) rfl ?_); refine box_event ?hg (N := 2) ?hd (cs := #[.int .i64 n, .slice A E.length c]) (t := 24) ?hr ?_; (case hd => rfl); (case hg => rfl); (case hr => first | (go_simp; done) | (go_simp; rfl)); intro gg hg w1 bg hb; have HB1 := ak (below_step HB.out hb); have BG := ak bg; clear hb bg hg))
  have R0 := ak (show Kd.R (Kd.int .i64) 3 w1 W.heap.size (fun _ => True) (.slice none 0 0) (pick (fun e => e.f0 == v) E 0) from Kd.R_nil _ _ _ _ _)
  go_loopg [6, 5] E.length (fun kq v6 v5 w' => ∃ i : Nat, v6 = .int .i64 (i : Int) ∧ Aside0 (kq + i = E.length) ∧ Aside0 (Kd.R (Kd.int .i64) 3 w' W.heap.size (fun _ => True) v5 (pick (fun e => e.f0 == v) E i)) ∧ Aside0 (w'.heap[gg]? = some (.cells #[.int .i64 n, .slice A E.length c] 24 (0, 0))) ∧ Aside0 (Below W.heap.size W w'))
  case atStart => exact ⟨0, rfl, ⟨rfl⟩, R0, BG, HB1⟩
  case round =>
    clear R0 BG HB1 HB
    obtain ⟨i, rfl, HK, R1, BG1, HB1⟩ := hrel
    obtain ⟨Ao, co, eo⟩ := Kd.R_slice R1.out
    subst eo
    have kg := bc1 BG1
    by_cases c1 : i < E.length
    · have c1a : decide (i < E.length) = true := decide_eq_true c1
      have c1b : decide ((i : Int) < (E.length : Int)) = true := decide_eq_true (by omega)
      have p0 : 0 ≤ (i : Int) := by omega
      have q0 : (i : Int) < (E.length : Int) := by omega
      obtain ⟨ad, e1, k1, k2, k3, k4⟩ := at_T39 HR.out (i : Int) p0 q0
      cases e1
      replace k1 := (HB1.out.cell (World.block_lt_of_cell? W _ k1)).trans k1
      rw [Int.toNat_natCast] at k1
      clear k2 k3 k4
      have hw1 : Go.RowKit.wrap64 ((i : Int) + 1) = ((i + 1 : Nat) : Int) := by have := LN.out; unfold Go.RowKit.wrap64; omega
      have aL0 : ((pick (fun e => e.f0 == v) E i).length + 1) * 8 ≤ 140737488355328 := by have := LN.out; have := pick_len (fun e => e.f0 == v) E i; omega
      have AL := ak aL0
      clear aL0
      by_cases c2 : (rd_T39 E (i : Int)).f0 = v
      · have c2b : ((rd_T39 E (i : Int)).f0 == v) = true := beq_iff_eq.mpr c2
        have PY := ak (pick_yes (p := fun e => e.f0 == v) (E := E) (i := i) c2b)
        clear c2
        go_wp2_with (first
          | ((with_reducible refine gate_builtin (b := .append) (xs := #[.tmp 22, .tmp 24]) rfl ?_); at_builtin; refine Kd.R_append (Kd.int .i64) (w0 := W) W.heap.size rfl (.tmp 22) (.tmp 24) 45 3 (.int .i64 0) 8 rfl Try.underlying45 info3 rfl (by decide) (by omega) (.slice Ao (pick (fun e => e.f0 == v) E i).length co) (pick (fun e => e.f0 == v) E i) (i : Int) [.int .i64 (i : Int)] (fun _ => True) (fun _ => False) rfl (by first | (go_simp; done) | (go_simp; rfl)) ?aP (fun _ hk => hk.elim) (fun _ _ => trivial) ?aO ?aB ?aS ?aL ?_; (case aP => exact rfl); (case aB => exact HB1.out); (case aO => exact R1.out); (case aS => exact below_size HB1.out); (case aL => exact AL.out); intro v7 w7 ho7 hb7 hg7 hat7; obtain ⟨A7, c7, e7⟩ := Kd.R_slice ho7; subst e7; have R7 := ak ho7; have HB7 := ak hb7; have BG7 := ak (blk_grown BG1.out hg7 (Kd.R_ne R1.out BG1.out (by decide))); clear ho7 hb7 hg7 hat7))
        go_roundg (E.length - (i + 1))
        case measure => have := HK.out; omega
        case rel => exact ⟨i + 1, by first | (rw [hw1]; done) | (simp only [i64_w, hw1]; done) | (go_num; done) | (go_num; rw [hw1]; done), ⟨by have := HK.out; omega⟩, ⟨by rw [PY.out]; have q := R7.out; simp only [List.length_append, List.length_singleton] at q ⊢; exact q⟩, BG7, HB7⟩
      · have c2b : ((rd_T39 E (i : Int)).f0 == v) = false := beq_eq_false_iff_ne.mpr c2
        have PN := ak (pick_no (p := fun e => e.f0 == v) (E := E) (i := i) c2b)
        clear c2
        go_wp2
        go_roundg (E.length - (i + 1))
        case measure => have := HK.out; omega
        case rel => exact ⟨i + 1, by first | (rw [hw1]; done) | (simp only [i64_w, hw1]; done) | (go_num; done) | (go_num; rw [hw1]; done), ⟨by have := HK.out; omega⟩, ⟨by rw [PN.out]; exact R1.out⟩, BG1, HB1⟩
    · have c1a : decide (i < E.length) = false := decide_eq_false c1
      have c1b : decide ((i : Int) < (E.length : Int)) = false := decide_eq_false (by omega)
      have ei : i = E.length := by have := HK.out; omega
      have EI := ak ei
      clear c1 ei
      go_wp2
      go_ret
      exact ⟨_, rfl, by have q := R1.out; rw [EI.out] at q ⊢; exact q, HB1.out⟩
set_option maxHeartbeats 4000000 in
set_option maxRecDepth 100000 in
theorem refIn.calls (k : Nat) (n v : Int) (A : Option Addr) (c : Nat) (E X : List S39) (W : World) (hr : Kd.C k39 W A E.length E) (hc : E.length ≤ c) (rv : compassref03_Reverse.f k n E = some (n, X)) (hl : X.length ≤ 4096) :
    Calls Try.prog 51 #[.agg #[.int .i64 n, .slice A E.length c], .int .i64 v] W fun x w' => ∃ u : Value, x = .returned u ∧ Kd.R (Kd.int .i64) 3 w' W.heap.size (fun _ => True) u (outs v X) ∧ Below W.heap.size W w' := by
  have hu24 := Try.underlying24
  have hu39 := Try.underlying39
  have hu22 := Try.underlying22
  have HB := ak (Below.refl W.heap.size W)
  have LN := ak hl
  have HR := ak hr
  have HC := ak hc
  have RV := ak rv
  clear hl hr hc rv
  go_enter Try.func51, Try.ntmps51
  go_wp2_with (first
    | ((with_reducible refine gate_dst (N := 2) rfl ?_); refine box_event ?hg (N := 2) ?hd (cs := #[.int .i64 n, .slice A E.length c]) (t := 24) ?hr ?_; (case hd => rfl); (case hg => rfl); (case hr => first | (go_simp; done) | (go_simp; rfl)); intro gg hg w1 bg hb; have HB1 := ak (below_step HB.out hb); have BG := ak bg; clear hb bg hg; have k0 := bc0 BG; have k1 := bc1 BG)
    | (go_at_call 14; (with_reducible refine (compassref03_Reverse.calls k n _ _ E n X _ (Kd.C_below HR.out HB1.out) HC.out RV.out).mono ?_); rintro e w2 ⟨vs, rfl, rs, hb⟩; obtain ⟨As, cs_, es_⟩ := Kd.R_slice rs; subst es_; have RS := ak rs; have HB2 := ak (below_step HB1.out hb); clear hb rs)
    | (go_at_call 50; (with_reducible refine (refOut.calls n v _ _ X _ (Kd.R_reads' RS.out).2.2 (Kd.R_reads' RS.out).2.1 LN.out).mono ?_); rintro e w3 ⟨u, rfl, ru, hb⟩; have RU := ak (Kd.R_lower ru (below_size HB2.out)); have HB3 := ak (below_step HB2.out hb); clear hb ru))
  go_ret
  exact ⟨_, rfl, RU.out, HB3.out⟩
set_option maxHeartbeats 8000000 in
set_option maxRecDepth 100000 in
theorem Net_Edge.no (p : Nat) (n : Int) (A : Option Addr) (cap : Nat) (E : List S39) (i : Int) (W : World) (h : W.heap[p]? = some (.cells #[.int .i64 n, .slice A E.length cap] 44 (0, 0))) (hi : (decide (0 ≤ i) && decide (i < (E.length : Int))) = false) :
    Calls Try.prog 29 #[.pointer (some ⟨p, 0, none⟩), .int .i64 i] W fun e w' => e = .returned (.tuple #[.agg #[.int .i64 0, .int .i64 0, .int .i64 0, .int .i64 0], .int .i64 32]) ∧ Below W.heap.size W w' := by
  have hu44 := Try.underlying44
  have hu42 := Try.underlying42
  have hu39 := Try.underlying39
  have HI := ak hi
  have HP := ak h
  clear h hi
  have HB := ak (Below.refl W.heap.size W)
  go_enter Try.func29, Try.ntmps29
  go_wp2_with (first
    | ((with_reducible refine gate_dst (N := 4) rfl ?_); refine box_event ?hg (N := 4) ?hd (cs := #[.int .i64 0, .int .i64 0, .int .i64 0, .int .i64 0]) (t := 39) ?hr ?_; (case hd => rfl); (case hg => rfl); (case hr => first | (go_simp; done) | (go_simp; rfl)); intro ge hg w1 be hb; have HB1 := ak (below_step HB.out hb); have GE := ak (show W.heap.size ≤ ge by rw [hg]; exact Nat.le_refl _); have BP1 := ak (blk_below HP.out hb); have BE := ak be; clear hb be hg; have k5 := bc0 BE; have k6 := bc1 BE; have k7 := bc2 BE; have k8 := bc3 BE; have l0 := bf BE 0; have l1 := bf BE 1; have l2 := bf BE 2; have l3 := bf BE 3)
    | (go_at_call 38; (with_reducible refine (shape_edge.tell p A E.length cap i _ (bc1 BP1) false HI.out).mono ?_); rintro e w2 ⟨rfl, hh⟩; rw [hh]; clear hh w2))
  have b1 := blk_put (blk_put (blk_put (blk_put BE.out 0 (.int .i64 0) rfl) 1 (.int .i64 0) rfl) 2 (.int .i64 0) rfl) 3 (.int .i64 0) rfl
  have k12 := (blk_cell b1 0).trans rfl
  have k13 := (blk_cell b1 1).trans rfl
  have k14 := (blk_cell b1 2).trans rfl
  have k15 := (blk_cell b1 3).trans rfl
  exact bodyPost_ret (v := .tuple #[.agg #[.int .i64 0, .int .i64 0, .int .i64 0, .int .i64 0], .int .i64 32]) (by simp [results, Try.results29, go_sem, k12, k13, k14, k15]) rfl ⟨rfl, below_set (below_set (below_set (below_set HB1.out GE.out) GE.out) GE.out) GE.out⟩
set_option maxHeartbeats 8000000 in
set_option maxRecDepth 100000 in
theorem Net_Fork.calls (k : Nat) (w0 : World) (p : Nat) (n : Int) (A : Option Addr) (cap : Nat) (E : List S39) (W : World) (h : NS w0 p n (.slice A E.length cap) E W) (cl : slices_Clone.f k E = some E) :
    Calls Try.prog 27 #[.pointer (some ⟨p, 0, none⟩)] W fun e w' => ∃ (q : Nat) (A' : Option Addr) (c' : Nat), e = .returned (.pointer (some ⟨q, 0, none⟩)) ∧ NS W q n (.slice A' E.length c') E w' := by
  have hu44 := Try.underlying44
  have hu42 := Try.underlying42
  have N0 := ak h
  have CL := ak cl
  have HB := ak (Below.refl W.heap.size W)
  have k0 := h.c0
  have k1 := h.c1
  clear h cl
  go_enter Try.func27, Try.ntmps27
  go_wp2
  go_region_held3 (fun w' => w'.cell? ⟨p, 0, none⟩ = some (.int .i64 n) ∧ w'.cell? ⟨p, 1, none⟩ = some (.slice A E.length cap)) (first | exact ⟨N0.out.c0, N0.out.c1⟩ | exact HX0 | exact HX1) (first
    | (go_at_call 32; (with_reducible refine (slices_Clone.calls k _ _ E E _ (Kd.C_below (Kd.R_reads' N0.out.row).2.2 (below_drew (Below.refl _ _))) (Kd.R_reads' N0.out.row).2.1 CL.out).mono ?_); rintro e w2 ⟨v, rfl, hv, hb⟩; obtain ⟨Av, cv, ev⟩ := Kd.R_slice hv; subst ev; have HB2 := ak (below_step (below_drew HB.out) hb); have RV := ak hv; have N2 := N0.out.later (below_step (below_drew (Below.refl _ _)) hb); have HX0 := And.intro N2.c0 N2.c1; have N2a := N2.later (below_alloc (Below.refl _ _) (.cells #[.int .i64 n, .slice Av E.length cv] 44)); have HX1 := And.intro N2a.c0 N2a.c1; clear N2a; clear hb hv N2))
  go_wp2
  go_ret
  exact ⟨_, _, _, rfl, below_alloc HB2.out _, blk_new w2 _, below_size HB2.out, Kd.R_alloc (Kd.R_lower RV.out (Nat.le_refl _)) _⟩
end Go.Proofs.Ytpmclhkednehhaa.Q
