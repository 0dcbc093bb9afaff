/- GraphPlays: the law's walk, typed by hand. -/
import Derived.Test.YtpmclhkednehhaaQ11
import Derived.Test.YtpmclhkednehhaaQ27
import Derived.Test.YtpmclhkednehhaaQ3
import Derived.Test.YtpmclhkednehhaaDoc
import Derived.Test.YtpmclhkednehhaaQ42
import Derived.LaidEqlPtr
import Derived.KernelRfl
set_option linter.unusedVariables false
set_option linter.unusedSimpArgs false
namespace Go.Proofs.Ytpmclhkednehhaa.Q
open Go.RowKit Go.Proofs.YtpmclhkednehhaaW.PrintWords Go.Proofs.YtpmclhkednehhaaW.PrintLast Go.Proofs.YtpmclhkednehhaaW.PrintMore
structure compasslaw03_GraphPlays.Told (k : Nat) (n : Int) (E : List S39) (S : List S53) (c a a0 cr ar : Int) : Prop where
  right : compasslaw03_GraphRight.Told k n E S c a a0
  ref : compassref03_Check.f k n E = some (cr, ar)
  bad : c ≠ 0 → cr ≠ 0
  ask : c = 0 → ∀ i : Nat, i < S.length → Askd k (stI S n E i).1 (stI S n E i).2 (rd_T53 S (i : Int)).e
set_option maxHeartbeats 16000000 in
set_option maxRecDepth 100000 in
theorem compasslaw03_GraphPlays.bad (k : Nat) (n : Int) (A : Option Addr) (cE : Nat) (E : List S39) (AS : Option Addr) (cS : Nat) (S : List S53) (w : World) (hr : Kd.C k39 w A E.length E) (hc : E.length ≤ cE) (c a a0 cr ar : Int) (TD0 : compasslaw03_GraphPlays.Told k n E S c a a0 cr ar) (z : ¬ c = 0) :
    Calls Try.prog 7 #[.agg #[.int .i64 n, .slice A E.length cE], .slice AS S.length cS] w fun e w' => e = .returned (.bool true) ∧ Below w.heap.size w w' := by
  have hu24 := Try.underlying24
  have hu28 := Try.underlying28
  have TD := ak TD0
  have CR := ak (TD0.bad z)
  have z3 : (cr != 0) = true := bne_iff_ne.mpr CR.out
  have z4 : (cr == 0) = false := beq_eq_false_iff_ne.mpr CR.out
  clear TD0
  have HR := ak hr
  have HC := ak hc
  clear hr hc
  have HB := ak (Below.refl w.heap.size w)
  have CZ := ak z
  clear z
  go_enter Try.func7, Try.ntmps7
  go_wp2_with (first
    | ((with_reducible refine gate_dst (N := 2) rfl ?_); refine box_event ?hg (N := 2) ?hd (cs := #[.int .i64 n, .slice A E.length cE]) (t := 24) ?hr ?_; (case hd => rfl); (case hg => rfl); (case hr => first | (go_simp; done) | (go_simp; rfl)); intro gg hg w1 bg hb; have HB1 := ak (below_step HB.out hb); have BG := ak bg; clear hb bg hg)
    | (go_at_call 8; (with_reducible refine (compasslaw03_awake.calls k a0 TD.out.right.two TD.out.right.lab _).mono ?_); rintro e w2 ⟨rfl, hb⟩; have HB2 := ak (below_step HB1.out hb); have BG2 := ak (blk_below BG.out hb); have k0 := bc0 BG2; have k1 := bc1 BG2; clear hb)
    | (go_at_call 11; (with_reducible refine (graph_From.bad k n _ _ E _ (Kd.C_below HR.out HB2.out) HC.out c a TD.out.right.chk CZ.out).mono ?_); rintro e w3 ⟨rfl, hb⟩; have HB3 := ak (below_step HB2.out hb); have BG3 := ak (blk_below BG2.out hb); clear hb)
    | ((with_reducible refine gate_dst (N := 6) rfl ?_); refine box_event ?hg (N := 6) ?hd (cs := #[.int .i64 0, .int .i64 0]) (t := 28) ?hr ?_; (case hd => rfl); (case hg => rfl); (case hr => first | (go_simp; done) | (go_simp; rfl)); intro gf hg w4 bf_ hb; have HB4 := ak (below_step HB3.out hb); have BF := ak bf_; have GF := ak (show w.heap.size ≤ gf by rw [hg]; exact below_size HB3.out); have NF := ak (show gg ≠ gf by rw [hg]; exact Nat.ne_of_lt (blk_lt BG3.out)); have BG4 := ak (blk_below BG3.out hb); have k2 := bf BF 0; have k3 := bf BF 1; have k4 := bc0 BF; have k5 := bc1 BF; clear hb bf_ hg)
    | ((with_reducible refine gate_store (t := 28) (p := 6) rfl ?_); refine store_event (t := 28) (p := 6) (v := ?vo6) (w1 := (w4.setCell ⟨gf, 0, none⟩ (.int .i64 c)).setCell ⟨gf, 1, none⟩ (.int .i64 a)) ?hg ?ho ?hn ?hr ?_; (case ho => rfl); (case hg => rfl); (case hn => rfl); (case hr => first | (go_simp; done) | (go_simp; rfl)); intro w5 hw; have HB5 := ak (show Below w.heap.size w w5 by rw [hw]; exact below_set (below_set HB4.out GF.out) GF.out); have BG5 := ak (show w5.heap[gg]? = some (.cells #[.int .i64 n, .slice A E.length cE] 24 (0, 0)) by rw [hw]; exact blk_far (blk_far BG4.out NF.out _) NF.out _); have k6 := bc0 BG5; have k7 := bc1 BG5; clear hw)
    | (go_at_call 10; (with_reducible refine (compassref03_Check.calls k n _ _ E cr ar _ (Kd.C_below HR.out HB5.out) HC.out TD.out.ref).mono ?_); rintro e w6 ⟨rfl, hb⟩; have HB6 := ak (below_step HB5.out hb); clear hb))
  go_ret
  exact ⟨rfl, HB6.out⟩
theorem eqptr_run {P : Program} {o : Oper} {ρ : Operand → Value} {t yt : TypeId} {x y : Operand} {pa pb : Option Addr} {b : Bool} {w : World} (ho : o.op = .binOp .eql t x y yt) (hx : ρ x = .pointer pa) (hy : ρ y = .pointer pb) (h : (binOp .eql t (.pointer pa) (.pointer pb)).run P w = .ok (.bool b) w) : (execOp ρ o).run P w = .ok (.value (.bool b)) w := by
  unfold execOp
  rw [ho]
  simp [hx, hy, eqGuard_at_pointer, h]
def compasslaw03_GraphPlays.T21t : Bool × List (List Nat × List Nat) := (true, [([], []), ([0], [0]), ([1], [1]), ([2], [2]), ([], []), ([3, 4, 3], [3, 4]), ([5, 5], [5]), ([6], [6]), ([6], [6]), ([7, 8, 6], [6, 7, 8]), ([9, 6, 6], [6, 9]), ([10], [10]), ([11, 10], [10, 11]), ([12, 10], [10, 12]), ([13, 10, 10], [10, 13]), ([10], [10]), ([14, 15, 14, 10], [10, 14, 15]), ([10, 16, 6], [6, 10, 16]), ([6, 17], [6, 17]), ([18, 16, 0, 1, 2, 3, 4, 5, 6, 7, 8, 9, 10, 11, 12, 13, 14, 15, 16, 17, 18], [18])])
def compasslaw03_GraphPlays.B21 : List Nat := [0, 1, 3, 7, 0, 31, 63, 127, 127, 511, 1023, 2047, 4095, 8191, 16383, 2047, 65535, 131071, 262143, 524287]
theorem compasslaw03_GraphPlays.T21 : rtab .any (opsOf Try.f7 21) = compasslaw03_GraphPlays.T21t := by kernel_rfl
theorem compasslaw03_GraphPlays.B21w : waitsOk compasslaw03_GraphPlays.T21t.2 compasslaw03_GraphPlays.B21 = true := by kernel_rfl
set_option maxHeartbeats 16000000 in
set_option maxRecDepth 100000 in
theorem compasslaw03_GraphPlays.good (k : Nat) (n : Int) (A : Option Addr) (cE : Nat) (E : List S39) (AS : Option Addr) (cS : Nat) (S : List S53) (w : World) (hr : Kd.C k39 w A E.length E) (hc : E.length ≤ cE) (hs : Kd.C k53 w AS S.length S) (c a a0 cr ar : Int) (TD0 : compasslaw03_GraphPlays.Told k n E S c a a0 cr ar) (z : c = 0) :
    Calls Try.prog 7 #[.agg #[.int .i64 n, .slice A E.length cE], .slice AS S.length cS] w fun e w' => e = .returned (.bool true) ∧ Below w.heap.size w w' := by
  have hu24 := Try.underlying24
  have hu28 := Try.underlying28
  have hu39 := Try.underlying39
  have hu53 := Try.underlying53
  have hu44 := Try.underlying44
  have hu22 := Try.underlying22
  have TD := ak TD0
  clear TD0
  have HR := ak hr
  have HC := ak hc
  have HS := ak hs
  clear hr hc hs
  have HB := ak (Below.refl w.heap.size w)
  subst z
  obtain rfl := TD.out.right.zero rfl
  go_enter Try.func7, Try.ntmps7
  go_wp2_with (first
    | ((with_reducible refine gate_dst (N := 2) rfl ?_); refine box_event ?hg (N := 2) ?hd (cs := #[.int .i64 n, .slice A E.length cE]) (t := 24) ?hr ?_; (case hd => rfl); (case hg => rfl); (case hr => first | (go_simp; done) | (go_simp; rfl)); intro gg hg w1 bg hb; have HB1 := ak (below_step HB.out hb); have GG := ak (show w.heap.size ≤ gg by rw [hg]; exact below_size HB.out); have BG := ak bg; clear hb bg hg)
    | (go_at_call 8; (with_reducible refine (compasslaw03_awake.calls k a0 TD.out.right.two TD.out.right.lab _).mono ?_); rintro e w2 ⟨rfl, hb⟩; have HB2 := ak (below_step HB1.out hb); have BG2 := ak (blk_below BG.out hb); have k0 := bc0 BG2; have k1 := bc1 BG2; clear hb)
    | (go_at_call 11; (with_reducible refine (graph_From.good k n _ _ E _ (Kd.C_below HR.out HB2.out) HC.out 0 TD.out.right.chk TD.out.right.len).mono ?_); rintro e w3 ⟨p, vp, rfl, ns⟩; obtain ⟨Ap, cp, ep_⟩ := Kd.R_slice ns.row; subst ep_; have NS3 := ak ns; have BG3 := ak (blk_below BG2.out ns.below); clear ns)
    | ((with_reducible refine gate_dst (N := 6) rfl ?_); refine box_event ?hg (N := 6) ?hd (cs := #[.int .i64 0, .int .i64 0]) (t := 28) ?hr ?_; (case hd => rfl); (case hg => rfl); (case hr => first | (go_simp; done) | (go_simp; rfl)); intro gf hg w4 bf_ hb; have NS4 := ak (NS3.out.later hb); have BF := ak bf_; have GF := ak (show w2.heap.size ≤ gf by rw [hg]; exact below_size NS3.out.below); have NP := ak (show p ≠ gf by rw [hg]; exact Nat.ne_of_lt (blk_lt NS3.out.bp)); have NF := ak (show gg ≠ gf by rw [hg]; exact Nat.ne_of_lt (blk_lt BG3.out)); have BG4 := ak (blk_below BG3.out hb); have k2 := bf BF 0; have k3 := bf BF 1; have k4 := bc0 BF; have k5 := bc1 BF; clear hb bf_ hg)
    | ((with_reducible refine gate_store (t := 28) (p := 6) rfl ?_); refine store_event (t := 28) (p := 6) (v := ?vo6) (w1 := (w4.setCell ⟨gf, 0, none⟩ (.int .i64 0)).setCell ⟨gf, 1, none⟩ (.int .i64 0)) ?hg ?ho ?hn ?hr ?_; (case ho => rfl); (case hg => rfl); (case hn => rfl); (case hr => first | (go_simp; done) | (go_simp; rfl)); intro w5 hw; have NS5 := ak (show NS w2 p n (.slice Ap E.length cp) E w5 by rw [hw]; exact ⟨below_set (below_set NS4.out.below GF.out) GF.out, blk_far (blk_far NS4.out.bp NP.out _) NP.out _, NS4.out.p0, Kd.R_set (Kd.R_set NS4.out.row BF.out (by decide) 0 _) (blk_put BF.out 0 _ rfl) (by decide) 1 _⟩); have BG5 := ak (show w5.heap[gg]? = some (.cells #[.int .i64 n, .slice A E.length cE] 24 (0, 0)) by rw [hw]; exact blk_far (blk_far BG4.out NF.out _) NF.out _); have k6 := bc0 BG5; have k7 := bc1 BG5; clear hw)
    | (go_at_call 10; (with_reducible refine (compassref03_Check.calls k n _ _ E cr ar _ (Kd.C_below HR.out (below_step HB2.out NS5.out.below)) HC.out TD.out.ref).mono ?_); rintro e w6 ⟨rfl, hb⟩; have NS6 := ak (NS5.out.later hb); have BG6 := ak (blk_below BG5.out hb); clear hb; have k8 := bc0 BG6; have k9 := bc1 BG6))
  clear k0 k1 k2 k3 k4 k5 k6 k7
  go_region_held3 (fun w' => w'.cell? ⟨gg, 0, none⟩ = some (.int .i64 n) ∧ w'.cell? ⟨gg, 1, none⟩ = some (.slice A E.length cE)) (first | exact ⟨bc0 (ak (bx BG6.out)), bc1 (ak (bx BG6.out))⟩ | exact ⟨bc0 (ak (blk_alloc (bx BG6.out) _)), bc1 (ak (blk_alloc (bx BG6.out) _))⟩ | go_keep) (fail)
  have NS7 := ak ((NS6.out.later (below_drew (below_alloc (Below.refl _ _) (.cells #[.int .i64 n, .slice A E.length cE] 24)))).lower HB2.out)
  have BG7 := ak (blk_drew (blk_alloc BG6.out (.cells #[.int .i64 n, .slice A E.length cE] 24)))
  have BB7 := ak (blk_drew (blk_new w6 (.cells #[.int .i64 n, .slice A E.length cE] 24)))
  have GB := ak (show w.heap.size ≤ w6.heap.size from below_size (below_step HB2.out NS6.out.below))
  have NGB := ak (show gg ≠ w6.heap.size from Nat.ne_of_lt (blk_lt BG6.out))
  generalize w6.heap.size = gb at BB7 GB NGB ⊢
  generalize (w6.alloc (.cells #[.int .i64 n, .slice A E.length cE] 24)).drew = w7 at NS7 BG7 BB7 ⊢
  clear k8 k9 BG2 BG3 BG4 BG5 BG6 NS3 NS4 NS5 NS6 BF GF NP NF HB1 HB2 BG
  have DC7 := ak (show Doc w w w7 p (.slice Ap E.length cp) A cE E from ⟨HC.out, .inl HR.out⟩)
  have OL7 := ak (show Old w w w7 p (.slice Ap E.length cp) p A cE n E from ⟨DC7.out, .inl rfl⟩)
  go_wp2
  go_loopg [35, 5, 9] S.length (fun kq v35 v5 v9 w' => ∃ (i q po m : Nat) (A2 : Option Addr) (cp2 : Nat) (Ad : Option Addr) (cd : Nat) (Ab : Option Addr) (cb : Nat), v35 = .int .i64 (i : Int) ∧ v5 = .pointer (some ⟨q, 0, none⟩) ∧ v9 = .pointer (some ⟨po, 0, none⟩) ∧ Aside0 (kq + i = S.length) ∧ Aside0 (m ≤ i) ∧ Aside0 (NS w q (stI S n E i).1 (.slice A2 (stI S n E i).2.length cp2) (stI S n E i).2 w') ∧ Aside0 (w'.heap[gg]? = some (.cells #[.int .i64 (stI S n E i).1, .slice Ad (stI S n E i).2.length cd] 24 (0, 0))) ∧ Aside0 (w'.heap[gb]? = some (.cells #[.int .i64 (stI S n E m).1, .slice Ab (stI S n E m).2.length cb] 24 (0, 0))) ∧ Aside0 (Doc w w w' q (.slice A2 (stI S n E i).2.length cp2) Ad cd (stI S n E i).2) ∧ Aside0 (Old w w w' q (.slice A2 (stI S n E i).2.length cp2) po Ab cb (stI S n E m).1 (stI S n E m).2))
  case atStart => exact ⟨0, p, p, 0, Ap, cp, A, cE, A, cE, rfl, rfl, rfl, ⟨rfl⟩, ⟨Nat.le_refl _⟩, NS7, BG7, BB7, DC7, OL7⟩
  case round =>
    clear NS7 BG7 BB7 DC7 OL7
    obtain ⟨i, q, po, m, A2, cp2, Ad, cd, Ab, cb, rfl, rfl, rfl, HK, HM, N2, BG, BB, DC, OL⟩ := hrel
    by_cases c1 : i < S.length
    · have c1a : decide (i < S.length) = true := decide_eq_true c1
      have c1b : decide ((i : Int) < (S.length : Int)) = true := decide_eq_true (by omega)
      have I1 := ak c1
      have p0 : 0 ≤ (i : Int) := by omega
      have q0 : (i : Int) < (S.length : Int) := by omega
      have hw1 : Go.RowKit.wrap64 ((i : Int) + 1) = ((i + 1 : Nat) : Int) := by have := TD.out.right.lenS; unfold Go.RowKit.wrap64; omega
      have FI := ak (TD.out.right.fine rfl i (by omega))
      have FN := ak (TD.out.right.fine rfl (i + 1) (by omega))
      have AI := ak (TD.out.ask rfl i c1)
      have EN := ak (show (editI (rd_T53 S (i : Int)) (stI S n E i)).2 = stI S n E (i + 1) from rfl)
      obtain ⟨ad, e1, l1, l2, l3, l4, l5, l6⟩ := at_T53 HS.out i c1
      cases e1
      have BW := ak N2.out.below
      replace l1 := (BW.out.cell (World.block_lt_of_cell? w _ l1)).trans l1
      replace l2 := (BW.out.cell (World.block_lt_of_cell? w _ l2)).trans l2
      replace l3 := (BW.out.cell (World.block_lt_of_cell? w _ l3)).trans l3
      replace l4 := (BW.out.cell (World.block_lt_of_cell? w _ l4)).trans l4
      replace l5 := (BW.out.cell (World.block_lt_of_cell? w _ l5)).trans l5
      replace l6 := (BW.out.cell (World.block_lt_of_cell? w _ l6)).trans l6
      obtain ⟨s2, es⟩ : ∃ x, x = stI S n E i := ⟨_, rfl⟩
      obtain ⟨s3, es3⟩ : ∃ x, x = stI S n E (i + 1) := ⟨_, rfl⟩
      obtain ⟨sm, esm⟩ : ∃ x, x = stI S n E m := ⟨_, rfl⟩
      obtain ⟨o, eo⟩ : ∃ x, x = rd_T53 S (i : Int) := ⟨_, rfl⟩
      have ES3 := ak es3
      have ES2 := ak es
      have ESM := ak esm
      rw [← es, ← es3, ← eo] at EN
      rw [← es] at FI N2 BG DC AI
      rw [← eo] at AI
      rw [← es, ← esm] at OL
      rw [← esm] at BB
      rw [← es3] at FN
      rw [← eo] at l1 l2 l3 l4 l5 l6
      clear es es3 eo esm c1
      obtain ⟨n2, E2⟩ := s2
      obtain ⟨n3, E3⟩ := s3
      obtain ⟨nm, Em⟩ := sm
      dsimp only at N2 FI FN BG DC AI OL BB
      rcases Classical.em (o.kd = 7) with hk | hk
      · have d7 : (o.kd == 7) = true := beq_iff_eq.mpr hk
        go_wp2_with (first
          | ((with_reducible refine gate_dst (N := 12) rfl ?_); refine box_event ?hg (N := 12) ?hd (cs := #[.int .i64 0, .int .i64 0, .int .i64 0, .int .i64 0, .int .i64 0, .int .i64 0]) (t := 53) ?hr ?_; (case hd => rfl); (case hg => rfl); (case hr => first | (go_simp; done) | (go_simp; rfl)); intro g12 hg w10 bk hb; have N3 := ak (N2.out.later hb); have G12 := ak (show w.heap.size ≤ g12 by rw [hg]; exact below_size N2.out.below); have NG12 := ak (show gg ≠ g12 by rw [hg]; exact Nat.ne_of_lt (blk_lt BG.out)); have NB12 := ak (show gb ≠ g12 by rw [hg]; exact Nat.ne_of_lt (blk_lt BB.out)); have BG3 := ak (blk_below BG.out hb); have BB3 := ak (blk_below BB.out hb); have DC3 := ak (DC.out.below hb); have OL3 := ak (OL.out.below hb); have BK := ak bk; clear hb bk hg; have u0 := bc0 BK; have u1 := bc1 BK; have u2 := bc2 BK; have u3 := bc3 BK; have u4 := bc4 BK; have u5 := bc5 BK; have x0 := bf BK 0; have x1 := bf BK 1; have x2 := bf BK 2; have x3 := bf BK 3; have x4 := bf BK 4; have x5 := bf BK 5)
          | ((with_reducible refine gate_store (t := 53) (p := 12) rfl ?_); refine store_event (t := 53) (p := 12) (v := ?v12) (w1 := (((((w10.setCell ⟨g12, 0, none⟩ (.int .i64 o.kd)).setCell ⟨g12, 1, none⟩ (.int .i64 o.pos)).setCell ⟨g12, 2, none⟩ (.int .i64 o.e.f0)).setCell ⟨g12, 3, none⟩ (.int .i64 o.e.f1)).setCell ⟨g12, 4, none⟩ (.int .i64 o.e.f2)).setCell ⟨g12, 5, none⟩ (.int .i64 o.e.f3)) ?hg ?ho ?hn ?hr ?_; (case ho => rfl); (case hg => rfl); (case hn => rfl); (case hr => first | (go_simp; done) | (go_simp; rfl)); intro w11 hw; have N4 := ak (show NS w q n2 (.slice A2 E2.length cp2) E2 w11 by rw [hw]; exact ((((((N3.out).put53 (BK.out) G12.out 0 _).put53 (blk_put (BK.out) 0 (.int .i64 o.kd) rfl) G12.out 1 _).put53 (blk_put (blk_put (BK.out) 0 (.int .i64 o.kd) rfl) 1 (.int .i64 o.pos) rfl) G12.out 2 _).put53 (blk_put (blk_put (blk_put (BK.out) 0 (.int .i64 o.kd) rfl) 1 (.int .i64 o.pos) rfl) 2 (.int .i64 o.e.f0) rfl) G12.out 3 _).put53 (blk_put (blk_put (blk_put (blk_put (BK.out) 0 (.int .i64 o.kd) rfl) 1 (.int .i64 o.pos) rfl) 2 (.int .i64 o.e.f0) rfl) 3 (.int .i64 o.e.f1) rfl) G12.out 4 _).put53 (blk_put (blk_put (blk_put (blk_put (blk_put (BK.out) 0 (.int .i64 o.kd) rfl) 1 (.int .i64 o.pos) rfl) 2 (.int .i64 o.e.f0) rfl) 3 (.int .i64 o.e.f1) rfl) 4 (.int .i64 o.e.f2) rfl) G12.out 5 _); have BG4 := ak (show w11.heap[gg]? = some (.cells #[.int .i64 n2, .slice Ad E2.length cd] 24 (0, 0)) by rw [hw]; exact blk_far (blk_far (blk_far (blk_far (blk_far (blk_far (BG3.out) NG12.out _) NG12.out _) NG12.out _) NG12.out _) NG12.out _) NG12.out _); have BB4 := ak (show w11.heap[gb]? = some (.cells #[.int .i64 nm, .slice Ab Em.length cb] 24 (0, 0)) by rw [hw]; exact blk_far (blk_far (blk_far (blk_far (blk_far (blk_far (BB3.out) NB12.out _) NB12.out _) NB12.out _) NB12.out _) NB12.out _) NB12.out _); have DC4 := ak (show Doc w w w11 q (.slice A2 E2.length cp2) Ad cd E2 by rw [hw]; exact ((((((DC3.out).put53 (BK.out) 0 _).put53 (blk_put (BK.out) 0 (.int .i64 o.kd) rfl) 1 _).put53 (blk_put (blk_put (BK.out) 0 (.int .i64 o.kd) rfl) 1 (.int .i64 o.pos) rfl) 2 _).put53 (blk_put (blk_put (blk_put (BK.out) 0 (.int .i64 o.kd) rfl) 1 (.int .i64 o.pos) rfl) 2 (.int .i64 o.e.f0) rfl) 3 _).put53 (blk_put (blk_put (blk_put (blk_put (BK.out) 0 (.int .i64 o.kd) rfl) 1 (.int .i64 o.pos) rfl) 2 (.int .i64 o.e.f0) rfl) 3 (.int .i64 o.e.f1) rfl) 4 _).put53 (blk_put (blk_put (blk_put (blk_put (blk_put (BK.out) 0 (.int .i64 o.kd) rfl) 1 (.int .i64 o.pos) rfl) 2 (.int .i64 o.e.f0) rfl) 3 (.int .i64 o.e.f1) rfl) 4 (.int .i64 o.e.f2) rfl) 5 _); have OL4 := ak (show Old w w w11 q (.slice A2 E2.length cp2) po Ab cb nm Em by rw [hw]; exact ((((((OL3.out).put53 (BK.out) 0 _).put53 (blk_put (BK.out) 0 (.int .i64 o.kd) rfl) 1 _).put53 (blk_put (blk_put (BK.out) 0 (.int .i64 o.kd) rfl) 1 (.int .i64 o.pos) rfl) 2 _).put53 (blk_put (blk_put (blk_put (BK.out) 0 (.int .i64 o.kd) rfl) 1 (.int .i64 o.pos) rfl) 2 (.int .i64 o.e.f0) rfl) 3 _).put53 (blk_put (blk_put (blk_put (blk_put (BK.out) 0 (.int .i64 o.kd) rfl) 1 (.int .i64 o.pos) rfl) 2 (.int .i64 o.e.f0) rfl) 3 (.int .i64 o.e.f1) rfl) 4 _).put53 (blk_put (blk_put (blk_put (blk_put (blk_put (BK.out) 0 (.int .i64 o.kd) rfl) 1 (.int .i64 o.pos) rfl) 2 (.int .i64 o.e.f0) rfl) 3 (.int .i64 o.e.f1) rfl) 4 (.int .i64 o.e.f2) rfl) 5 _); have BK4 := ak (show w11.heap[g12]? = some (.cells #[.int .i64 o.kd, .int .i64 o.pos, .int .i64 o.e.f0, .int .i64 o.e.f1, .int .i64 o.e.f2, .int .i64 o.e.f3] 53 (0, 0)) by rw [hw]; exact blk_put (blk_put (blk_put (blk_put (blk_put (blk_put (BK.out) 0 (.int .i64 o.kd) rfl) 1 (.int .i64 o.pos) rfl) 2 (.int .i64 o.e.f0) rfl) 3 (.int .i64 o.e.f1) rfl) 4 (.int .i64 o.e.f2) rfl) 5 (.int .i64 o.e.f3) rfl); clear hw; have v0 := bc0 BK4))
        have t0 := bc0 BB4
        have t1 := bc1 BB4
        have t2 := bf BB4 0
        have t3 := bf BB4 1
        go_region_held3 (fun w' => w'.cell? ⟨gg, 0, none⟩ = some (.int .i64 n2) ∧ w'.cell? ⟨gg, 1, none⟩ = some (.slice Ad E2.length cd)) (first | exact ⟨bc0 (ak (bx BG4.out)), bc1 (ak (bx BG4.out))⟩ | exact ⟨bc0 (ak (blk_far (blk_far (bx BG4.out) NGB.out _) NGB.out _)), bc1 (ak (blk_far (blk_far (bx BG4.out) NGB.out _) NGB.out _))⟩) (fail)
        have h3 := EN.out
        unfold editI at h3
        rw [if_neg (by omega), if_neg (by omega), if_neg (by omega), if_neg (by omega), if_neg (by omega)] at h3
        simp only [Prod.mk.injEq] at h3
        obtain ⟨rfl, rfl⟩ := h3
        have CL := ak (show slices_Clone.f k E2 = some E2 by unfold slices_Clone.f; rw [if_pos (Nat.lt_of_le_of_lt FI.out.len (by decide))])
        have N5 := ak (((N4.out.put24 BB4.out GB.out 0 (.int .i64 n2)).put24 (blk_put BB4.out 0 _ rfl) GB.out 1 (.slice Ad E2.length cd)).later (below_drew (Below.refl _ _)))
        have BG5 := ak (blk_drew (blk_far (p := ⟨gb, 1, none⟩) (blk_far (p := ⟨gb, 0, none⟩) BG4.out NGB.out (.int .i64 n2)) NGB.out (.slice Ad E2.length cd)))
        have BB5 := ak (blk_drew (blk_put (blk_put BB4.out 0 (.int .i64 n2) rfl) 1 (.slice Ad E2.length cd) rfl))
        have DC5 := ak (((DC4.out.put BB4.out 0 (.int .i64 n2)).put (blk_put BB4.out 0 _ rfl) 1 (.slice Ad E2.length cd)).below (below_drew (Below.refl _ _)))
        generalize ((w11.setCell ⟨gb, 0, none⟩ (.int .i64 n2)).setCell ⟨gb, 1, none⟩ (.slice Ad E2.length cd)).drew = w12 at N5 BG5 BB5 DC5 ⊢
        clear t0 t1 t2 t3 v0 N2 N3 N4 BG3 BG4 BB3 BB4 DC3 DC4 OL3 OL4 BK BK4 OL DC BG BB u0 u1 u2 u3 u4 u5 x0 x1 x2 x3 x4 x5
        go_wp2_with (first
          | (go_at_call 27; (with_reducible refine (Net_Fork.calls k w q n2 A2 cp2 E2 _ N5.out CL.out).mono ?_); rintro e w13 ⟨q2, A3, cp3, rfl, nq⟩; have N6 := ak (nq.lower N5.out.below); have BG6 := ak (blk_below BG5.out nq.below); have BB6 := ak (blk_below BB5.out nq.below); have DC6 := ak (DC5.out.fork nq); have OL6 := ak (Old.fork DC5.out N5.out nq); clear nq))
        go_roundg (S.length - (i + 1))
        case measure => have := HK.out; have := I1.out; omega
        case rel => exact ⟨i + 1, q2, q, i, A3, cp3, Ad, cd, Ad, cd, by first | (rw [hw1]; done) | (simp only [i64_w, hw1]; done) | (go_num; done) | (go_num; rw [hw1]; done), rfl, rfl, ⟨by have := HK.out; have := I1.out; omega⟩, ⟨by omega⟩, by rw [← ES3.out]; exact N6, by rw [← ES3.out]; exact BG6, by rw [← ES2.out]; exact BB6, by rw [← ES3.out]; exact DC6, by rw [← ES3.out, ← ES2.out]; exact OL6⟩
      · have d7 : (o.kd == 7) = false := beq_eq_false_iff_ne.mpr hk
        go_wp2_with (first
          | ((with_reducible refine gate_dst (N := 12) rfl ?_); refine box_event ?hg (N := 12) ?hd (cs := #[.int .i64 0, .int .i64 0, .int .i64 0, .int .i64 0, .int .i64 0, .int .i64 0]) (t := 53) ?hr ?_; (case hd => rfl); (case hg => rfl); (case hr => first | (go_simp; done) | (go_simp; rfl)); intro g12 hg w10 bk hb; have N3 := ak (N2.out.later hb); have G12 := ak (show w.heap.size ≤ g12 by rw [hg]; exact below_size N2.out.below); have NG12 := ak (show gg ≠ g12 by rw [hg]; exact Nat.ne_of_lt (blk_lt BG.out)); have NB12 := ak (show gb ≠ g12 by rw [hg]; exact Nat.ne_of_lt (blk_lt BB.out)); have BG3 := ak (blk_below BG.out hb); have BB3 := ak (blk_below BB.out hb); have DC3 := ak (DC.out.below hb); have OL3 := ak (OL.out.below hb); have BK := ak bk; clear hb bk hg; have u0 := bc0 BK; have u1 := bc1 BK; have u2 := bc2 BK; have u3 := bc3 BK; have u4 := bc4 BK; have u5 := bc5 BK; have x0 := bf BK 0; have x1 := bf BK 1; have x2 := bf BK 2; have x3 := bf BK 3; have x4 := bf BK 4; have x5 := bf BK 5)
          | ((with_reducible refine gate_store (t := 53) (p := 12) rfl ?_); refine store_event (t := 53) (p := 12) (v := ?v12b) (w1 := (((((w10.setCell ⟨g12, 0, none⟩ (.int .i64 o.kd)).setCell ⟨g12, 1, none⟩ (.int .i64 o.pos)).setCell ⟨g12, 2, none⟩ (.int .i64 o.e.f0)).setCell ⟨g12, 3, none⟩ (.int .i64 o.e.f1)).setCell ⟨g12, 4, none⟩ (.int .i64 o.e.f2)).setCell ⟨g12, 5, none⟩ (.int .i64 o.e.f3)) ?hg ?ho ?hn ?hr ?_; (case ho => rfl); (case hg => rfl); (case hn => rfl); (case hr => first | (go_simp; done) | (go_simp; rfl)); intro w11 hw; have N4 := ak (show NS w q n2 (.slice A2 E2.length cp2) E2 w11 by rw [hw]; exact ((((((N3.out).put53 (BK.out) G12.out 0 _).put53 (blk_put (BK.out) 0 (.int .i64 o.kd) rfl) G12.out 1 _).put53 (blk_put (blk_put (BK.out) 0 (.int .i64 o.kd) rfl) 1 (.int .i64 o.pos) rfl) G12.out 2 _).put53 (blk_put (blk_put (blk_put (BK.out) 0 (.int .i64 o.kd) rfl) 1 (.int .i64 o.pos) rfl) 2 (.int .i64 o.e.f0) rfl) G12.out 3 _).put53 (blk_put (blk_put (blk_put (blk_put (BK.out) 0 (.int .i64 o.kd) rfl) 1 (.int .i64 o.pos) rfl) 2 (.int .i64 o.e.f0) rfl) 3 (.int .i64 o.e.f1) rfl) G12.out 4 _).put53 (blk_put (blk_put (blk_put (blk_put (blk_put (BK.out) 0 (.int .i64 o.kd) rfl) 1 (.int .i64 o.pos) rfl) 2 (.int .i64 o.e.f0) rfl) 3 (.int .i64 o.e.f1) rfl) 4 (.int .i64 o.e.f2) rfl) G12.out 5 _); have BG4 := ak (show w11.heap[gg]? = some (.cells #[.int .i64 n2, .slice Ad E2.length cd] 24 (0, 0)) by rw [hw]; exact blk_far (blk_far (blk_far (blk_far (blk_far (blk_far (BG3.out) NG12.out _) NG12.out _) NG12.out _) NG12.out _) NG12.out _) NG12.out _); have BB4 := ak (show w11.heap[gb]? = some (.cells #[.int .i64 nm, .slice Ab Em.length cb] 24 (0, 0)) by rw [hw]; exact blk_far (blk_far (blk_far (blk_far (blk_far (blk_far (BB3.out) NB12.out _) NB12.out _) NB12.out _) NB12.out _) NB12.out _) NB12.out _); have DC4 := ak (show Doc w w w11 q (.slice A2 E2.length cp2) Ad cd E2 by rw [hw]; exact ((((((DC3.out).put53 (BK.out) 0 _).put53 (blk_put (BK.out) 0 (.int .i64 o.kd) rfl) 1 _).put53 (blk_put (blk_put (BK.out) 0 (.int .i64 o.kd) rfl) 1 (.int .i64 o.pos) rfl) 2 _).put53 (blk_put (blk_put (blk_put (BK.out) 0 (.int .i64 o.kd) rfl) 1 (.int .i64 o.pos) rfl) 2 (.int .i64 o.e.f0) rfl) 3 _).put53 (blk_put (blk_put (blk_put (blk_put (BK.out) 0 (.int .i64 o.kd) rfl) 1 (.int .i64 o.pos) rfl) 2 (.int .i64 o.e.f0) rfl) 3 (.int .i64 o.e.f1) rfl) 4 _).put53 (blk_put (blk_put (blk_put (blk_put (blk_put (BK.out) 0 (.int .i64 o.kd) rfl) 1 (.int .i64 o.pos) rfl) 2 (.int .i64 o.e.f0) rfl) 3 (.int .i64 o.e.f1) rfl) 4 (.int .i64 o.e.f2) rfl) 5 _); have OL4 := ak (show Old w w w11 q (.slice A2 E2.length cp2) po Ab cb nm Em by rw [hw]; exact ((((((OL3.out).put53 (BK.out) 0 _).put53 (blk_put (BK.out) 0 (.int .i64 o.kd) rfl) 1 _).put53 (blk_put (blk_put (BK.out) 0 (.int .i64 o.kd) rfl) 1 (.int .i64 o.pos) rfl) 2 _).put53 (blk_put (blk_put (blk_put (BK.out) 0 (.int .i64 o.kd) rfl) 1 (.int .i64 o.pos) rfl) 2 (.int .i64 o.e.f0) rfl) 3 _).put53 (blk_put (blk_put (blk_put (blk_put (BK.out) 0 (.int .i64 o.kd) rfl) 1 (.int .i64 o.pos) rfl) 2 (.int .i64 o.e.f0) rfl) 3 (.int .i64 o.e.f1) rfl) 4 _).put53 (blk_put (blk_put (blk_put (blk_put (blk_put (BK.out) 0 (.int .i64 o.kd) rfl) 1 (.int .i64 o.pos) rfl) 2 (.int .i64 o.e.f0) rfl) 3 (.int .i64 o.e.f1) rfl) 4 (.int .i64 o.e.f2) rfl) 5 _); have BK4 := ak (show w11.heap[g12]? = some (.cells #[.int .i64 o.kd, .int .i64 o.pos, .int .i64 o.e.f0, .int .i64 o.e.f1, .int .i64 o.e.f2, .int .i64 o.e.f3] 53 (0, 0)) by rw [hw]; exact blk_put (blk_put (blk_put (blk_put (blk_put (blk_put (BK.out) 0 (.int .i64 o.kd) rfl) 1 (.int .i64 o.pos) rfl) 2 (.int .i64 o.e.f0) rfl) 3 (.int .i64 o.e.f1) rfl) 4 (.int .i64 o.e.f2) rfl) 5 (.int .i64 o.e.f3) rfl); clear hw; have v0 := bc0 BK4; have v1 := bc1 BK4; have v2 := bc2 BK4; have v3 := bc3 BK4; have v4 := bc4 BK4; have v5 := bc5 BK4; have v6 := bc0 BG4; have v7 := bc1 BG4)
          | (go_at_call 28; (with_reducible refine (step.calls k w q n2 A2 cp2 E2 Ad cd o n3 E3 _ N4.out (DC4.out.reads N4.out.below) DC4.out.cap FI.out AI.out EN.out).mono ?_); rintro e w13 ⟨A', c', A3, cp3, rfl, st⟩; have DC5 := ak (DC4.out.step (below_size N4.out.below) st); have OL5 := ak (OL4.out.keep st.2.1 st.2.2.1); have BG5 := ak (Did.blk (v := .slice A2 E2.length cp2) st.2.1 BG4.out (fun e => by subst e; have q := N4.out.bp.symm.trans BG4.out; simp at q) (Kd.R_ne N4.out.row BG4.out (by decide))); have BB5 := ak (Did.blk (v := .slice A2 E2.length cp2) st.2.1 BB4.out (fun e => by subst e; have q := N4.out.bp.symm.trans BB4.out; simp at q) (Kd.R_ne N4.out.row BB4.out (by decide))); have N5 := ak st.1; clear st)
          | ((with_reducible refine gate_dst (N := 13) rfl ?_); refine box_event ?hg (N := 13) ?hd (cs := #[.int .i64 0, .slice none 0 0]) (t := 24) ?hr ?_; (case hd => rfl); (case hg => rfl); (case hr => first | (go_simp; done) | (go_simp; rfl)); intro g13 hg w14 bk hb; have G13 := ak (show w.heap.size ≤ g13 by rw [hg]; exact below_size N5.out.below); have N6 := ak (N5.out.later hb); have NG13 := ak (show gg ≠ g13 by rw [hg]; exact Nat.ne_of_lt (blk_lt BG5.out)); have NB13 := ak (show gb ≠ g13 by rw [hg]; exact Nat.ne_of_lt (blk_lt BB5.out)); have BG6 := ak (blk_below BG5.out hb); have BB6 := ak (blk_below BB5.out hb); have DC6 := ak (DC5.out.below hb); have OL6 := ak (OL5.out.below hb); have B13 := ak bk; clear hb bk hg; have y0 := bc0 B13; have y1 := bc1 B13; have y2 := bf B13 0; have y3 := bf B13 1)
          | ((with_reducible refine gate_store (t := 24) (p := 13) rfl ?_); refine store_event (t := 24) (p := 13) (v := ?v13) (w1 := (w14.setCell ⟨g13, 0, none⟩ (.int .i64 n3)).setCell ⟨g13, 1, none⟩ (.slice A' E3.length c')) ?hg ?ho ?hn ?hr ?_; (case ho => rfl); (case hg => rfl); (case hn => rfl); (case hr => first | (go_simp; done) | (go_simp; rfl)); intro w15 hw; have N7 := ak (show NS w q n3 (.slice A3 E3.length cp3) E3 w15 by rw [hw]; exact (N6.out.put24 B13.out G13.out 0 _).put24 (blk_put B13.out 0 _ rfl) G13.out 1 _); have BG7 := ak (show w15.heap[gg]? = some (.cells #[.int .i64 n2, .slice Ad E2.length cd] 24 (0, 0)) by rw [hw]; exact blk_far (blk_far BG6.out NG13.out _) NG13.out _); have BB7 := ak (show w15.heap[gb]? = some (.cells #[.int .i64 nm, .slice Ab Em.length cb] 24 (0, 0)) by rw [hw]; exact blk_far (blk_far BB6.out NB13.out _) NB13.out _); have B137 := ak (show w15.heap[g13]? = some (.cells #[.int .i64 n3, .slice A' E3.length c'] 24 (0, 0)) by rw [hw]; exact blk_put (blk_put B13.out 0 _ rfl) 1 _ rfl); have DC7 := ak (show Doc w w w15 q (.slice A3 E3.length cp3) A' c' E3 by rw [hw]; exact (DC6.out.put B13.out 0 _).put (blk_put B13.out 0 _ rfl) 1 _); have OL7 := ak (show Old w w w15 q (.slice A3 E3.length cp3) po Ab cb nm Em by rw [hw]; exact (OL6.out.put B13.out 0 _).put (blk_put B13.out 0 _ rfl) 1 _); clear hw))
        have ND := ak (N7.out.later (below_drew (Below.refl _ _)))
        clear v0 v1 v2 v3 v4 v5 v6 v7 u0 u1 u2 u3 u4 u5 x0 x1 x2 x3 x4 x5 y0 y1 y2 y3
        go_region_held3 (fun w' => w'.cell? ⟨g13, 0, none⟩ = some (.int .i64 n3) ∧ w'.cell? ⟨g13, 1, none⟩ = some (.slice A' E3.length c') ∧ w'.cell? ⟨q, 0, none⟩ = some (.int .i64 n3) ∧ w'.cell? ⟨q, 1, none⟩ = some (.slice A3 E3.length cp3)) (exact ⟨bc0 (ak (bx B137.out)), bc1 (ak (bx B137.out)), ND.out.c0, ND.out.c1⟩) (first
          | (go_at_call 20; (with_reducible refine (shape_Nodes.calls q n3 _ ND.out.c0).mono ?_); rintro e w16 ⟨rfl, hh⟩; rw [hh]; clear hh w16)
          | (go_at_call 21; (with_reducible refine (shape_Edges.calls q A3 E3.length cp3 _ ND.out.c1).mono ?_); rintro e w16 ⟨rfl, hh⟩; rw [hh]; clear hh w16))
        have BGd := ak (blk_drew BG7.out)
        have BBd := ak (blk_drew BB7.out)
        have DCd := ak (DC7.out.below (below_drew (Below.refl _ _)))
        have OLd := ak (OL7.out.below (below_drew (Below.refl _ _)))
        have B13d := ak (blk_drew B137.out)
        clear BG7 BB7 DC7 OL7 B137 N7
        generalize w15.drew = w17 at ND BGd BBd DCd OLd B13d ⊢
        have t0 := bc0 B13d
        have t1 := bc1 B13d
        have t2 := bc0 BGd
        have t3 := bc1 BGd
        have t4 := bf BGd 0
        have t5 := bf BGd 1
        go_wp2_with (first
          | ((with_reducible refine gate_store (t := 24) (p := 2) rfl ?_); refine store_event (t := 24) (p := 2) (v := ?v2z) (w1 := (w17.setCell ⟨gg, 0, none⟩ (.int .i64 n3)).setCell ⟨gg, 1, none⟩ (.slice A' E3.length c')) ?hg ?ho ?hn ?hr ?_; (case ho => rfl); (case hg => rfl); (case hn => rfl); (case hr => first | (go_simp; done) | (go_simp; rfl)); intro w18 hw; have N8 := ak (show NS w q n3 (.slice A3 E3.length cp3) E3 w18 by rw [hw]; exact (ND.out.put24 BGd.out GG.out 0 _).put24 (blk_put BGd.out 0 _ rfl) GG.out 1 _); have BG8 := ak (show w18.heap[gg]? = some (.cells #[.int .i64 n3, .slice A' E3.length c'] 24 (0, 0)) by rw [hw]; exact blk_put (blk_put BGd.out 0 _ rfl) 1 _ rfl); have BB8 := ak (show w18.heap[gb]? = some (.cells #[.int .i64 nm, .slice Ab Em.length cb] 24 (0, 0)) by rw [hw]; exact blk_far (blk_far BBd.out (fun e => NGB.out e.symm) _) (fun e => NGB.out e.symm) _); have DC8 := ak (show Doc w w w18 q (.slice A3 E3.length cp3) A' c' E3 by rw [hw]; exact (DCd.out.put BGd.out 0 _).put (blk_put BGd.out 0 _ rfl) 1 _); have OL8 := ak (show Old w w w18 q (.slice A3 E3.length cp3) po Ab cb nm Em by rw [hw]; exact (OLd.out.put BGd.out 0 _).put (blk_put BGd.out 0 _ rfl) 1 _); clear hw))
        go_roundg (S.length - (i + 1))
        case measure => have := HK.out; have := I1.out; omega
        case rel => exact ⟨i + 1, q, po, m, A3, cp3, A', c', Ab, cb, by first | (rw [hw1]; done) | (simp only [i64_w, hw1]; done) | (go_num; done) | (go_num; rw [hw1]; done), rfl, rfl, ⟨by have := HK.out; have := I1.out; omega⟩, ⟨by have := HM.out; omega⟩, by rw [← ES3.out]; exact N8, by rw [← ES3.out]; exact BG8, by rw [← ESM.out]; exact BB8, by rw [← ES3.out]; exact DC8, by rw [← ES3.out, ← ESM.out]; exact OL8⟩
    · have c1a : decide (i < S.length) = false := decide_eq_false c1
      have c1b : decide ((i : Int) < (S.length : Int)) = false := decide_eq_false (by omega)
      have ei : i = S.length := by have := HK.out; omega
      have FI := ak (TD.out.right.fine rfl i (by omega))
      have FM := ak (TD.out.right.fine rfl m (by have := HM.out; omega))
      clear c1 ei
      obtain ⟨s2, es⟩ : ∃ x, x = stI S n E i := ⟨_, rfl⟩
      obtain ⟨sm, esm⟩ : ∃ x, x = stI S n E m := ⟨_, rfl⟩
      rw [← es] at FI N2 BG DC OL
      rw [← esm] at OL FM BB
      clear es esm
      obtain ⟨n2, E2⟩ := s2
      obtain ⟨nm, Em⟩ := sm
      dsimp only at N2 FI FM BG DC OL BB
      have HBx := ak N2.out.below
      have DM := ak OL.out.doc
      rcases OL.out.old with rfl | ⟨Ao, co, bo, n1, n2', ro⟩
      · obtain ⟨j44, hj⟩ := Option.isSome_iff_exists.1 (show (Try.prog.info? 44).isSome = true by kernel_rfl)
        have pe : ∀ w' : World, (binOp .eql 32 (.pointer (some ⟨po, 0, none⟩)) (.pointer (some ⟨po, 0, none⟩))).run Try.prog w' = .ok (.bool true) w' := fun w' => run_eql_ptr_same w' _ Try.underlying32 hj
        clear hj
        go_wp2
        --END
        have LB0 := ak (below_drew (Below.refl wr.heap.size wr))
        refine start_ (n := 20) (S := fun w' => w'.cell? ⟨gg, 0, none⟩ = some (.int .i64 n2) ∧ w'.cell? ⟨gg, 1, none⟩ = some (.slice Ad E2.length cd) ∧ w'.cell? ⟨gb, 0, none⟩ = some (.int .i64 nm) ∧ w'.cell? ⟨gb, 1, none⟩ = some (.slice Ab Em.length cb)) (ds := []) #[false, false, false, false, false, false, false, false, false, false, false, false, false, false, false, false, false, false, false, false] (by kernel_rfl) rfl rfl ⟨bc0 (ak (blk_below BG.out LB0.out)), bc1 (ak (blk_below BG.out LB0.out)), bc0 (ak (blk_below BB.out LB0.out)), bc1 (ak (blk_below BB.out LB0.out))⟩ (fun hHeld => ?_)
        refine with_tabW compasslaw03_GraphPlays.T21 compasslaw03_GraphPlays.B21w (fun HT_ HW_ => ?_)
        generalize wr.drew = w20 at LB0 hHeld ⊢
        refine pure_ (i := 0) (N := some 78) (v := ?_) (a' := ?_) #[true, false, false, false, false, false, false, false, false, false, false, false, false, false, false, false, false, false, false, false] rfl rfl (any_of HT_.out (by kernel_rfl)) (fun _ _ _ h => h) (Or.inl ⟨by rfl, ?_⟩) ?_ ?_; rotate_left; intro w'; go_simp; with_reducible rfl; rotate_left; simp only [Act.put, List.setIfInBounds_toArray, List.set_cons_zero, List.set_cons_succ, i64_w, i32_w]; rfl
        refine pure_ (i := 1) (N := some 79) (v := ?_) (a' := ?_) #[true, true, false, false, false, false, false, false, false, false, false, false, false, false, false, false, false, false, false, false] rfl rfl (any_of HT_.out (by kernel_rfl)) (fun _ _ _ h => h) (Or.inl ⟨by rfl, ?_⟩) ?_ ?_; rotate_left; intro w'; go_simp; with_reducible rfl; rotate_left; simp only [Act.put, List.setIfInBounds_toArray, List.set_cons_zero, List.set_cons_succ, i64_w, i32_w]; rfl
        refine pure_ (i := 2) (N := some 80) (v := ?_) (a' := ?_) #[true, true, true, false, false, false, false, false, false, false, false, false, false, false, false, false, false, false, false, false] rfl rfl (any_of HT_.out (by kernel_rfl)) (fun _ _ _ h => h) (Or.inl ⟨by rfl, ?_⟩) ?_ ?_; rotate_left; intro w'; go_simp; with_reducible rfl; rotate_left; simp only [Act.put, List.setIfInBounds_toArray, List.set_cons_zero, List.set_cons_succ, i64_w, i32_w]; rfl
        refine take_ (i := 4) (N := some 82) (v := ?_) (a' := ?_) #[true, true, true, false, true, false, false, false, false, false, false, false, false, false, false, false, false, false, false, false] rfl rfl (take_ofW HT_.out HW_.out (by kernel_rfl)) (fun _ _ _ h => h) (Or.inl ⟨by rfl, ?_⟩) hHeld ?_ ?_; rotate_left; rintro w' ⟨s0, s1, s2, s3⟩; go_simp; with_reducible rfl; rotate_left; simp only [Act.put, List.setIfInBounds_toArray, List.set_cons_zero, List.set_cons_succ, i64_w, i32_w]; rfl
        refine one_ (i := 3) (N := some 81) #[true, true, true, true, true, false, false, false, false, false, false, false, false, false, false, false, false, false, false, false] rfl rfl (one_of HT_.out (by kernel_rfl)) (by decide) (fun K hK => ?_)
        refine goes_ Try.func16 (by kernel_rfl) rfl #[.pointer (some ⟨po, 0, none⟩)] (by rfl) rfl rfl (by (try simp only [List.map_toArray, List.map_cons, List.map_nil]); first | done | rfl) ?_
        refine (shape_Plain.calls k po n2 A2 cp2 E2 _ (N2.out.later LB0.out).bp (Kd.R_reads' (N2.out.later LB0.out).row).2.2 (Kd.R_reads' N2.out.row).2.1 (Nat.lt_of_le_of_lt FI.out.len (by decide))).mono ?_
        rintro e w21 ⟨vn, rfl, rn, hb⟩; obtain ⟨Am, cm, em⟩ := Kd.R_slice rn; subst em; have RM := ak rn; have LB1 := ak (below_step LB0.out hb); clear hb rn
        refine ⟨_, rfl, ?_⟩
        refine hK.out _ _ ⟨bc0 (ak (blk_below BG.out LB1.out)), bc1 (ak (blk_below BG.out LB1.out)), bc0 (ak (blk_below BB.out LB1.out)), bc1 (ak (blk_below BB.out LB1.out))⟩ (fun hHeld => ?_)
        clear hK K
        refine norm_ (a' := ?_) ?_ ?_
        rotate_left
        ·
         show Act.put _ (some 81) _ = _
         simp only [Act.put, List.setIfInBounds_toArray, List.set_cons_zero, List.set_cons_succ, i64_w, i32_w]
         rfl
        refine one_ (i := 5) (N := some 83) #[true, true, true, true, true, true, false, false, false, false, false, false, false, false, false, false, false, false, false, false] rfl rfl (one_of HT_.out (by kernel_rfl)) (by decide) (fun K hK => ?_)
        refine goes_ Try.func12 (by kernel_rfl) rfl #[.agg #[.int .i64 n2, .slice Am E2.length cm], .agg #[.int .i64 n2, .slice Ad E2.length cd]] (by rfl) rfl rfl (by (try simp only [List.map_toArray, List.map_cons, List.map_nil]); first | done | rfl) ?_
        refine (compassref03_Same.calls k n2 _ _ E2 n2 _ _ E2 true _ (Kd.R_reads' RM.out).2.2 (Kd.R_reads' RM.out).2.1 (Kd.C_below (DC.out.reads HBx.out) LB1.out) DC.out.cap FI.out.same).mono ?_
        rintro e w22 ⟨rfl, hb⟩; have LB2 := ak (below_step LB1.out hb); clear hb
        refine ⟨_, rfl, ?_⟩
        refine hK.out _ _ ⟨bc0 (ak (blk_below BG.out LB2.out)), bc1 (ak (blk_below BG.out LB2.out)), bc0 (ak (blk_below BB.out LB2.out)), bc1 (ak (blk_below BB.out LB2.out))⟩ (fun hHeld => ?_)
        clear hK K
        refine norm_ (a' := ?_) ?_ ?_
        rotate_left
        ·
         show Act.put _ (some 83) _ = _
         simp only [Act.put, List.setIfInBounds_toArray, List.set_cons_zero, List.set_cons_succ, i64_w, i32_w]
         rfl
        refine pure_ (i := 6) (N := some 84) (v := ?_) (a' := ?_) #[true, true, true, true, true, true, true, false, false, false, false, false, false, false, false, false, false, false, false, false] rfl rfl (any_of HT_.out (by kernel_rfl)) (fun _ _ _ h => h) (Or.inl ⟨by rfl, ?_⟩) ?_ ?_; rotate_left; intro w'; go_simp; with_reducible rfl; rotate_left; simp only [Act.put, List.setIfInBounds_toArray, List.set_cons_zero, List.set_cons_succ, i64_w, i32_w]; rfl
        refine pure_ (i := 7) (N := some 85) (v := ?_) (a' := ?_) #[true, true, true, true, true, true, true, true, false, false, false, false, false, false, false, false, false, false, false, false] rfl rfl (any_of HT_.out (by kernel_rfl)) (fun _ _ _ h => h) (Or.inl ⟨by rfl, ?_⟩) ?_ ?_; rotate_left; intro w'; go_simp; with_reducible rfl; rotate_left; simp only [Act.put, List.setIfInBounds_toArray, List.set_cons_zero, List.set_cons_succ, i64_w, i32_w]; rfl
        refine pure_ (i := 8) (N := some 86) (v := ?_) (a' := ?_) #[true, true, true, true, true, true, true, true, true, false, false, false, false, false, false, false, false, false, false, false] rfl rfl (any_of HT_.out (by kernel_rfl)) (fun _ _ _ h => h) (Or.inl ⟨by rfl, ?_⟩) ?_ ?_; rotate_left; intro w'; go_simp; with_reducible rfl; rotate_left; simp only [Act.put, List.setIfInBounds_toArray, List.set_cons_zero, List.set_cons_succ, i64_w, i32_w]; rfl
        refine pure_ (i := 9) (N := some 87) (v := ?_) (a' := ?_) #[true, true, true, true, true, true, true, true, true, true, false, false, false, false, false, false, false, false, false, false] rfl rfl (any_of HT_.out (by kernel_rfl)) (fun _ _ _ h => h) (Or.inl ⟨by rfl, ?_⟩) ?_ ?_; rotate_left; intro w'; refine eqptr_run (t := 32) (yt := 32) (x := .tmp 85) (y := .tmp 86) ?_ ?_ ?_ (pe w') <;> rfl; rotate_left; simp only [Act.put, List.setIfInBounds_toArray, List.set_cons_zero, List.set_cons_succ, i64_w, i32_w]; rfl
        refine pure_ (i := 10) (N := some 88) (v := ?_) (a' := ?_) #[true, true, true, true, true, true, true, true, true, true, true, false, false, false, false, false, false, false, false, false] rfl rfl (any_of HT_.out (by kernel_rfl)) (fun _ _ _ h => h) (Or.inl ⟨by rfl, ?_⟩) ?_ ?_; rotate_left; intro w'; go_simp; with_reducible rfl; rotate_left; simp only [Act.put, List.setIfInBounds_toArray, List.set_cons_zero, List.set_cons_succ, i64_w, i32_w]; rfl
        refine pure_ (i := 11) (N := some 89) (v := undef) (a' := ?_) #[true, true, true, true, true, true, true, true, true, true, true, true, false, false, false, false, false, false, false, false] rfl rfl (any_of HT_.out (by kernel_rfl)) (fun _ _ _ h => h) (Or.inr ⟨by rfl, rfl⟩) ?_ ?_; rotate_left; simp only [Act.put, List.setIfInBounds_toArray, List.set_cons_zero, List.set_cons_succ, i64_w, i32_w]; rfl
        refine pure_ (i := 12) (N := some 90) (v := undef) (a' := ?_) #[true, true, true, true, true, true, true, true, true, true, true, true, true, false, false, false, false, false, false, false] rfl rfl (any_of HT_.out (by kernel_rfl)) (fun _ _ _ h => h) (Or.inr ⟨by rfl, rfl⟩) ?_ ?_; rotate_left; simp only [Act.put, List.setIfInBounds_toArray, List.set_cons_zero, List.set_cons_succ, i64_w, i32_w]; rfl
        refine pure_ (i := 13) (N := some 91) (v := undef) (a' := ?_) #[true, true, true, true, true, true, true, true, true, true, true, true, true, true, false, false, false, false, false, false] rfl rfl (any_of HT_.out (by kernel_rfl)) (fun _ _ _ h => h) (Or.inr ⟨by rfl, rfl⟩) ?_ ?_; rotate_left; simp only [Act.put, List.setIfInBounds_toArray, List.set_cons_zero, List.set_cons_succ, i64_w, i32_w]; rfl
        refine pure_ (i := 15) (N := some 93) (v := undef) (a' := ?_) #[true, true, true, true, true, true, true, true, true, true, true, true, true, true, false, true, false, false, false, false] rfl rfl (any_of HT_.out (by kernel_rfl)) (fun _ _ _ h => h) (Or.inr ⟨by rfl, rfl⟩) ?_ ?_; rotate_left; simp only [Act.put, List.setIfInBounds_toArray, List.set_cons_zero, List.set_cons_succ, i64_w, i32_w]; rfl
        refine one_ (i := 14) (N := some 92) #[true, true, true, true, true, true, true, true, true, true, true, true, true, true, true, true, false, false, false, false] rfl rfl (one_of HT_.out (by kernel_rfl)) (by decide) (fun K hK => ?_)
        refine off_ (by rfl) ?_
        refine hK.out _ _ hHeld (fun hHeld => ?_)
        clear hK K
        refine norm_ (a' := ?_) ?_ ?_
        rotate_left
        ·
         show Act.put _ (some 92) _ = _
         simp only [Act.put, List.setIfInBounds_toArray, List.set_cons_zero, List.set_cons_succ, i64_w, i32_w]
         rfl
        refine one_ (i := 16) (N := some 94) #[true, true, true, true, true, true, true, true, true, true, true, true, true, true, true, true, true, false, false, false] rfl rfl (one_of HT_.out (by kernel_rfl)) (by decide) (fun K hK => ?_)
        refine off_ (by rfl) ?_
        refine hK.out _ _ hHeld (fun hHeld => ?_)
        clear hK K
        refine norm_ (a' := ?_) ?_ ?_
        rotate_left
        ·
         show Act.put _ (some 94) _ = _
         simp only [Act.put, List.setIfInBounds_toArray, List.set_cons_zero, List.set_cons_succ, i64_w, i32_w]
         rfl
        refine pure_ (i := 17) (N := some 95) (v := ?_) (a' := ?_) #[true, true, true, true, true, true, true, true, true, true, true, true, true, true, true, true, true, true, false, false] rfl rfl (any_of HT_.out (by kernel_rfl)) (fun _ _ _ h => h) (Or.inl ⟨by rfl, ?_⟩) ?_ ?_; rotate_left; intro w'; go_simp; with_reducible rfl; rotate_left; simp only [Act.put, List.setIfInBounds_toArray, List.set_cons_zero, List.set_cons_succ, i64_w, i32_w]; rfl
        refine pure_ (i := 18) (N := some 96) (v := ?_) (a' := ?_) #[true, true, true, true, true, true, true, true, true, true, true, true, true, true, true, true, true, true, true, false] rfl rfl (any_of HT_.out (by kernel_rfl)) (fun _ _ _ h => h) (Or.inl ⟨by rfl, ?_⟩) ?_ ?_; rotate_left; intro w'; go_simp; with_reducible rfl; rotate_left; simp only [Act.put, List.setIfInBounds_toArray, List.set_cons_zero, List.set_cons_succ, i64_w, i32_w]; rfl
        refine pure_ (i := 19) (N := some 4) (v := ?_) (a' := ?_) #[true, true, true, true, true, true, true, true, true, true, true, true, true, true, true, true, true, true, true, true] rfl rfl (any_of HT_.out (by kernel_rfl)) (fun _ _ _ h => h) (Or.inl ⟨by rfl, ?_⟩) ?_ ?_; rotate_left; intro w'; go_simp; with_reducible rfl; rotate_left; simp only [Act.put, List.setIfInBounds_toArray, List.set_cons_zero, List.set_cons_succ, i64_w, i32_w]; rfl
        refine done_ (done_of HT_.out (by kernel_rfl)) ?_
        clear HT_ HW_ hHeld
        go_wp2
        go_ret
        exact ⟨rfl, below_step HBx.out LB2.out⟩
      · obtain ⟨j44, hj, hz⟩ : ∃ j, Try.prog.info? 44 = some j ∧ j.size ≠ 0 := by
          have h : ((Try.prog.info? 44).map (fun j => decide (j.size ≠ 0))) = some true := by kernel_rfl
          cases e : Try.prog.info? 44 with
          | none => rw [e] at h; cases h
          | some j => rw [e] at h; exact ⟨j, rfl, by simpa using h⟩
        have BO := ak bo
        have RO := ak ro
        clear bo ro n2'
        go_wp2
        have LB0 := ak (below_drew (Below.refl wr.heap.size wr))
        refine start_ (n := 20) (S := fun w' => w'.cell? ⟨gg, 0, none⟩ = some (.int .i64 n2) ∧ w'.cell? ⟨gg, 1, none⟩ = some (.slice Ad E2.length cd) ∧ w'.cell? ⟨gb, 0, none⟩ = some (.int .i64 nm) ∧ w'.cell? ⟨gb, 1, none⟩ = some (.slice Ab Em.length cb) ∧ w'.heap[po]? = some (.cells #[.int .i64 nm, .slice Ao Em.length co] 44 (0, 0)) ∧ w'.heap[q]? = some (.cells #[.int .i64 n2, .slice A2 E2.length cp2] 44 (0, 0))) (ds := []) #[false, false, false, false, false, false, false, false, false, false, false, false, false, false, false, false, false, false, false, false] (by kernel_rfl) rfl rfl ⟨bc0 (ak (blk_below BG.out LB0.out)), bc1 (ak (blk_below BG.out LB0.out)), bc0 (ak (blk_below BB.out LB0.out)), bc1 (ak (blk_below BB.out LB0.out)), blk_below BO.out LB0.out, blk_below N2.out.bp LB0.out⟩ (fun hHeld => ?_)
        refine with_tabW compasslaw03_GraphPlays.T21 compasslaw03_GraphPlays.B21w (fun HT_ HW_ => ?_)
        generalize wr.drew = w20 at LB0 hHeld ⊢
        refine pure_ (i := 0) (N := some 78) (v := ?_) (a' := ?_) #[true, false, false, false, false, false, false, false, false, false, false, false, false, false, false, false, false, false, false, false] rfl rfl (any_of HT_.out (by kernel_rfl)) (fun _ _ _ h => h) (Or.inl ⟨by rfl, ?_⟩) ?_ ?_; rotate_left; intro w'; go_simp; with_reducible rfl; rotate_left; simp only [Act.put, List.setIfInBounds_toArray, List.set_cons_zero, List.set_cons_succ, i64_w, i32_w]; rfl
        refine pure_ (i := 1) (N := some 79) (v := ?_) (a' := ?_) #[true, true, false, false, false, false, false, false, false, false, false, false, false, false, false, false, false, false, false, false] rfl rfl (any_of HT_.out (by kernel_rfl)) (fun _ _ _ h => h) (Or.inl ⟨by rfl, ?_⟩) ?_ ?_; rotate_left; intro w'; go_simp; with_reducible rfl; rotate_left; simp only [Act.put, List.setIfInBounds_toArray, List.set_cons_zero, List.set_cons_succ, i64_w, i32_w]; rfl
        refine pure_ (i := 2) (N := some 80) (v := ?_) (a' := ?_) #[true, true, true, false, false, false, false, false, false, false, false, false, false, false, false, false, false, false, false, false] rfl rfl (any_of HT_.out (by kernel_rfl)) (fun _ _ _ h => h) (Or.inl ⟨by rfl, ?_⟩) ?_ ?_; rotate_left; intro w'; go_simp; with_reducible rfl; rotate_left; simp only [Act.put, List.setIfInBounds_toArray, List.set_cons_zero, List.set_cons_succ, i64_w, i32_w]; rfl
        refine take_ (i := 4) (N := some 82) (v := ?_) (a' := ?_) #[true, true, true, false, true, false, false, false, false, false, false, false, false, false, false, false, false, false, false, false] rfl rfl (take_ofW HT_.out HW_.out (by kernel_rfl)) (fun _ _ _ h => h) (Or.inl ⟨by rfl, ?_⟩) hHeld ?_ ?_; rotate_left; rintro w' ⟨s0, s1, s2, s3, s4, s5⟩; go_simp; with_reducible rfl; rotate_left; simp only [Act.put, List.setIfInBounds_toArray, List.set_cons_zero, List.set_cons_succ, i64_w, i32_w]; rfl
        refine one_ (i := 3) (N := some 81) #[true, true, true, true, true, false, false, false, false, false, false, false, false, false, false, false, false, false, false, false] rfl rfl (one_of HT_.out (by kernel_rfl)) (by decide) (fun K hK => ?_)
        refine goes_ Try.func16 (by kernel_rfl) rfl #[.pointer (some ⟨q, 0, none⟩)] (by rfl) rfl rfl (by (try simp only [List.map_toArray, List.map_cons, List.map_nil]); first | done | rfl) ?_
        refine (shape_Plain.calls k q n2 A2 cp2 E2 _ (N2.out.later LB0.out).bp (Kd.R_reads' (N2.out.later LB0.out).row).2.2 (Kd.R_reads' N2.out.row).2.1 (Nat.lt_of_le_of_lt FI.out.len (by decide))).mono ?_
        rintro e w21 ⟨vn, rfl, rn, hb⟩; obtain ⟨Am, cm, em⟩ := Kd.R_slice rn; subst em; have RM := ak rn; have LB1 := ak (below_step LB0.out hb); clear hb rn
        refine ⟨_, rfl, ?_⟩
        refine hK.out _ _ ⟨bc0 (ak (blk_below BG.out LB1.out)), bc1 (ak (blk_below BG.out LB1.out)), bc0 (ak (blk_below BB.out LB1.out)), bc1 (ak (blk_below BB.out LB1.out)), blk_below BO.out LB1.out, blk_below N2.out.bp LB1.out⟩ (fun hHeld => ?_)
        clear hK K
        refine norm_ (a' := ?_) ?_ ?_
        rotate_left
        ·
         show Act.put _ (some 81) _ = _
         simp only [Act.put, List.setIfInBounds_toArray, List.set_cons_zero, List.set_cons_succ, i64_w, i32_w]
         rfl
        refine one_ (i := 5) (N := some 83) #[true, true, true, true, true, true, false, false, false, false, false, false, false, false, false, false, false, false, false, false] rfl rfl (one_of HT_.out (by kernel_rfl)) (by decide) (fun K hK => ?_)
        refine goes_ Try.func12 (by kernel_rfl) rfl #[.agg #[.int .i64 n2, .slice Am E2.length cm], .agg #[.int .i64 n2, .slice Ad E2.length cd]] (by rfl) rfl rfl (by (try simp only [List.map_toArray, List.map_cons, List.map_nil]); first | done | rfl) ?_
        refine (compassref03_Same.calls k n2 _ _ E2 n2 _ _ E2 true _ (Kd.R_reads' RM.out).2.2 (Kd.R_reads' RM.out).2.1 (Kd.C_below (DC.out.reads HBx.out) LB1.out) DC.out.cap FI.out.same).mono ?_
        rintro e w22 ⟨rfl, hb⟩; have LB2 := ak (below_step LB1.out hb); clear hb
        refine ⟨_, rfl, ?_⟩
        refine hK.out _ _ ⟨bc0 (ak (blk_below BG.out LB2.out)), bc1 (ak (blk_below BG.out LB2.out)), bc0 (ak (blk_below BB.out LB2.out)), bc1 (ak (blk_below BB.out LB2.out)), blk_below BO.out LB2.out, blk_below N2.out.bp LB2.out⟩ (fun hHeld => ?_)
        clear hK K
        refine norm_ (a' := ?_) ?_ ?_
        rotate_left
        ·
         show Act.put _ (some 83) _ = _
         simp only [Act.put, List.setIfInBounds_toArray, List.set_cons_zero, List.set_cons_succ, i64_w, i32_w]
         rfl
        refine pure_ (i := 6) (N := some 84) (v := ?_) (a' := ?_) #[true, true, true, true, true, true, true, false, false, false, false, false, false, false, false, false, false, false, false, false] rfl rfl (any_of HT_.out (by kernel_rfl)) (fun _ _ _ h => h) (Or.inl ⟨by rfl, ?_⟩) ?_ ?_; rotate_left; intro w'; go_simp; with_reducible rfl; rotate_left; simp only [Act.put, List.setIfInBounds_toArray, List.set_cons_zero, List.set_cons_succ, i64_w, i32_w]; rfl
        refine pure_ (i := 7) (N := some 85) (v := ?_) (a' := ?_) #[true, true, true, true, true, true, true, true, false, false, false, false, false, false, false, false, false, false, false, false] rfl rfl (any_of HT_.out (by kernel_rfl)) (fun _ _ _ h => h) (Or.inl ⟨by rfl, ?_⟩) ?_ ?_; rotate_left; intro w'; go_simp; with_reducible rfl; rotate_left; simp only [Act.put, List.setIfInBounds_toArray, List.set_cons_zero, List.set_cons_succ, i64_w, i32_w]; rfl
        refine pure_ (i := 8) (N := some 86) (v := ?_) (a' := ?_) #[true, true, true, true, true, true, true, true, true, false, false, false, false, false, false, false, false, false, false, false] rfl rfl (any_of HT_.out (by kernel_rfl)) (fun _ _ _ h => h) (Or.inl ⟨by rfl, ?_⟩) ?_ ?_; rotate_left; intro w'; go_simp; with_reducible rfl; rotate_left; simp only [Act.put, List.setIfInBounds_toArray, List.set_cons_zero, List.set_cons_succ, i64_w, i32_w]; rfl
        refine take_ (i := 9) (N := some 87) (v := ?_) (a' := ?_) #[true, true, true, true, true, true, true, true, true, true, false, false, false, false, false, false, false, false, false, false] rfl rfl (take_ofW HT_.out HW_.out (by kernel_rfl)) (fun _ _ _ h => h) (Or.inl ⟨by rfl, ?_⟩) hHeld ?_ ?_; rotate_left; rintro w' ⟨s0, s1, s2, s3, s4, s5⟩; refine eqptr_run (t := 32) (yt := 32) (x := .tmp 85) (y := .tmp 86) ?_ ?_ ?_ (run_eql_ptr_other w' Try.underlying32 hj hz (a := ⟨po, 0, none⟩) (b := ⟨q, 0, none⟩) (fun e => n1 (congrArg Addr.block e)) s4 s5) <;> rfl; rotate_left; simp only [Act.put, List.setIfInBounds_toArray, List.set_cons_zero, List.set_cons_succ, i64_w, i32_w]; rfl
        refine pure_ (i := 10) (N := some 88) (v := ?_) (a' := ?_) #[true, true, true, true, true, true, true, true, true, true, true, false, false, false, false, false, false, false, false, false] rfl rfl (any_of HT_.out (by kernel_rfl)) (fun _ _ _ h => h) (Or.inl ⟨by rfl, ?_⟩) ?_ ?_; rotate_left; intro w'; go_simp; with_reducible rfl; rotate_left; simp only [Act.put, List.setIfInBounds_toArray, List.set_cons_zero, List.set_cons_succ, i64_w, i32_w]; rfl
        refine pure_ (i := 11) (N := some 89) (v := ?_) (a' := ?_) #[true, true, true, true, true, true, true, true, true, true, true, true, false, false, false, false, false, false, false, false] rfl rfl (any_of HT_.out (by kernel_rfl)) (fun _ _ _ h => h) (Or.inl ⟨by rfl, ?_⟩) ?_ ?_; rotate_left; intro w'; go_simp; with_reducible rfl; rotate_left; simp only [Act.put, List.setIfInBounds_toArray, List.set_cons_zero, List.set_cons_succ, i64_w, i32_w]; rfl
        refine pure_ (i := 12) (N := some 90) (v := ?_) (a' := ?_) #[true, true, true, true, true, true, true, true, true, true, true, true, true, false, false, false, false, false, false, false] rfl rfl (any_of HT_.out (by kernel_rfl)) (fun _ _ _ h => h) (Or.inl ⟨by rfl, ?_⟩) ?_ ?_; rotate_left; intro w'; go_simp; with_reducible rfl; rotate_left; simp only [Act.put, List.setIfInBounds_toArray, List.set_cons_zero, List.set_cons_succ, i64_w, i32_w]; rfl
        refine pure_ (i := 13) (N := some 91) (v := ?_) (a' := ?_) #[true, true, true, true, true, true, true, true, true, true, true, true, true, true, false, false, false, false, false, false] rfl rfl (any_of HT_.out (by kernel_rfl)) (fun _ _ _ h => h) (Or.inl ⟨by rfl, ?_⟩) ?_ ?_; rotate_left; intro w'; go_simp; with_reducible rfl; rotate_left; simp only [Act.put, List.setIfInBounds_toArray, List.set_cons_zero, List.set_cons_succ, i64_w, i32_w]; rfl
        refine take_ (i := 15) (N := some 93) (v := ?_) (a' := ?_) #[true, true, true, true, true, true, true, true, true, true, true, true, true, true, false, true, false, false, false, false] rfl rfl (take_ofW HT_.out HW_.out (by kernel_rfl)) (fun _ _ _ h => h) (Or.inl ⟨by rfl, ?_⟩) hHeld ?_ ?_; rotate_left; rintro w' ⟨s0, s1, s2, s3, s4, s5⟩; go_simp; with_reducible rfl; rotate_left; simp only [Act.put, List.setIfInBounds_toArray, List.set_cons_zero, List.set_cons_succ, i64_w, i32_w]; rfl
        refine one_ (i := 14) (N := some 92) #[true, true, true, true, true, true, true, true, true, true, true, true, true, true, true, true, false, false, false, false] rfl rfl (one_of HT_.out (by kernel_rfl)) (by decide) (fun K hK => ?_)
        have bo2 := blk_below BO.out LB2.out
        have ro2 := Kd.R_below RO.out LB2.out
        refine goes_ Try.func16 (by kernel_rfl) rfl #[.pointer (some ⟨po, 0, none⟩)] (by rfl) rfl rfl (by (try simp only [List.map_toArray, List.map_cons, List.map_nil]); first | done | rfl) ?_
        refine (shape_Plain.calls k po nm Ao co Em _ bo2 (Kd.R_reads' ro2).2.2 (Kd.R_reads' ro2).2.1 (Nat.lt_of_le_of_lt FM.out.len (by decide))).mono ?_
        rintro e w23 ⟨vn, rfl, rn, hb⟩; obtain ⟨An, cn, em⟩ := Kd.R_slice rn; subst em; have RN := ak rn; have LB3 := ak (below_step LB2.out hb); clear hb rn
        refine ⟨_, rfl, ?_⟩
        refine hK.out _ _ ⟨bc0 (ak (blk_below BG.out LB3.out)), bc1 (ak (blk_below BG.out LB3.out)), bc0 (ak (blk_below BB.out LB3.out)), bc1 (ak (blk_below BB.out LB3.out)), blk_below BO.out LB3.out, blk_below N2.out.bp LB3.out⟩ (fun hHeld => ?_)
        clear hK K
        refine norm_ (a' := ?_) ?_ ?_
        rotate_left
        ·
         show Act.put _ (some 92) _ = _
         simp only [Act.put, List.setIfInBounds_toArray, List.set_cons_zero, List.set_cons_succ, i64_w, i32_w]
         rfl
        refine one_ (i := 16) (N := some 94) #[true, true, true, true, true, true, true, true, true, true, true, true, true, true, true, true, true, false, false, false] rfl rfl (one_of HT_.out (by kernel_rfl)) (by decide) (fun K hK => ?_)
        refine goes_ Try.func12 (by kernel_rfl) rfl #[.agg #[.int .i64 nm, .slice An Em.length cn], .agg #[.int .i64 nm, .slice Ab Em.length cb]] (by rfl) rfl rfl (by (try simp only [List.map_toArray, List.map_cons, List.map_nil]); first | done | rfl) ?_
        refine (compassref03_Same.calls k nm _ _ Em nm _ _ Em true _ (Kd.R_reads' RN.out).2.2 (Kd.R_reads' RN.out).2.1 (Kd.C_below (DM.out.reads HBx.out) LB3.out) DM.out.cap FM.out.same).mono ?_
        rintro e w24 ⟨rfl, hb⟩; have LB4 := ak (below_step LB3.out hb); clear hb
        refine ⟨_, rfl, ?_⟩
        refine hK.out _ _ ⟨bc0 (ak (blk_below BG.out LB4.out)), bc1 (ak (blk_below BG.out LB4.out)), bc0 (ak (blk_below BB.out LB4.out)), bc1 (ak (blk_below BB.out LB4.out)), blk_below BO.out LB4.out, blk_below N2.out.bp LB4.out⟩ (fun hHeld => ?_)
        clear hK K
        refine norm_ (a' := ?_) ?_ ?_
        rotate_left
        ·
         show Act.put _ (some 94) _ = _
         simp only [Act.put, List.setIfInBounds_toArray, List.set_cons_zero, List.set_cons_succ, i64_w, i32_w]
         rfl
        refine pure_ (i := 17) (N := some 95) (v := ?_) (a' := ?_) #[true, true, true, true, true, true, true, true, true, true, true, true, true, true, true, true, true, true, false, false] rfl rfl (any_of HT_.out (by kernel_rfl)) (fun _ _ _ h => h) (Or.inl ⟨by rfl, ?_⟩) ?_ ?_; rotate_left; intro w'; go_simp; with_reducible rfl; rotate_left; simp only [Act.put, List.setIfInBounds_toArray, List.set_cons_zero, List.set_cons_succ, i64_w, i32_w]; rfl
        refine pure_ (i := 18) (N := some 96) (v := ?_) (a' := ?_) #[true, true, true, true, true, true, true, true, true, true, true, true, true, true, true, true, true, true, true, false] rfl rfl (any_of HT_.out (by kernel_rfl)) (fun _ _ _ h => h) (Or.inl ⟨by rfl, ?_⟩) ?_ ?_; rotate_left; intro w'; go_simp; with_reducible rfl; rotate_left; simp only [Act.put, List.setIfInBounds_toArray, List.set_cons_zero, List.set_cons_succ, i64_w, i32_w]; rfl
        refine pure_ (i := 19) (N := some 4) (v := ?_) (a' := ?_) #[true, true, true, true, true, true, true, true, true, true, true, true, true, true, true, true, true, true, true, true] rfl rfl (any_of HT_.out (by kernel_rfl)) (fun _ _ _ h => h) (Or.inl ⟨by rfl, ?_⟩) ?_ ?_; rotate_left; intro w'; go_simp; with_reducible rfl; rotate_left; simp only [Act.put, List.setIfInBounds_toArray, List.set_cons_zero, List.set_cons_succ, i64_w, i32_w]; rfl
        refine done_ (done_of HT_.out (by kernel_rfl)) ?_
        clear HT_ HW_ hHeld
        go_wp2
        go_ret
        exact ⟨rfl, below_step HBx.out LB4.out⟩
def compasslaw03_GraphPlays.f (k : Nat) (n : Int) (E : List S39) (S : List S53) : Prop := ∃ c a a0 cr ar, compasslaw03_GraphPlays.Told k n E S c a a0 cr ar
theorem compasslaw03_GraphPlays.calls (k : Nat) (n : Int) (A : Option Addr) (cE : Nat) (E : List S39) (AS : Option Addr) (cS : Nat) (S : List S53) (r : Bool) (w : World) (hr : Kd.C k39 w A E.length E) (hc : E.length ≤ cE) (hs : Kd.C k53 w AS S.length S) (hr_ : r = true) (h : compasslaw03_GraphPlays.f k n E S) :
    Calls Try.prog 7 #[.agg #[.int .i64 n, .slice A E.length cE], .slice AS S.length cS] w fun e w' => e = .returned (.bool r) ∧ Below w.heap.size w w' := by
  subst hr_
  obtain ⟨c, a, a0, cr, ar, TD⟩ := h
  by_cases z : c = 0
  · exact compasslaw03_GraphPlays.good k n A cE E AS cS S w hr hc hs c a a0 cr ar TD z
  · exact compasslaw03_GraphPlays.bad k n A cE E AS cS S w hr hc c a a0 cr ar TD z
end Go.Proofs.Ytpmclhkednehhaa.Q
