/- The closure of the visit that comes to a node: typed by hand. -/
import Derived.Test.YtacklfnnpiobgaaVisA
set_option linter.unusedVariables false
set_option linter.unusedSimpArgs false
namespace Go.Proofs.Ytacklfnnpiobgaa.Q
open Go.RowKit Go.Proofs.YtacklfnnpiobgaaW.PrintWords Go.Proofs.YtacklfnnpiobgaaW.PrintLast Go.Proofs.YtacklfnnpiobgaaW.PrintMore
set_option maxHeartbeats 4000000 in
theorem enter.calls {w0 : World} {n : Int} {A : Option Addr} {cE : Nat} {E : List S41} {gg gp gc gs : Nat} {vo : Value} {O : List (List Int)} {p m cap : Nat} {vq vs : Value} {P Q : List Int} {c : Int} {S : List Fr} {W : World}
    (h : VS w0 n A cE E gg gp gc gs vo O (.slice (some ⟨p, 0, none⟩) m cap) vq vs P Q c S W) (v : Int) (v0 : 0 ≤ v) (v1 : v < m) (c0 : 0 ≤ c) (c1 : c ≤ 1000000) (hS : S.length ≤ 1000000) :
    Calls Try.prog 36 #[.int .i64 v, .pointer (some ⟨gc, 0, none⟩), .pointer (some ⟨gp, 0, none⟩), .pointer (some ⟨gs, 0, none⟩)] W fun e w' => e = .returned (.tuple #[]) ∧ ∃ vs', VS w0 n A cE E gg gp gc gs vo O (.slice (some ⟨p, 0, none⟩) m cap) vq vs' (P.set v.toNat c) Q (c + 1) (S ++ [⟨v, 0⟩]) w' := by
  have hv0 : decide (0 ≤ v) = true := decide_eq_true v0
  have hv1 : decide (v < (m : Int)) = true := decide_eq_true v1
  have hu60 := Try.underlying60
  have hu62 := Try.underlying62
  have hu26 := Try.underlying26
  have V0 := ak h
  clear h
  have k0 : W.cell? ⟨gp, 0, none⟩ = some (.slice (some ⟨p, 0, none⟩) m cap) := (blk_cell V0.out.bp 0).trans rfl
  have k1 : W.cell? ⟨gc, 0, none⟩ = some (.int .i64 c) := (blk_cell V0.out.bc 0).trans rfl
  obtain ⟨k2, k3⟩ := Kd.R_celln 0 V0.out.rp v v0 v1
  go_enter Try.func36, Try.ntmps36
  go_wp2_with (first
    | ((with_reducible refine gate_store (t := 3) (p := 8) rfl ?_); refine store_event (t := 3) (p := 8) (v := ?vo8) (w1 := W.setCell ⟨p, v.toNat, none⟩ (.int .i64 c)) ?hg ?ho ?hn ?hr ?_; (case ho => rfl); (case hg => rfl); (case hn => rfl); (case hr => first | (go_simp; done) | (go_simp; rfl)); intro w2 hw; have V1 := ak (show VS w0 n A cE E gg gp gc gs vo O (.slice (some ⟨p, 0, none⟩) m cap) vq vs (P.set v.toNat c) Q c S w2 by rw [hw]; exact V0.out.setP v c); clear hw; have k4 : w2.cell? ⟨gc, 0, none⟩ = some (.int .i64 c) := (blk_cell V1.out.bc 0).trans rfl; have k5 := blk_frozen V1.out.bc 0)
    | ((with_reducible refine gate_store (t := 3) (p := 1) rfl ?_); refine store_event (t := 3) (p := 1) (v := ?vo1) (w1 := w2.setCell ⟨gc, 0, none⟩ (.int .i64 (c + 1))) ?hg ?ho ?hn ?hr ?_; (case ho => rfl); (case hg => rfl); (case hn => rfl); (case hr => first | (go_simp; done) | (go_simp; rfl)); intro w3 hw; have V2 := ak (show VS w0 n A cE E gg gp gc gs vo O (.slice (some ⟨p, 0, none⟩) m cap) vq vs (P.set v.toNat c) Q (c + 1) S w3 by rw [hw]; exact V1.out.clock (c + 1)); clear hw; have k6 : w3.cell? ⟨gs, 0, none⟩ = some vs := (blk_cell V2.out.bs 0).trans rfl; have k7 := blk_frozen V2.out.bs 0)
    | ((with_reducible refine gate_builtin (b := .append) (xs := #[.tmp 11, .tmp 14]) rfl ?_); at_builtin; refine Kd.R_append kFr (w0 := w0) w0.heap.size rfl (.tmp 11) (.tmp 14) 60 62 (.agg #[(.int .i64 0), (.int .i64 0)]) 16 rfl Try.underlying60 info62 rfl (by decide) (by omega) vs S (⟨v, 0⟩ : Fr) [.int .i64 v, .int .i64 0] (fun _ => True) (fun _ => False) rfl (by first | (go_simp; done) | (go_simp; rfl)) ?aP (fun _ hk => hk.elim) (fun _ _ => trivial) ?aO ?aB ?aS ?aL ?_; (case aP => exact kFr_mkM _ _ _ (⟨v, 0⟩ : Fr)); (case aB => exact V2.out.below); (case aO => exact V2.out.rs); (case aS => exact below_size V2.out.below); (case aL => omega); intro v7 w7 ho7 hb7 hg7 hat7; obtain ⟨A7, c7, e7⟩ := Kd.R_slice ho7; subst e7; have V3 := ak (V2.out.push ho7 hb7 hg7); have bs7 := blk_grown V2.out.bs hg7 (Kd.R_ne V2.out.rs V2.out.bs (by decide)); have k8 : w7.cell? ⟨gs, 0, none⟩ = some vs := (blk_cell bs7 0).trans rfl; have k9 := blk_frozen bs7 0))
  go_end0
  exact ⟨rfl, .slice A7 (S.length + 1) c7, by have := V3.out; rw [List.length_append] at this; exact this⟩
end Go.Proofs.Ytacklfnnpiobgaa.Q
