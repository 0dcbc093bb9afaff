/- slices.Clone of a row of edges: the same edges, a row of its own; typed by hand. -/
import Derived.Test.YtpmclhkednehhaaQ0
set_option linter.unusedVariables false
set_option linter.unusedSimpArgs false
namespace Go.Proofs.Ytpmclhkednehhaa.Q
open Go.RowKit Go.Proofs.YtpmclhkednehhaaW.PrintWords Go.Proofs.YtpmclhkednehhaaW.PrintLast Go.Proofs.YtpmclhkednehhaaW.PrintMore
def slices_Clone.f (k : Nat) (l0 : List S39) : Option (List S39) := if l0.length < 4398046511104 then some l0 else none
theorem nil_eq (n c : Nat) (w : World) : Sem.run Try.prog (binOp BinOp.eql 22 (Value.slice none n c) (Value.slice none 0 0)) w = Result.ok (Value.bool true) w := by kernel_rfl
theorem nil_ne (A : Addr) (n c : Nat) (w : World) : Sem.run Try.prog (binOp BinOp.eql 22 (Value.slice (some A) n c) (Value.slice none 0 0)) w = Result.ok (Value.bool false) w := by kernel_rfl
theorem C_none_nil {w : World} {l : List S39} (h : Kd.C k39 w none l.length l) : l = [] := by
  cases l with
  | nil => rfl
  | cons a t =>
    obtain ⟨ad, e, _⟩ := at_T39 h 0 (Int.le_refl 0) (by rw [List.length_cons]; omega)
    cases e
theorem k39_KM (w : World) (base : Nat) (ok : Nat → Prop) (x : S39) (cs : List Value) (h : k39.K w x cs) : k39.M w base ok x cs := by
  have e := k39_open h
  rw [e]; exact k39_mkM _ _ _ x
set_option maxHeartbeats 4000000 in
theorem slices_Clone.calls (k : Nat) (A0 : Option Addr) (c0 : Nat) (l0 : List S39) (r : List S39) (w : World) (hr0 : Kd.C k39 w A0 l0.length l0) (hc0 : l0.length ≤ c0) (h : slices_Clone.f k l0 = some r) :
    Calls Try.prog 32 #[.slice A0 l0.length c0] w fun e w' => ∃ v0_ : Value, e = .returned v0_ ∧ Kd.R k39 39 w' w.heap.size (fun _ => True) v0_ r ∧ Below w.heap.size w w' := by
  have hl : l0.length < 4398046511104 := by
    unfold slices_Clone.f at h
    by_cases q : l0.length < 4398046511104
    · exact q
    · rw [if_neg q] at h; cases h
  have hr : r = l0 := by unfold slices_Clone.f at h; rw [if_pos hl] at h; exact (Option.some.inj h).symm
  subst hr
  clear h
  cases A0 with
  | none =>
    obtain rfl := C_none_nil hr0
    have hq := nil_eq ([] : List S39).length c0
    have hq0 := nil_eq 0 c0
    go_enter Try.func32, Try.ntmps32
    go_wp2
    go_ret
    exact ⟨_, rfl, Kd.R_nil _ _ _ _ _, Below.refl _ _⟩
  | some A =>
    have hq := nil_ne A r.length c0
    go_enter Try.func32, Try.ntmps32
    go_wp2_with (first | ((with_reducible refine gate_dst (N := 5) rfl ?_); refine Kd.R_lit k39 _ 39 ?hg (N := 5) ?hd (xs := ([] : List S39)) (inner := []) (ok := fun _ => True) (okp := fun _ => True) ?hr ?hp (fun _ hk => hk) trivial (Below.refl _ _) (Nat.le_refl _) (by simp) ?_; (case hd => rfl); (case hg => rfl); (case hr => first | (go_simp; done) | (go_simp; rfl)); (case hp => exact (Reps.none _ _)); intro v5 w5 ho hb hg_ hnew_) | ((with_reducible refine gate_builtin (b := .append) (xs := #[.tmp 5, .tmp 6]) rfl ?_); at_builtin; refine Kd.R_append_rows k39 (Rr := k39.K w5) (w0 := w) w.heap.size rfl (.tmp 5) (.tmp 6) 22 39 (.agg #[(.int .i64 0), (.int .i64 0), (.int .i64 0), (.int .i64 0)]) 32 rfl Try.underlying22 info39 rfl (by decide) (by omega) v5 [] r _ _ _ (fun _ => True) (fun _ => False) rfl rfl ?aO ?aR (fun x cs h => k39_KM _ _ _ x cs h) (fun _ h => h.elim) ?aF ?aB ?aS ?aL ?_; (case aR => exact Kd.C_below hr0 hb); (case aB => exact hb); (case aF => exact (fun _ _ => trivial)); (case aO => exact ho); (case aS => exact below_size hb); (case aL => simp; omega); intro v7 w7 ho7 hb7 hg7 hat7))
    go_ret
    exact ⟨_, rfl, ho7, hb7⟩
end Go.Proofs.Ytpmclhkednehhaa.Q
