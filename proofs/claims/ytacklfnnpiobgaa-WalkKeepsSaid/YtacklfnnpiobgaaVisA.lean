/- The state of a visit into the depth: its boxes and rows, and what each write does to them; typed by hand. -/
import Derived.Test.YtacklfnnpiobgaaQ0

set_option linter.unusedVariables false
set_option linter.unusedSimpArgs false
namespace Go.Proofs.Ytacklfnnpiobgaa.Q
open Go.RowKit Go.Proofs.YtacklfnnpiobgaaW.PrintWords Go.Proofs.YtacklfnnpiobgaaW.PrintLast Go.Proofs.YtacklfnnpiobgaaW.PrintMore

/-- A node that is being visited, and which of its edges comes next. -/
structure Fr where
  nd : Int
  nx : Int
def zFr : Fr := ⟨0, 0⟩
def kFr : Kd Fr := Kd.iso (Kd.pair (Kd.int .i64) (Kd.int .i64)) (fun x : Fr => (x.nd, x.nx))
theorem kFr_open {w : World} {x : Fr} {cs : List Value} (h : kFr.K w x cs) : cs = [.int .i64 x.nd, .int .i64 x.nx] := by
  obtain ⟨_, _, rfl, rfl, rfl⟩ := h
  exact rfl
theorem kFr_openM {w : World} {base : Nat} {ok : Nat → Prop} {x : Fr} {cs : List Value} (h : kFr.M w base ok x cs) : cs = [.int .i64 x.nd, .int .i64 x.nx] := by
  obtain ⟨_, _, rfl, rfl, rfl⟩ := h
  exact rfl
theorem kFr_mkM (w : World) (base : Nat) (ok : Nat → Prop) (x : Fr) : kFr.M w base ok x [.int .i64 x.nd, .int .i64 x.nx] := ⟨[.int .i64 x.nd], [.int .i64 x.nx], rfl, rfl, rfl⟩
def rd_Fr (xs : List Fr) (i : Int) : Fr := xs.getD i.toNat zFr
theorem info62 : (Try.prog.info? 62).map (fun i => (i.zero, i.size, i.bytes)) = some (some (.agg #[(.int .i64 0), (.int .i64 0)]), 2, 16) := by kernel_rfl

structure VS (w0 : World) (n : Int) (A : Option Addr) (cE : Nat) (E : List S41) (gg gp gc gs : Nat) (vo : Value) (O : List (List Int)) (vp vq vs : Value) (P Q : List Int) (c : Int) (S : List Fr) (W : World) : Prop where
  below : Below w0.heap.size w0 W
  bg : W.heap[gg]? = some (.cells #[.int .i64 n, .slice A E.length cE] 24 (0, 0))
  bp : W.heap[gp]? = some (.cells #[vp] 26 (0, 0))
  bc : W.heap[gc]? = some (.cells #[.int .i64 c] 3 (0, 0))
  bs : W.heap[gs]? = some (.cells #[vs] 60 (0, 0))
  gc0 : w0.heap.size ≤ gc
  gs0 : w0.heap.size ≤ gs
  rp : Kd.R (Kd.int .i64) 3 W w0.heap.size (fun k => k ≠ gc ∧ some k ≠ vq.ownBlock) vp P
  rq : Kd.R (Kd.int .i64) 3 W w0.heap.size (fun k => k ≠ gc ∧ some k ≠ vp.ownBlock) vq Q
  ro : Kd.S (Kd.slice 3 (Kd.int .i64)) 26 W w0.heap.size (fun k => k ≠ gc ∧ k ≠ gp ∧ some k ≠ vp.ownBlock ∧ some k ≠ vq.ownBlock) vo O
  rs : Kd.R kFr 62 W w0.heap.size (fun _ => True) vs S

section
variable {w0 : World} {n : Int} {A : Option Addr} {cE : Nat} {E : List S41} {gg gp gc gs : Nat} {vo : Value} {O : List (List Int)} {vp vq vs : Value} {P Q : List Int} {c : Int} {S : List Fr} {W : World}

theorem VS.later (h : VS w0 n A cE E gg gp gc gs vo O vp vq vs P Q c S W) {W' : World} (hb : Below W.heap.size W W') : VS w0 n A cE E gg gp gc gs vo O vp vq vs P Q c S W' :=
  ⟨below_step h.below hb, blk_below h.bg hb, blk_below h.bp hb, blk_below h.bc hb, blk_below h.bs hb, h.gc0, h.gs0, Kd.R_below h.rp hb, Kd.R_below h.rq hb, Kd.S_below h.ro hb, Kd.R_below h.rs hb⟩
theorem VS.clock (h : VS w0 n A cE E gg gp gc gs vo O vp vq vs P Q c S W) (c' : Int) : VS w0 n A cE E gg gp gc gs vo O vp vq vs P Q c' S (W.setCell ⟨gc, 0, none⟩ (.int .i64 c')) :=
  ⟨below_set h.below h.gc0, blk_far h.bg (blk_ne h.bg h.bc (by decide)) _, blk_far h.bp (blk_ne h.bp h.bc (by decide)) _, blk_put h.bc 0 _ rfl, blk_far h.bs (blk_ne h.bs h.bc (by decide)) _, h.gc0, h.gs0,
   Kd.R_far h.rp (fun k hk => hk.1) _, Kd.R_far h.rq (fun k hk => hk.1) _, Kd.S_far h.ro (fun k hk => hk.1) _, Kd.R_set h.rs h.bc (by decide) _ _⟩
theorem VS.setP {p m cap : Nat} (h : VS w0 n A cE E gg gp gc gs vo O (.slice (some ⟨p, 0, none⟩) m cap) vq vs P Q c S W) (i x : Int) : VS w0 n A cE E gg gp gc gs vo O (.slice (some ⟨p, 0, none⟩) m cap) vq vs (P.set i.toNat x) Q c S (W.setCell ⟨p, i.toNat, none⟩ (.int .i64 x)) := by
  obtain ⟨a, g⟩ := Kd.R_putg h.rp i x
  have pb : (Value.slice (some ⟨p, 0, none⟩) m cap).ownBlock = some p := rfl
  have ty := Kd.R_typed h.rp
  have p0 := Kd.R_base h.rp p pb
  exact ⟨below_set h.below p0, blk_grown h.bg g (by rw [← pb]; exact Kd.R_ne h.rp h.bg (by decide)), blk_grown h.bp g (by rw [← pb]; exact Kd.R_ne h.rp h.bp (by decide)), blk_grown h.bc g (by rw [← pb]; exact Kd.R_away h.rp (fun k hk => hk.1)), blk_grown h.bs g (by rw [← pb]; exact Kd.R_ne h.rp h.bs (by decide)), h.gc0, h.gs0,
   a, Kd.R_grown h.rq g (fun k hk => by rw [← pb]; exact hk.2), Kd.S_grown h.ro g (fun k hk => by rw [← pb]; exact hk.2.2.1), Kd.R_over' h.rs ty (by decide) g⟩
theorem VS.setQ {p m cap : Nat} (h : VS w0 n A cE E gg gp gc gs vo O vp (.slice (some ⟨p, 0, none⟩) m cap) vs P Q c S W) (i x : Int) : VS w0 n A cE E gg gp gc gs vo O vp (.slice (some ⟨p, 0, none⟩) m cap) vs P (Q.set i.toNat x) c S (W.setCell ⟨p, i.toNat, none⟩ (.int .i64 x)) := by
  obtain ⟨a, g⟩ := Kd.R_putg h.rq i x
  have pb : (Value.slice (some ⟨p, 0, none⟩) m cap).ownBlock = some p := rfl
  have ty := Kd.R_typed h.rq
  have p0 := Kd.R_base h.rq p pb
  exact ⟨below_set h.below p0, blk_grown h.bg g (by rw [← pb]; exact Kd.R_ne h.rq h.bg (by decide)), blk_grown h.bp g (by rw [← pb]; exact Kd.R_ne h.rq h.bp (by decide)), blk_grown h.bc g (by rw [← pb]; exact Kd.R_away h.rq (fun k hk => hk.1)), blk_grown h.bs g (by rw [← pb]; exact Kd.R_ne h.rq h.bs (by decide)), h.gc0, h.gs0,
   Kd.R_grown h.rp g (fun k hk => by rw [← pb]; exact hk.2), a, Kd.S_grown h.ro g (fun k hk => by rw [← pb]; exact hk.2.2.2), Kd.R_over' h.rs ty (by decide) g⟩
/-- A row that grows, and the box that holds it. -/
theorem VS.push (h : VS w0 n A cE E gg gp gc gs vo O vp vq vs P Q c S W) {w1 : World} {v1 : Value} {S1 : List Fr} (hr : Kd.R kFr 62 w1 w0.heap.size (fun _ => True) v1 S1) (hb : Below w0.heap.size w0 w1) (hg : W.grownBy w1 vs.ownBlock) : VS w0 n A cE E gg gp gc gs vo O vp vq v1 P Q c S1 (w1.setCell ⟨gs, 0, none⟩ v1) := by
  have ty := Kd.R_typed h.rs
  have bg := blk_grown h.bg hg (Kd.R_ne h.rs h.bg (by decide))
  have bp := blk_grown h.bp hg (Kd.R_ne h.rs h.bp (by decide))
  have bc := blk_grown h.bc hg (Kd.R_ne h.rs h.bc (by decide))
  have bs := blk_grown h.bs hg (Kd.R_ne h.rs h.bs (by decide))
  exact ⟨below_set hb h.gs0, blk_far bg (blk_ne bg bs (by decide)) _, blk_far bp (blk_ne bp bs (by decide)) _, blk_far bc (blk_ne bc bs (by decide)) _, blk_put bs 0 _ rfl, h.gc0, h.gs0,
    Kd.R_set (Kd.R_over' h.rp ty (by decide) hg) bs (by decide) _ _, Kd.R_set (Kd.R_over' h.rq ty (by decide) hg) bs (by decide) _ _, Kd.S_set (Kd.S_over' h.ro ty (by decide) hg) bs (by decide) _ _, Kd.R_set hr bs (by decide) _ _⟩
theorem VS.pop {b : Option Addr} {m m' cap : Nat} (h : VS w0 n A cE E gg gp gc gs vo O vp vq (.slice b m cap) P Q c S W) (hm : m' ≤ S.length) : VS w0 n A cE E gg gp gc gs vo O vp vq (.slice b m' cap) P Q c (S.take m') (W.setCell ⟨gs, 0, none⟩ (.slice b m' cap)) := by
  have bs := h.bs
  exact ⟨below_set h.below h.gs0, blk_far h.bg (blk_ne h.bg bs (by decide)) _, blk_far h.bp (blk_ne h.bp bs (by decide)) _, blk_far h.bc (blk_ne h.bc bs (by decide)) _, blk_put bs 0 _ rfl, h.gc0, h.gs0,
    Kd.R_set h.rp bs (by decide) _ _, Kd.R_set h.rq bs (by decide) _ _, Kd.S_set h.ro bs (by decide) _ _, Kd.R_set (Kd.R_take h.rs hm) bs (by decide) _ _⟩
/-- The cells of the top of the stack. -/
theorem VS.top {b m cap : Nat} (h : VS w0 n A cE E gg gp gc gs vo O vp vq (.slice (some ⟨b, 0, none⟩) m cap) P Q c S W) (i : Int) (h0 : 0 ≤ i) (h1 : i < m) :
    W.cell? ⟨b, i.toNat * 2, none⟩ = some (.int .i64 (rd_Fr S i).nd) ∧ W.cell? ⟨b, i.toNat * 2 + 1, none⟩ = some (.int .i64 (rd_Fr S i).nx) ∧ W.frozen? ⟨b, i.toNat * 2, none⟩ = false ∧ W.frozen? ⟨b, i.toNat * 2 + 1, none⟩ = false := by
  obtain ⟨c, hl, hM, hc, hf⟩ := Kd.R_elem h.rs zFr i h0 h1
  obtain rfl := kFr_openM hM
  exact ⟨hc 0 _ rfl, hc 1 _ rfl, hf 0, hf 1⟩
theorem VS.next {b m cap : Nat} (h : VS w0 n A cE E gg gp gc gs vo O vp vq (.slice (some ⟨b, 0, none⟩) m cap) P Q c S W) (i x : Int) (h0 : 0 ≤ i) (h1 : i < m) :
    VS w0 n A cE E gg gp gc gs vo O vp vq (.slice (some ⟨b, 0, none⟩) m cap) P Q c (S.set i.toNat ⟨(rd_Fr S i).nd, x⟩) (W.setCell ⟨b, i.toNat * 2 + 1, none⟩ (.int .i64 x)) := by
  obtain ⟨c, hl, hM, hc, hf⟩ := Kd.R_elem h.rs zFr i h0 h1
  obtain ⟨a, g⟩ := Kd.R_seg h.rs i h0 h1 (seg := [.int .i64 x]) (j := 1) (okp := fun k => k ≠ b) (x' := (⟨(rd_Fr S i).nd, x⟩ : Fr)) hl hc (Nat.le_refl 2) (by obtain rfl := kFr_openM hM; exact kFr_mkM _ _ _ (⟨(rd_Fr S i).nd, x⟩ : Fr)) (fun k hk => ⟨trivial, hk⟩)
  have sb : (Value.slice (some ⟨b, 0, none⟩) m cap).ownBlock = some b := rfl
  have ty := Kd.R_typed h.rs
  have p0 := Kd.R_base h.rs b sb
  rw [← sb] at g
  exact ⟨below_set h.below p0, blk_grown h.bg g (Kd.R_ne h.rs h.bg (by decide)), blk_grown h.bp g (Kd.R_ne h.rs h.bp (by decide)), blk_grown h.bc g (Kd.R_ne h.rs h.bc (by decide)), blk_grown h.bs g (Kd.R_ne h.rs h.bs (by decide)), h.gc0, h.gs0,
   Kd.R_over' h.rp ty (by decide) g, Kd.R_over' h.rq ty (by decide) g, Kd.S_over' h.ro ty (by decide) g, a⟩
end
end Go.Proofs.Ytacklfnnpiobgaa.Q
