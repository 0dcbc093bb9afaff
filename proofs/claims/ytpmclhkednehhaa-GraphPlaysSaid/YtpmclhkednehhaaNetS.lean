/- A script of edits, its document, and what each edit does: typed by hand. -/
import Derived.Test.YtpmclhkednehhaaQ27
import Derived.Test.YtpmclhkednehhaaQ3
import Derived.Test.YtpmclhkednehhaaNetR
set_option linter.unusedVariables false
set_option linter.unusedSimpArgs false
namespace Go.Proofs.Ytpmclhkednehhaa.Q
open Go.RowKit Go.Proofs.YtpmclhkednehhaaW.PrintWords Go.Proofs.YtpmclhkednehhaaW.PrintLast Go.Proofs.YtpmclhkednehhaaW.PrintMore
/-- One call of a script. -/
structure S53 where
  kd : Int
  pos : Int
  e : S39
def z53 : S53 := ⟨0, 0, z39⟩
def k53 : Kd S53 := Kd.iso (Kd.pair (Kd.int .i64) (Kd.pair (Kd.int .i64) k39)) (fun x : S53 => (x.kd, x.pos, x.e))
theorem k53_open {w : World} {x : S53} {cs : List Value} (h : k53.K w x cs) : cs = [.int .i64 x.kd, .int .i64 x.pos, .int .i64 x.e.f0, .int .i64 x.e.f1, .int .i64 x.e.f2, .int .i64 x.e.f3] := by
  obtain ⟨_, _, rfl, rfl, ⟨_, _, rfl, rfl, h2⟩⟩ := h
  obtain rfl := k39_open h2
  rfl
theorem k53_mk (w : World) (x : S53) : k53.K w x [.int .i64 x.kd, .int .i64 x.pos, .int .i64 x.e.f0, .int .i64 x.e.f1, .int .i64 x.e.f2, .int .i64 x.e.f3] :=
  ⟨[.int .i64 x.kd], [.int .i64 x.pos, .int .i64 x.e.f0, .int .i64 x.e.f1, .int .i64 x.e.f2, .int .i64 x.e.f3], rfl, rfl, ⟨[.int .i64 x.pos], [.int .i64 x.e.f0, .int .i64 x.e.f1, .int .i64 x.e.f2, .int .i64 x.e.f3], rfl, rfl, k39_mk w x.e⟩⟩
def rd_T53 (xs : List S53) (i : Int) : S53 := xs.getD i.toNat z53
theorem at_T53 {w : World} {A : Option Addr} {n : Nat} {xs : List S53} (h : Kd.C k53 w A n xs) (i : Nat) (h1 : i < n) : ∃ ad, A = some ad ∧ w.cell? (ad.add (i * 6)) = some (.int .i64 (rd_T53 xs (i : Int)).kd) ∧ w.cell? ⟨(ad.add (i * 6)).block, (ad.add (i * 6)).off + 1, none⟩ = some (.int .i64 (rd_T53 xs (i : Int)).pos) ∧ w.cell? ⟨(ad.add (i * 6)).block, (ad.add (i * 6)).off + 2, none⟩ = some (.int .i64 (rd_T53 xs (i : Int)).e.f0) ∧ w.cell? ⟨(ad.add (i * 6)).block, (ad.add (i * 6)).off + 3, none⟩ = some (.int .i64 (rd_T53 xs (i : Int)).e.f1) ∧ w.cell? ⟨(ad.add (i * 6)).block, (ad.add (i * 6)).off + 4, none⟩ = some (.int .i64 (rd_T53 xs (i : Int)).e.f2) ∧ w.cell? ⟨(ad.add (i * 6)).block, (ad.add (i * 6)).off + 5, none⟩ = some (.int .i64 (rd_T53 xs (i : Int)).e.f3) := by
  obtain ⟨ad, c, e, _, hK, hc0⟩ := Kd.C_get h z53 (i : Int) (by omega) (by omega)
  rw [Int.toNat_natCast] at hc0
  have hc : ∀ j u, c[j]? = some u → w.cell? (ad.add (i * 6 + j)) = some u := hc0
  rw [Int.toNat_natCast] at hK
  have hK' : k53.K w (rd_T53 xs (i : Int)) c := by unfold rd_T53; rw [Int.toNat_natCast]; exact hK
  obtain rfl := k53_open hK'
  exact ⟨ad, e, hc 0 _ rfl, by rw [← add_field _ _ 1 (by omega)]; exact hc 1 _ rfl, by rw [← add_field _ _ 2 (by omega)]; exact hc 2 _ rfl, by rw [← add_field _ _ 3 (by omega)]; exact hc 3 _ rfl, by rw [← add_field _ _ 4 (by omega)]; exact hc 4 _ rfl, by rw [← add_field _ _ 5 (by omega)]; exact hc 5 _ rfl⟩
/-- One edit: the error's number, and the net then. -/
def editI (o : S53) (s : Int × List S39) : Int × Int × List S39 :=
  if o.kd = 0 then ((nodeI s.1).2.1, (nodeI s.1).2.2, s.2) else if o.kd = 1 then ((addI s.1 s.2 o.e).2.1, s.1, (addI s.1 s.2 o.e).2.2) else if o.kd = 2 then ((setI s.1 s.2 o.pos o.e).1, s.1, (setI s.1 s.2 o.pos o.e).2) else if o.kd = 3 then ((cutI s.2 o.pos).1, s.1, (cutI s.2 o.pos).2) else if o.kd = 4 then cutN s.1 s.2 o.pos else (0, s.1, s.2)
/-- The net behind the first edits of a script. -/
def stI (S : List S53) (n : Int) (E : List S39) : Nat → Int × List S39
  | 0 => (n, E)
  | i + 1 => (editI (rd_T53 S (i : Int)) (stI S n E i)).2
/-- What the walk asks of a net. -/
structure Fine (k : Nat) (s : Int × List S39) : Prop where
  n0 : 0 ≤ s.1
  n1 : s.1 ≤ 1024
  len : s.2.length ≤ 4096
  ends : ∀ e ∈ s.2, 0 ≤ e.f0 ∧ e.f0 < s.1 ∧ 0 ≤ e.f1 ∧ e.f1 < s.1
  chk : graph_Check.f k s.1 s.2 = some (0, 0)
  same : compassref03_Same.f k s.1 s.2 s.1 s.2 = some true
structure compasslaw03_GraphRight.Told (k : Nat) (n : Int) (E : List S39) (S : List S53) (c a a0 : Int) : Prop where
  len : E.length < 4398046511104
  lenS : S.length ≤ 9223372036854775807
  two : graph_Check.f k 2 [] = some (0, a0)
  lab : graph_label.f 0 1 3 0 = some true
  chk : graph_Check.f k n E = some (c, a)
  zero : c = 0 → a = 0
  fine : c = 0 → ∀ i : Nat, i ≤ S.length → Fine k (stI S n E i)
  keep : c = 0 → ∀ i : Nat, i < S.length → (editI (rd_T53 S (i : Int)) (stI S n E i)).1 ≠ 0 → stI S n E (i + 1) = stI S n E i
/-- Made blocks are not the net's: they outlive an edit. -/
theorem Did.made {w0 W W1 W' : World} {p g : Nat} {n : Int} {v : Value} {E : List S39} {o : Obj} (ns : NS w0 p n v E W) (h : KeepBut W1 W' p v.ownBlock) (hg : W.heap.size ≤ g) (ho : W1.heap[g]? = some o) : W'.heap[g]? = some o := by
  refine (h.2 g (blk_lt ho) (fun e => ?_) (fun e => ?_)).trans ho
  · have := blk_lt ns.bp; omega
  · have := Kd.R_lt ns.row g e.symm; omega
theorem Did.rowMade {w0 W W1 W' : World} {p : Nat} {n : Int} {v u : Value} {E X : List S39} {ok : Nat → Prop} (ns : NS w0 p n v E W) (h : KeepBut W1 W' p v.ownBlock) (hr : Kd.R k39 39 W1 W.heap.size ok u X) : Kd.R k39 39 W' W.heap.size ok u X := by
  refine Kd.R_mono (Kd.R_step (Kd.R_bound hr) (fun k hk hk2 => h.2 k hk2 (fun e => ?_) (fun e => ?_))) (fun _ hk => hk.1)
  · have := blk_lt ns.bp; have := hk.2.1; omega
  · have := Kd.R_lt ns.row k e.symm; have := hk.2.1; omega

theorem op0.calls (u : World) (p : Nat) (A : Option Addr) (cap k : Nat) (o : S53) (n2 : Int) (E2 : List S39) (cd n3 : Int) (E3 : List S39) (W : World) (h : NS u p n2 (.slice A E2.length cap) E2 W) (f : Fine k (n2, E2)) (ed : editI o (n2, E2) = (cd, n3, E3)) (hk : o.kd = 0) :
    Calls Try.prog 22 #[.pointer (some ⟨p, 0, none⟩)] W fun e w' => (∃ x : Int, e = .returned (.tuple #[.int .i64 x, .int .i64 cd])) ∧ Did u W w' p (.slice A E2.length cap) n3 E3 := by
  unfold editI at ed
  rw [if_pos hk] at ed
  simp only [Prod.mk.injEq] at ed
  obtain ⟨rfl, rfl, rfl⟩ := ed
  refine (Net_AddNode.calls u p n2 A cap E2 W h f.n0 f.n1).mono ?_
  rintro e w' ⟨rfl, d⟩
  exact ⟨⟨_, rfl⟩, d⟩
theorem op1.calls (u : World) (p : Nat) (A : Option Addr) (cap k : Nat) (o : S53) (n2 : Int) (E2 : List S39) (cd n3 : Int) (E3 : List S39) (W : World) (h : NS u p n2 (.slice A E2.length cap) E2 W) (f : Fine k (n2, E2)) (ed : editI o (n2, E2) = (cd, n3, E3)) (hk : o.kd = 1) :
    Calls Try.prog 23 #[.pointer (some ⟨p, 0, none⟩), .agg #[.int .i64 o.e.f0, .int .i64 o.e.f1, .int .i64 o.e.f2, .int .i64 o.e.f3]] W fun e w' => (∃ x : Int, e = .returned (.tuple #[.int .i64 x, .int .i64 cd])) ∧ Did u W w' p (.slice A E2.length cap) n3 E3 := by
  unfold editI at ed
  rw [if_neg (by omega : ¬ o.kd = 0)] at ed
  rw [if_pos hk] at ed
  simp only [Prod.mk.injEq] at ed
  obtain ⟨rfl, rfl, rfl⟩ := ed
  refine (Net_AddEdge.calls u p n2 A cap E2 o.e W h f.len).mono ?_
  rintro e w' ⟨rfl, d⟩
  exact ⟨⟨_, rfl⟩, d⟩
theorem op2.calls (u : World) (p : Nat) (A : Option Addr) (cap k : Nat) (o : S53) (n2 : Int) (E2 : List S39) (cd n3 : Int) (E3 : List S39) (W : World) (h : NS u p n2 (.slice A E2.length cap) E2 W) (f : Fine k (n2, E2)) (ed : editI o (n2, E2) = (cd, n3, E3)) (hk : o.kd = 2) :
    Calls Try.prog 24 #[.pointer (some ⟨p, 0, none⟩), .int .i64 o.pos, .agg #[.int .i64 o.e.f0, .int .i64 o.e.f1, .int .i64 o.e.f2, .int .i64 o.e.f3]] W fun e w' => e = .returned (.int .i64 cd) ∧ Did u W w' p (.slice A E2.length cap) n3 E3 := by
  unfold editI at ed
  rw [if_neg (by omega : ¬ o.kd = 0)] at ed
  rw [if_neg (by omega : ¬ o.kd = 1)] at ed
  rw [if_pos hk] at ed
  simp only [Prod.mk.injEq] at ed
  obtain ⟨rfl, rfl, rfl⟩ := ed
  exact Net_SetEdge.calls u p n2 A cap E2 o.pos o.e W h
theorem op3.calls (u : World) (p : Nat) (A : Option Addr) (cap k : Nat) (o : S53) (n2 : Int) (E2 : List S39) (cd n3 : Int) (E3 : List S39) (W : World) (h : NS u p n2 (.slice A E2.length cap) E2 W) (f : Fine k (n2, E2)) (ed : editI o (n2, E2) = (cd, n3, E3)) (hk : o.kd = 3) :
    Calls Try.prog 25 #[.pointer (some ⟨p, 0, none⟩), .int .i64 o.pos] W fun e w' => e = .returned (.int .i64 cd) ∧ Did u W w' p (.slice A E2.length cap) n3 E3 := by
  unfold editI at ed
  rw [if_neg (by omega : ¬ o.kd = 0)] at ed
  rw [if_neg (by omega : ¬ o.kd = 1)] at ed
  rw [if_neg (by omega : ¬ o.kd = 2)] at ed
  rw [if_pos hk] at ed
  simp only [Prod.mk.injEq] at ed
  obtain ⟨rfl, rfl, rfl⟩ := ed
  exact Net_CutEdge.calls u p n2 A cap E2 o.pos W h f.len
theorem op4.calls (u : World) (p : Nat) (A : Option Addr) (cap k : Nat) (o : S53) (n2 : Int) (E2 : List S39) (cd n3 : Int) (E3 : List S39) (W : World) (h : NS u p n2 (.slice A E2.length cap) E2 W) (f : Fine k (n2, E2)) (ed : editI o (n2, E2) = (cd, n3, E3)) (hk : o.kd = 4) :
    Calls Try.prog 26 #[.pointer (some ⟨p, 0, none⟩), .int .i64 o.pos] W fun e w' => e = .returned (.int .i64 cd) ∧ Did u W w' p (.slice A E2.length cap) n3 E3 := by
  unfold editI at ed
  rw [if_neg (by omega : ¬ o.kd = 0)] at ed
  rw [if_neg (by omega : ¬ o.kd = 1)] at ed
  rw [if_neg (by omega : ¬ o.kd = 2)] at ed
  rw [if_neg (by omega : ¬ o.kd = 3)] at ed
  rw [if_pos hk] at ed
  have e1 : (cutN n2 E2 o.pos).1 = cd := by rw [ed]
  have e2 : (cutN n2 E2 o.pos).2.1 = n3 := by rw [ed]
  have e3 : (cutN n2 E2 o.pos).2.2 = E3 := by rw [ed]
  rw [← e1, ← e2, ← e3]
  exact Net_CutNode.calls u p n2 A cap E2 o.pos W h f.len f.n1 f.ends
theorem cut_last (E : List S39) (m : S39) : cutI (E ++ [m]) (E.length : Int) = (0, E) := by
  unfold cutI
  rw [if_pos ⟨by omega, by rw [List.length_append, List.length_singleton]; omega⟩, Int.toNat_natCast]
  congr 1
  rw [List.eraseIdx_append_of_length_le (Nat.le_refl _), Nat.sub_self]
  simp
theorem Did.ne {W : World} {g : Nat} {v v' : Value} (h : some g ≠ v.ownBlock) (hl : g < W.heap.size) (hat : v'.ownBlock = v.ownBlock ∨ ∃ b, v'.ownBlock = some b ∧ W.heap.size ≤ b) : some g ≠ v'.ownBlock := by
  rcases hat with e | ⟨b, e, l⟩
  · rw [e]; exact h
  · rw [e]
    intro q
    injection q with q
    omega
/-- What was made behind a net is none of its blocks. -/
theorem NS.newRow {w0 W W1 : World} {p : Nat} {n : Int} {v u : Value} {E X : List S39} {ok : Nat → Prop} (ns : NS w0 p n v E W) (hr : Kd.R k39 39 W1 W.heap.size ok u X) : Kd.R k39 39 W1 W.heap.size (fun k => k ≠ p ∧ some k ≠ v.ownBlock) u X :=
  Kd.R_mono (Kd.R_bound hr) (fun k hk => ⟨fun e => by have := blk_lt ns.bp; have := hk.2.1; omega, fun e => by have := Kd.R_lt ns.row k e.symm; have := hk.2.1; omega⟩)
theorem NS.newBlk {w0 W : World} {p g : Nat} {n : Int} {v : Value} {E : List S39} (ns : NS w0 p n v E W) (hg : W.heap.size ≤ g) : g ≠ p ∧ some g ≠ v.ownBlock :=
  ⟨fun e => by have := blk_lt ns.bp; omega, fun e => by have := Kd.R_lt ns.row g e.symm; omega⟩
end Go.Proofs.Ytpmclhkednehhaa.Q
