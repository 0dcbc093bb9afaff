/- The same numbers are told to be the same: typed by hand. -/
import Derived.Test.YtpmclhkednehhaaNetG
set_option linter.unusedVariables false
set_option linter.unusedSimpArgs false
namespace Go.Proofs.Ytpmclhkednehhaa.Q
open Go.RowKit Go.Proofs.YtpmclhkednehhaaW.PrintWords Go.Proofs.YtpmclhkednehhaaW.PrintLast Go.Proofs.YtpmclhkednehhaaW.PrintMore
set_option maxHeartbeats 4000000 in
set_option maxRecDepth 100000 in
theorem compasslaw03_ints.same (A B : Option Addr) (c d : Nat) (L : List Int) (W : World) (ha : Kd.C (Kd.int .i64) W A L.length L) (hb0 : Kd.C (Kd.int .i64) W B L.length L) (hl : L.length < 4398046511104) :
    Calls Try.prog 19 #[.slice A L.length c, .slice B L.length d] W fun x w' => x = .returned (.bool true) ∧ Below W.heap.size W w' := by
  have HA := ak ha
  have HB := ak hb0
  have LN := ak hl
  have BW := ak (Below.refl W.heap.size W)
  clear ha hb0 hl
  go_enter Try.func19, Try.ntmps19
  go_wp2
  go_loopg [13] L.length (fun kq v13 w' => ∃ i : Nat, v13 = .int .i64 (i : Int) ∧ Aside0 (kq + i = L.length) ∧ Aside0 (Below W.heap.size W w'))
  case atStart => exact ⟨0, rfl, ⟨rfl⟩, BW⟩
  case round =>
    clear BW
    obtain ⟨i, rfl, HK, B1⟩ := hrel
    by_cases c1 : i < L.length
    · have c1a : decide (i < L.length) = true := decide_eq_true c1
      have c1b : decide ((i : Int) < (L.length : Int)) = true := decide_eq_true (by omega)
      have p0 : 0 ≤ (i : Int) := by omega
      have q0 : (i : Int) < (L.length : Int) := by omega
      obtain ⟨ad, e1, k1⟩ := Kd.at_int HA.out (i : Int) p0 q0
      obtain ⟨bd, e2, k2⟩ := Kd.at_int HB.out (i : Int) p0 q0
      cases e1
      cases e2
      replace k1 := (B1.out.cell (World.block_lt_of_cell? W _ k1)).trans k1
      replace k2 := (B1.out.cell (World.block_lt_of_cell? W _ k2)).trans k2
      rw [Int.toNat_natCast] at k1 k2
      have hw1 : Go.RowKit.wrap64 ((i : Int) + 1) = ((i + 1 : Nat) : Int) := by have := LN.out; unfold Go.RowKit.wrap64; omega
      go_wp2
      go_region_held3 (fun w' => w'.cell? (ad.add i) = some (.int .i64 (rd L (i : Int))) ∧ w'.cell? (bd.add i) = some (.int .i64 (rd L (i : Int)))) (exact ⟨k1, k2⟩) (fail)
      go_wp2
      go_roundg (L.length - (i + 1))
      case measure => have := HK.out; omega
      case rel => exact ⟨i + 1, by first | (rw [hw1]; done) | (simp only [i64_w, hw1]; done) | (go_num; done) | (go_num; rw [hw1]; done), ⟨by have := HK.out; omega⟩, ⟨below_drew B1.out⟩⟩
    · have c1a : decide (i < L.length) = false := decide_eq_false c1
      have c1b : decide ((i : Int) < (L.length : Int)) = false := decide_eq_false (by omega)
      clear c1
      go_wp2
      go_ret
      exact ⟨rfl, B1.out⟩
end Go.Proofs.Ytpmclhkednehhaa.Q
