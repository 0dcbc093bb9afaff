/- Sets of nodes that no edge leaves or enters. -/
import Derived.Test.YtkdoihcjhccliaaG
namespace Go.Proofs.Ytkdoihcjhccliaa.G
open Go.RowKit Go.Proofs.Ytkdoihcjhccliaa.Q Go.Proofs.YtkdoihcjhccliaaW.PrintWords Go.Proofs.YtkdoihcjhccliaaW.PrintLast
set_option linter.unusedVariables false
/-- A set of nodes that no edge leaves or enters. -/
def Closed (E : List S98) (X : Int → Prop) : Prop := ∀ i, 0 ≤ i → i < (E.length : Int) → (X (rd_T98 E i).f0 ↔ X (rd_T98 E i).f1)
def Conn (E : List S98) (u v : Int) : Prop := ∀ X, Closed E X → (X u ↔ X v)
def rng (m : Nat) : List Int := (List.range m).map Int.ofNat
theorem mem_rng (m : Nat) (x : Int) : x ∈ rng m ↔ 0 ≤ x ∧ x < (m : Int) := by
  unfold rng
  rw [List.mem_map]
  constructor
  · rintro ⟨i, hi, rfl⟩
    rw [List.mem_range] at hi
    exact ⟨Int.natCast_nonneg i, Int.ofNat_lt.mpr hi⟩
  · rintro ⟨h0, h1⟩
    exact ⟨x.toNat, List.mem_range.mpr (by omega), by show ((x.toNat : Nat) : Int) = x; omega⟩
theorem len_rng (m : Nat) : (rng m).length = m := by unfold rng; rw [List.length_map, List.length_range]
theorem nodup_rng (m : Nat) : (rng m).Nodup := by
  unfold rng
  refine List.pairwise_map.mpr (List.Pairwise.imp (fun {a b} h e => h (Int.ofNat.inj e)) List.nodup_range)
end Go.Proofs.Ytkdoihcjhccliaa.G
