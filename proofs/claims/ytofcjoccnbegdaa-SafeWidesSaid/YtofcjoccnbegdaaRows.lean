/-
  No cell of these rows narrows 'for every input' (looked for: loops, veiled, ifaces, maps, wideKeys, modest, calm, conditions, laid).
  DERIVED. THE GIVEN ROWS OF THIS SEAT. 7 by the template 'for every input the law returns true; each argument reads behind the call as it read before'; 0 by the template 'total and deterministic' (their statements: YtofcjoccnbegdaaTotals.lean).
  GIVEN WITH THE SEED: the statements are not yours to turn. If you find one false, say at which input.
  Laid BY PROGRAM, IN A SANDBOX (cutbox-rows.mjs): the forced cells as the released guide's own fill.sh prints them over the translation ae7167afd8a8ba7c… (all of the seat's roots in one cut). By AI agents, Wed Nov 11 2026. No macro, syntax, notation, axiom, sorry.
-/
import Derived.Test.YtofcjoccnbegdaaChecked
import GoSem.Claim
import GoSem.ClaimJoined
import GoSem.ClaimMapViews
import Derived.JoinedTies
import Derived.KernelRfl
namespace Go.Proofs.Ytofcjoccnbegdaa
/- THE CELL 'sum', in the pinned program and in every row, IS THE sha256 OF THE DUMP (.gsa) THAT YtofcjoccnbegdaaProg.lean LOADS. Nothing in Lean hashes anything: it is a label: what it is worth is what the hold of that sum in a sandbox is worth. -/
noncomputable def Try.pinned : Pinned := { name := "ytofcjoccnbegdaa", sum := "ae7167afd8a8ba7c6ad3b91f3d0666700ae54159a239ad2dbdfe3b915a790b8e", checked := Try.checked }
namespace Rows
def none {H : Type} : Left H := { results := [], args := [] }

/-- 'compasslaw01.SafeGcds': WHATEVER THE INPUT: true; the input reads as it did. -/
def safeGcdsSpec : ChangeSpec := { name := "safeGcds", fn := fun _ => fun
  | [d1, d2, d3] => { results := [.lit (.bool true)], args := [d1, d2, d3] }
  | _ => none }
def safeGcdsRow : OpenClaim := { program := "ytofcjoccnbegdaa", sum := "ae7167afd8a8ba7c6ad3b91f3d0666700ae54159a239ad2dbdfe3b915a790b8e", func := "compass/compasslaw01.SafeGcds", spec := "safeGcds", apart := false }
def SafeGcdsSaid : Prop := safeGcdsRow.holds Try.pinned (OpenSpec.ofChange safeGcdsSpec)

/-- ITS FALSE NEIGHBOUR: 'it returns false'. Refute it at one input. -/
def safeGcdsWrong : ChangeSpec := { name := "safeGcds", fn := fun _ => fun
  | [d1, d2, d3] => { results := [.lit (.bool false)], args := [d1, d2, d3] }
  | _ => none }
def SafeGcdsWrongFalsely : Prop := safeGcdsRow.holds Try.pinned (OpenSpec.ofChange safeGcdsWrong)

/-- 'compasslaw01.SafeDivides': WHATEVER THE INPUT: true; the input reads as it did. -/
def safeDividesSpec : ChangeSpec := { name := "safeDivides", fn := fun _ => fun
  | [d1, d2] => { results := [.lit (.bool true)], args := [d1, d2] }
  | _ => none }
def safeDividesRow : OpenClaim := { program := "ytofcjoccnbegdaa", sum := "ae7167afd8a8ba7c6ad3b91f3d0666700ae54159a239ad2dbdfe3b915a790b8e", func := "compass/compasslaw01.SafeDivides", spec := "safeDivides", apart := false }
def SafeDividesSaid : Prop := safeDividesRow.holds Try.pinned (OpenSpec.ofChange safeDividesSpec)

/-- ITS FALSE NEIGHBOUR: 'it returns false'. Refute it at one input. -/
def safeDividesWrong : ChangeSpec := { name := "safeDivides", fn := fun _ => fun
  | [d1, d2] => { results := [.lit (.bool false)], args := [d1, d2] }
  | _ => none }
def SafeDividesWrongFalsely : Prop := safeDividesRow.holds Try.pinned (OpenSpec.ofChange safeDividesWrong)

/-- 'compasslaw01.SafeRatios': WHATEVER THE INPUT: true; the input reads as it did. -/
def safeRatiosSpec : ChangeSpec := { name := "safeRatios", fn := fun _ => fun
  | [d1, d2] => { results := [.lit (.bool true)], args := [d1, d2] }
  | _ => none }
def safeRatiosRow : OpenClaim := { program := "ytofcjoccnbegdaa", sum := "ae7167afd8a8ba7c6ad3b91f3d0666700ae54159a239ad2dbdfe3b915a790b8e", func := "compass/compasslaw01.SafeRatios", spec := "safeRatios", apart := false }
def SafeRatiosSaid : Prop := safeRatiosRow.holds Try.pinned (OpenSpec.ofChange safeRatiosSpec)

/-- ITS FALSE NEIGHBOUR: 'it returns false'. Refute it at one input. -/
def safeRatiosWrong : ChangeSpec := { name := "safeRatios", fn := fun _ => fun
  | [d1, d2] => { results := [.lit (.bool false)], args := [d1, d2] }
  | _ => none }
def SafeRatiosWrongFalsely : Prop := safeRatiosRow.holds Try.pinned (OpenSpec.ofChange safeRatiosWrong)

/-- 'compasslaw01.SafeOrders': WHATEVER THE INPUT: true; the input reads as it did. -/
def safeOrdersSpec : ChangeSpec := { name := "safeOrders", fn := fun _ => fun
  | [d1, d2] => { results := [.lit (.bool true)], args := [d1, d2] }
  | _ => none }
def safeOrdersRow : OpenClaim := { program := "ytofcjoccnbegdaa", sum := "ae7167afd8a8ba7c6ad3b91f3d0666700ae54159a239ad2dbdfe3b915a790b8e", func := "compass/compasslaw01.SafeOrders", spec := "safeOrders", apart := false }
def SafeOrdersSaid : Prop := safeOrdersRow.holds Try.pinned (OpenSpec.ofChange safeOrdersSpec)

/-- ITS FALSE NEIGHBOUR: 'it returns false'. Refute it at one input. -/
def safeOrdersWrong : ChangeSpec := { name := "safeOrders", fn := fun _ => fun
  | [d1, d2] => { results := [.lit (.bool false)], args := [d1, d2] }
  | _ => none }
def SafeOrdersWrongFalsely : Prop := safeOrdersRow.holds Try.pinned (OpenSpec.ofChange safeOrdersWrong)

/-- 'compasslaw01.SafeWides': WHATEVER THE INPUT: true; the input reads as it did. -/
def safeWidesSpec : ChangeSpec := { name := "safeWides", fn := fun _ => fun
  | [d1, d2, d3] => { results := [.lit (.bool true)], args := [d1, d2, d3] }
  | _ => none }
def safeWidesRow : OpenClaim := { program := "ytofcjoccnbegdaa", sum := "ae7167afd8a8ba7c6ad3b91f3d0666700ae54159a239ad2dbdfe3b915a790b8e", func := "compass/compasslaw01.SafeWides", spec := "safeWides", inPlace := ["math/bits.Add64"], unfollowed := true, recurses := true, apart := false }
def SafeWidesSaid : Prop := safeWidesRow.holds Try.pinned (OpenSpec.ofChange safeWidesSpec)

/-- ITS FALSE NEIGHBOUR: 'it returns false'. Refute it at one input. -/
def safeWidesWrong : ChangeSpec := { name := "safeWides", fn := fun _ => fun
  | [d1, d2, d3] => { results := [.lit (.bool false)], args := [d1, d2, d3] }
  | _ => none }
def SafeWidesWrongFalsely : Prop := safeWidesRow.holds Try.pinned (OpenSpec.ofChange safeWidesWrong)

/-- 'compasslaw01.SafeAdds': WHATEVER THE INPUT: true; the input reads as it did. -/
def safeAddsSpec : ChangeSpec := { name := "safeAdds", fn := fun _ => fun
  | [d1, d2] => { results := [.lit (.bool true)], args := [d1, d2] }
  | _ => none }
def safeAddsRow : OpenClaim := { program := "ytofcjoccnbegdaa", sum := "ae7167afd8a8ba7c6ad3b91f3d0666700ae54159a239ad2dbdfe3b915a790b8e", func := "compass/compasslaw01.SafeAdds", spec := "safeAdds", inPlace := ["math/bits.Add64"], unfollowed := true, recurses := true, apart := false }
def SafeAddsSaid : Prop := safeAddsRow.holds Try.pinned (OpenSpec.ofChange safeAddsSpec)

/-- ITS FALSE NEIGHBOUR: 'it returns false'. Refute it at one input. -/
def safeAddsWrong : ChangeSpec := { name := "safeAdds", fn := fun _ => fun
  | [d1, d2] => { results := [.lit (.bool false)], args := [d1, d2] }
  | _ => none }
def SafeAddsWrongFalsely : Prop := safeAddsRow.holds Try.pinned (OpenSpec.ofChange safeAddsWrong)

/-- 'compasslaw01.SafeSums': WHATEVER THE INPUT: true; the input reads as it did. -/
def safeSumsSpec : ChangeSpec := { name := "safeSums", fn := fun _ => fun
  | [d1, d2] => { results := [.lit (.bool true)], args := [d1, d2] }
  | _ => none }
def safeSumsRow : OpenClaim := { program := "ytofcjoccnbegdaa", sum := "ae7167afd8a8ba7c6ad3b91f3d0666700ae54159a239ad2dbdfe3b915a790b8e", func := "compass/compasslaw01.SafeSums", spec := "safeSums", inPlace := ["math/bits.Add64"], unfollowed := true, recurses := true, apart := false }
def SafeSumsSaid : Prop := safeSumsRow.holds Try.pinned (OpenSpec.ofChange safeSumsSpec)

/-- ITS FALSE NEIGHBOUR: 'it returns false'. Refute it at one input. -/
def safeSumsWrong : ChangeSpec := { name := "safeSums", fn := fun _ => fun
  | [d1, d2] => { results := [.lit (.bool false)], args := [d1, d2] }
  | _ => none }
def SafeSumsWrongFalsely : Prop := safeSumsRow.holds Try.pinned (OpenSpec.ofChange safeSumsWrong)

/- THE SECOND FORM. 'bulk': how many values and letters a reading holds, each counted each time it is reached (what is shared counts as often as it is met; a slice's spare places count too). A statement '..UptoSaid' is the law's where the arguments, and the package variables that the reading takes, are together of bulk at most 1048576: NARROWER than '..Said'. Prove '..Said' where nothing that the law and all that it calls make is longer than what came in: it says more and counts as full. Else prove '..UptoSaid'. A law counts once. -/
mutual
def uptoBulk {H : Type} : DataW H → Nat
  | .lit (.string bytes) => bytes.length + 1
  | .lit _ => 1
  | .nil => 1
  | .ptr d => uptoBulk d + 1
  | .slice elems spare => uptoBulkAll elems + uptoBulkAll spare + 1
  | .agg parts => uptoBulkAll parts + 1
  | .iface _ d => uptoBulk d + 1
  | .map entries => uptoBulkEntries entries + 1
  | .held _ => 1
def uptoBulkAll {H : Type} : List (DataW H) → Nat
  | [] => 0
  | d :: r => uptoBulk d + uptoBulkAll r
def uptoBulkEntries {H : Type} : List (Lit × DataW H) → Nat
  | [] => 0
  | x :: r => uptoBulkEntry x + uptoBulkEntries r
def uptoBulkEntry {H : Type} : Lit × DataW H → Nat
  | (.string bytes, d) => bytes.length + uptoBulk d + 1
  | (_, d) => uptoBulk d + 1
 end
def uptoSmall : (H : Type) → List (DataW H) → Bool := fun _ ds => decide (uptoBulkAll ds ≤ 1048576)
def OpenSpec.upto (s : _root_.Go.ChangeSpec) : _root_.Go.OpenSpec := { _root_.Go.OpenSpec.ofChange s with cond := some uptoSmall }

/-- 'compasslaw01.SafeGcds', WHERE WHAT IT READS IS OF BULK AT MOST 1048576: true; the input reads as it did. -/
def safeGcdsUptoRow : OpenClaim := { program := "ytofcjoccnbegdaa", sum := "ae7167afd8a8ba7c6ad3b91f3d0666700ae54159a239ad2dbdfe3b915a790b8e", func := "compass/compasslaw01.SafeGcds", spec := "safeGcds", apart := false, narrowed := true }
def SafeGcdsUptoSaid : Prop := safeGcdsUptoRow.holds Try.pinned (OpenSpec.upto safeGcdsSpec)

/-- 'compasslaw01.SafeDivides', WHERE WHAT IT READS IS OF BULK AT MOST 1048576: true; the input reads as it did. -/
def safeDividesUptoRow : OpenClaim := { program := "ytofcjoccnbegdaa", sum := "ae7167afd8a8ba7c6ad3b91f3d0666700ae54159a239ad2dbdfe3b915a790b8e", func := "compass/compasslaw01.SafeDivides", spec := "safeDivides", apart := false, narrowed := true }
def SafeDividesUptoSaid : Prop := safeDividesUptoRow.holds Try.pinned (OpenSpec.upto safeDividesSpec)

/-- 'compasslaw01.SafeRatios', WHERE WHAT IT READS IS OF BULK AT MOST 1048576: true; the input reads as it did. -/
def safeRatiosUptoRow : OpenClaim := { program := "ytofcjoccnbegdaa", sum := "ae7167afd8a8ba7c6ad3b91f3d0666700ae54159a239ad2dbdfe3b915a790b8e", func := "compass/compasslaw01.SafeRatios", spec := "safeRatios", apart := false, narrowed := true }
def SafeRatiosUptoSaid : Prop := safeRatiosUptoRow.holds Try.pinned (OpenSpec.upto safeRatiosSpec)

/-- 'compasslaw01.SafeOrders', WHERE WHAT IT READS IS OF BULK AT MOST 1048576: true; the input reads as it did. -/
def safeOrdersUptoRow : OpenClaim := { program := "ytofcjoccnbegdaa", sum := "ae7167afd8a8ba7c6ad3b91f3d0666700ae54159a239ad2dbdfe3b915a790b8e", func := "compass/compasslaw01.SafeOrders", spec := "safeOrders", apart := false, narrowed := true }
def SafeOrdersUptoSaid : Prop := safeOrdersUptoRow.holds Try.pinned (OpenSpec.upto safeOrdersSpec)

/-- 'compasslaw01.SafeWides', WHERE WHAT IT READS IS OF BULK AT MOST 1048576: true; the input reads as it did. -/
def safeWidesUptoRow : OpenClaim := { program := "ytofcjoccnbegdaa", sum := "ae7167afd8a8ba7c6ad3b91f3d0666700ae54159a239ad2dbdfe3b915a790b8e", func := "compass/compasslaw01.SafeWides", spec := "safeWides", inPlace := ["math/bits.Add64"], unfollowed := true, recurses := true, apart := false, narrowed := true }
def SafeWidesUptoSaid : Prop := safeWidesUptoRow.holds Try.pinned (OpenSpec.upto safeWidesSpec)

/-- 'compasslaw01.SafeAdds', WHERE WHAT IT READS IS OF BULK AT MOST 1048576: true; the input reads as it did. -/
def safeAddsUptoRow : OpenClaim := { program := "ytofcjoccnbegdaa", sum := "ae7167afd8a8ba7c6ad3b91f3d0666700ae54159a239ad2dbdfe3b915a790b8e", func := "compass/compasslaw01.SafeAdds", spec := "safeAdds", inPlace := ["math/bits.Add64"], unfollowed := true, recurses := true, apart := false, narrowed := true }
def SafeAddsUptoSaid : Prop := safeAddsUptoRow.holds Try.pinned (OpenSpec.upto safeAddsSpec)

/-- 'compasslaw01.SafeSums', WHERE WHAT IT READS IS OF BULK AT MOST 1048576: true; the input reads as it did. -/
def safeSumsUptoRow : OpenClaim := { program := "ytofcjoccnbegdaa", sum := "ae7167afd8a8ba7c6ad3b91f3d0666700ae54159a239ad2dbdfe3b915a790b8e", func := "compass/compasslaw01.SafeSums", spec := "safeSums", inPlace := ["math/bits.Add64"], unfollowed := true, recurses := true, apart := false, narrowed := true }
def SafeSumsUptoSaid : Prop := safeSumsUptoRow.holds Try.pinned (OpenSpec.upto safeSumsSpec)

end Rows
end Go.Proofs.Ytofcjoccnbegdaa
