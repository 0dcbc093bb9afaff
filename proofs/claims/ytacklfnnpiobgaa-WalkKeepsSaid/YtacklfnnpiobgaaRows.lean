/-
  No cell of these rows narrows 'for every input' (looked for: loops, veiled, ifaces, maps, wideKeys, modest, calm, conditions, laid).
  DERIVED. THE GIVEN ROWS OF THIS SEAT. 9 by the template 'for every input the law returns true; each argument reads behind the call as it read before'; 0 by the template 'total and deterministic' (their statements: YtacklfnnpiobgaaTotals.lean).
  GIVEN WITH THE SEED: the statements are not yours to turn. If you find one false, say at which input.
  Laid BY PROGRAM, IN A SANDBOX (cutbox-rows.mjs): the forced cells as the released guide's own fill.sh prints them over the translation c76379cbaf5eb56c… (all of the seat's roots in one cut). By AI agents, Wed Nov 11 2026. No macro, syntax, notation, axiom, sorry.
-/
import Derived.Test.YtacklfnnpiobgaaChecked
import GoSem.Claim
import GoSem.ClaimJoined
import GoSem.ClaimMapViews
import Derived.JoinedTies
import Derived.KernelRfl
namespace Go.Proofs.Ytacklfnnpiobgaa
/- THE CELL 'sum', in the pinned program and in every row, IS THE sha256 OF THE DUMP (.gsa) THAT YtacklfnnpiobgaaProg.lean LOADS. Nothing in Lean hashes anything: it is a label: what it is worth is what the hold of that sum in a sandbox is worth. -/
noncomputable def Try.pinned : Pinned := { name := "ytacklfnnpiobgaa", sum := "c76379cbaf5eb56cc8d6a1c10667c8daf90cca68208d4cb926190025d79d5372", checked := Try.checked }
namespace Rows
def none {H : Type} : Left H := { results := [], args := [] }

/-- 'compasslaw04.WalkLevels': WHATEVER THE INPUT: true; the input reads as it did. -/
def walkLevelsSpec : ChangeSpec := { name := "walkLevels", fn := fun _ => fun
  | [d1, d2] => { results := [.lit (.bool true)], args := [d1, d2] }
  | _ => none }
def walkLevelsRow : OpenClaim := { program := "ytacklfnnpiobgaa", sum := "c76379cbaf5eb56cc8d6a1c10667c8daf90cca68208d4cb926190025d79d5372", func := "compass/compasslaw04.WalkLevels", spec := "walkLevels", apart := false }
def WalkLevelsSaid : Prop := walkLevelsRow.holds Try.pinned (OpenSpec.ofChange walkLevelsSpec)

/-- ITS FALSE NEIGHBOUR: 'it returns false'. Refute it at one input. -/
def walkLevelsWrong : ChangeSpec := { name := "walkLevels", fn := fun _ => fun
  | [d1, d2] => { results := [.lit (.bool false)], args := [d1, d2] }
  | _ => none }
def WalkLevelsWrongFalsely : Prop := walkLevelsRow.holds Try.pinned (OpenSpec.ofChange walkLevelsWrong)

/-- 'compasslaw04.WalkOrders': WHATEVER THE INPUT: true; the input reads as it did. -/
def walkOrdersSpec : ChangeSpec := { name := "walkOrders", fn := fun _ => fun
  | [d] => { results := [.lit (.bool true)], args := [d] }
  | _ => none }
def walkOrdersRow : OpenClaim := { program := "ytacklfnnpiobgaa", sum := "c76379cbaf5eb56cc8d6a1c10667c8daf90cca68208d4cb926190025d79d5372", func := "compass/compasslaw04.WalkOrders", spec := "walkOrders", apart := false }
def WalkOrdersSaid : Prop := walkOrdersRow.holds Try.pinned (OpenSpec.ofChange walkOrdersSpec)

/-- ITS FALSE NEIGHBOUR: 'it returns false'. Refute it at one input. -/
def walkOrdersWrong : ChangeSpec := { name := "walkOrders", fn := fun _ => fun
  | [d] => { results := [.lit (.bool false)], args := [d] }
  | _ => none }
def WalkOrdersWrongFalsely : Prop := walkOrdersRow.holds Try.pinned (OpenSpec.ofChange walkOrdersWrong)

/-- 'compasslaw04.WalkNear': WHATEVER THE INPUT: true; the input reads as it did. -/
def walkNearSpec : ChangeSpec := { name := "walkNear", fn := fun _ => fun
  | [d1, d2] => { results := [.lit (.bool true)], args := [d1, d2] }
  | _ => none }
def walkNearRow : OpenClaim := { program := "ytacklfnnpiobgaa", sum := "c76379cbaf5eb56cc8d6a1c10667c8daf90cca68208d4cb926190025d79d5372", func := "compass/compasslaw04.WalkNear", spec := "walkNear", apart := false }
def WalkNearSaid : Prop := walkNearRow.holds Try.pinned (OpenSpec.ofChange walkNearSpec)

/-- ITS FALSE NEIGHBOUR: 'it returns false'. Refute it at one input. -/
def walkNearWrong : ChangeSpec := { name := "walkNear", fn := fun _ => fun
  | [d1, d2] => { results := [.lit (.bool false)], args := [d1, d2] }
  | _ => none }
def WalkNearWrongFalsely : Prop := walkNearRow.holds Try.pinned (OpenSpec.ofChange walkNearWrong)

/-- 'compasslaw04.WalkAcyclic': WHATEVER THE INPUT: true; the input reads as it did. -/
def walkAcyclicSpec : ChangeSpec := { name := "walkAcyclic", fn := fun _ => fun
  | [d] => { results := [.lit (.bool true)], args := [d] }
  | _ => none }
def walkAcyclicRow : OpenClaim := { program := "ytacklfnnpiobgaa", sum := "c76379cbaf5eb56cc8d6a1c10667c8daf90cca68208d4cb926190025d79d5372", func := "compass/compasslaw04.WalkAcyclic", spec := "walkAcyclic", apart := false }
def WalkAcyclicSaid : Prop := walkAcyclicRow.holds Try.pinned (OpenSpec.ofChange walkAcyclicSpec)

/-- ITS FALSE NEIGHBOUR: 'it returns false'. Refute it at one input. -/
def walkAcyclicWrong : ChangeSpec := { name := "walkAcyclic", fn := fun _ => fun
  | [d] => { results := [.lit (.bool false)], args := [d] }
  | _ => none }
def WalkAcyclicWrongFalsely : Prop := walkAcyclicRow.holds Try.pinned (OpenSpec.ofChange walkAcyclicWrong)

/-- 'compasslaw04.WalkVisits': WHATEVER THE INPUT: true; the input reads as it did. -/
def walkVisitsSpec : ChangeSpec := { name := "walkVisits", fn := fun _ => fun
  | [d] => { results := [.lit (.bool true)], args := [d] }
  | _ => none }
def walkVisitsRow : OpenClaim := { program := "ytacklfnnpiobgaa", sum := "c76379cbaf5eb56cc8d6a1c10667c8daf90cca68208d4cb926190025d79d5372", func := "compass/compasslaw04.WalkVisits", spec := "walkVisits", unfollowed := true, recurses := true, apart := false }
def WalkVisitsSaid : Prop := walkVisitsRow.holds Try.pinned (OpenSpec.ofChange walkVisitsSpec)

/-- ITS FALSE NEIGHBOUR: 'it returns false'. Refute it at one input. -/
def walkVisitsWrong : ChangeSpec := { name := "walkVisits", fn := fun _ => fun
  | [d] => { results := [.lit (.bool false)], args := [d] }
  | _ => none }
def WalkVisitsWrongFalsely : Prop := walkVisitsRow.holds Try.pinned (OpenSpec.ofChange walkVisitsWrong)

/-- 'compasslaw04.WalkNests': WHATEVER THE INPUT: true; the input reads as it did. -/
def walkNestsSpec : ChangeSpec := { name := "walkNests", fn := fun _ => fun
  | [d] => { results := [.lit (.bool true)], args := [d] }
  | _ => none }
def walkNestsRow : OpenClaim := { program := "ytacklfnnpiobgaa", sum := "c76379cbaf5eb56cc8d6a1c10667c8daf90cca68208d4cb926190025d79d5372", func := "compass/compasslaw04.WalkNests", spec := "walkNests", unfollowed := true, recurses := true, apart := false }
def WalkNestsSaid : Prop := walkNestsRow.holds Try.pinned (OpenSpec.ofChange walkNestsSpec)

/-- ITS FALSE NEIGHBOUR: 'it returns false'. Refute it at one input. -/
def walkNestsWrong : ChangeSpec := { name := "walkNests", fn := fun _ => fun
  | [d] => { results := [.lit (.bool false)], args := [d] }
  | _ => none }
def WalkNestsWrongFalsely : Prop := walkNestsRow.holds Try.pinned (OpenSpec.ofChange walkNestsWrong)

/-- 'compasslaw04.WalkParts': WHATEVER THE INPUT: true; the input reads as it did. -/
def walkPartsSpec : ChangeSpec := { name := "walkParts", fn := fun _ => fun
  | [d] => { results := [.lit (.bool true)], args := [d] }
  | _ => none }
def walkPartsRow : OpenClaim := { program := "ytacklfnnpiobgaa", sum := "c76379cbaf5eb56cc8d6a1c10667c8daf90cca68208d4cb926190025d79d5372", func := "compass/compasslaw04.WalkParts", spec := "walkParts", unfollowed := true, recurses := true, apart := false }
def WalkPartsSaid : Prop := walkPartsRow.holds Try.pinned (OpenSpec.ofChange walkPartsSpec)

/-- ITS FALSE NEIGHBOUR: 'it returns false'. Refute it at one input. -/
def walkPartsWrong : ChangeSpec := { name := "walkParts", fn := fun _ => fun
  | [d] => { results := [.lit (.bool false)], args := [d] }
  | _ => none }
def WalkPartsWrongFalsely : Prop := walkPartsRow.holds Try.pinned (OpenSpec.ofChange walkPartsWrong)

/-- 'compasslaw04.WalkMutual': WHATEVER THE INPUT: true; the input reads as it did. -/
def walkMutualSpec : ChangeSpec := { name := "walkMutual", fn := fun _ => fun
  | [d1, d2, d3] => { results := [.lit (.bool true)], args := [d1, d2, d3] }
  | _ => none }
def walkMutualRow : OpenClaim := { program := "ytacklfnnpiobgaa", sum := "c76379cbaf5eb56cc8d6a1c10667c8daf90cca68208d4cb926190025d79d5372", func := "compass/compasslaw04.WalkMutual", spec := "walkMutual", unfollowed := true, recurses := true, apart := false }
def WalkMutualSaid : Prop := walkMutualRow.holds Try.pinned (OpenSpec.ofChange walkMutualSpec)

/-- ITS FALSE NEIGHBOUR: 'it returns false'. Refute it at one input. -/
def walkMutualWrong : ChangeSpec := { name := "walkMutual", fn := fun _ => fun
  | [d1, d2, d3] => { results := [.lit (.bool false)], args := [d1, d2, d3] }
  | _ => none }
def WalkMutualWrongFalsely : Prop := walkMutualRow.holds Try.pinned (OpenSpec.ofChange walkMutualWrong)

/-- 'compasslaw04.WalkKeeps': WHATEVER THE INPUT: true; the input reads as it did. -/
def walkKeepsSpec : ChangeSpec := { name := "walkKeeps", fn := fun _ => fun
  | [d1, d2] => { results := [.lit (.bool true)], args := [d1, d2] }
  | _ => none }
def walkKeepsRow : OpenClaim := { program := "ytacklfnnpiobgaa", sum := "c76379cbaf5eb56cc8d6a1c10667c8daf90cca68208d4cb926190025d79d5372", func := "compass/compasslaw04.WalkKeeps", spec := "walkKeeps", unfollowed := true, recurses := true, apart := false }
def WalkKeepsSaid : Prop := walkKeepsRow.holds Try.pinned (OpenSpec.ofChange walkKeepsSpec)

/-- ITS FALSE NEIGHBOUR: 'it returns false'. Refute it at one input. -/
def walkKeepsWrong : ChangeSpec := { name := "walkKeeps", fn := fun _ => fun
  | [d1, d2] => { results := [.lit (.bool false)], args := [d1, d2] }
  | _ => none }
def WalkKeepsWrongFalsely : Prop := walkKeepsRow.holds Try.pinned (OpenSpec.ofChange walkKeepsWrong)

/- THE SECOND FORM. 'bulk': how many values and letters a reading holds, each counted each time it is reached (what is shared counts as often as it is met; a slice's spare places count too). A statement '..UptoSaid' is the law's where the arguments, and the package variables that the reading takes, are together of bulk at most 1048576: NARROWER than '..Said'. Prove '..Said' where nothing that the law and all that it calls make is longer than what came in: it says more and counts as full. Else prove '..UptoSaid'. A law counts once. -/
mutual
def uptoBulk {H : Type} : DataW H → Nat
  | .lit (.string bytes) => bytes.length + 1
  | .lit _ => 1
  | .nil => 1
  | .ptr d => uptoBulk d + 1
  | .slice elems spare => uptoBulkAll elems + uptoBulkAll spare + 1
  | .agg parts => uptoBulkAll parts + 1
  | .iface _ d => uptoBulk d + 1
  | .map entries => uptoBulkEntries entries + 1
  | .held _ => 1
def uptoBulkAll {H : Type} : List (DataW H) → Nat
  | [] => 0
  | d :: r => uptoBulk d + uptoBulkAll r
def uptoBulkEntries {H : Type} : List (Lit × DataW H) → Nat
  | [] => 0
  | x :: r => uptoBulkEntry x + uptoBulkEntries r
def uptoBulkEntry {H : Type} : Lit × DataW H → Nat
  | (.string bytes, d) => bytes.length + uptoBulk d + 1
  | (_, d) => uptoBulk d + 1
 end
def uptoSmall : (H : Type) → List (DataW H) → Bool := fun _ ds => decide (uptoBulkAll ds ≤ 1048576)
def OpenSpec.upto (s : _root_.Go.ChangeSpec) : _root_.Go.OpenSpec := { _root_.Go.OpenSpec.ofChange s with cond := some uptoSmall }

/-- 'compasslaw04.WalkLevels', WHERE WHAT IT READS IS OF BULK AT MOST 1048576: true; the input reads as it did. -/
def walkLevelsUptoRow : OpenClaim := { program := "ytacklfnnpiobgaa", sum := "c76379cbaf5eb56cc8d6a1c10667c8daf90cca68208d4cb926190025d79d5372", func := "compass/compasslaw04.WalkLevels", spec := "walkLevels", apart := false, narrowed := true }
def WalkLevelsUptoSaid : Prop := walkLevelsUptoRow.holds Try.pinned (OpenSpec.upto walkLevelsSpec)

/-- 'compasslaw04.WalkOrders', WHERE WHAT IT READS IS OF BULK AT MOST 1048576: true; the input reads as it did. -/
def walkOrdersUptoRow : OpenClaim := { program := "ytacklfnnpiobgaa", sum := "c76379cbaf5eb56cc8d6a1c10667c8daf90cca68208d4cb926190025d79d5372", func := "compass/compasslaw04.WalkOrders", spec := "walkOrders", apart := false, narrowed := true }
def WalkOrdersUptoSaid : Prop := walkOrdersUptoRow.holds Try.pinned (OpenSpec.upto walkOrdersSpec)

/-- 'compasslaw04.WalkNear', WHERE WHAT IT READS IS OF BULK AT MOST 1048576: true; the input reads as it did. -/
def walkNearUptoRow : OpenClaim := { program := "ytacklfnnpiobgaa", sum := "c76379cbaf5eb56cc8d6a1c10667c8daf90cca68208d4cb926190025d79d5372", func := "compass/compasslaw04.WalkNear", spec := "walkNear", apart := false, narrowed := true }
def WalkNearUptoSaid : Prop := walkNearUptoRow.holds Try.pinned (OpenSpec.upto walkNearSpec)

/-- 'compasslaw04.WalkAcyclic', WHERE WHAT IT READS IS OF BULK AT MOST 1048576: true; the input reads as it did. -/
def walkAcyclicUptoRow : OpenClaim := { program := "ytacklfnnpiobgaa", sum := "c76379cbaf5eb56cc8d6a1c10667c8daf90cca68208d4cb926190025d79d5372", func := "compass/compasslaw04.WalkAcyclic", spec := "walkAcyclic", apart := false, narrowed := true }
def WalkAcyclicUptoSaid : Prop := walkAcyclicUptoRow.holds Try.pinned (OpenSpec.upto walkAcyclicSpec)

/-- 'compasslaw04.WalkVisits', WHERE WHAT IT READS IS OF BULK AT MOST 1048576: true; the input reads as it did. -/
def walkVisitsUptoRow : OpenClaim := { program := "ytacklfnnpiobgaa", sum := "c76379cbaf5eb56cc8d6a1c10667c8daf90cca68208d4cb926190025d79d5372", func := "compass/compasslaw04.WalkVisits", spec := "walkVisits", unfollowed := true, recurses := true, apart := false, narrowed := true }
def WalkVisitsUptoSaid : Prop := walkVisitsUptoRow.holds Try.pinned (OpenSpec.upto walkVisitsSpec)

/-- 'compasslaw04.WalkNests', WHERE WHAT IT READS IS OF BULK AT MOST 1048576: true; the input reads as it did. -/
def walkNestsUptoRow : OpenClaim := { program := "ytacklfnnpiobgaa", sum := "c76379cbaf5eb56cc8d6a1c10667c8daf90cca68208d4cb926190025d79d5372", func := "compass/compasslaw04.WalkNests", spec := "walkNests", unfollowed := true, recurses := true, apart := false, narrowed := true }
def WalkNestsUptoSaid : Prop := walkNestsUptoRow.holds Try.pinned (OpenSpec.upto walkNestsSpec)

/-- 'compasslaw04.WalkParts', WHERE WHAT IT READS IS OF BULK AT MOST 1048576: true; the input reads as it did. -/
def walkPartsUptoRow : OpenClaim := { program := "ytacklfnnpiobgaa", sum := "c76379cbaf5eb56cc8d6a1c10667c8daf90cca68208d4cb926190025d79d5372", func := "compass/compasslaw04.WalkParts", spec := "walkParts", unfollowed := true, recurses := true, apart := false, narrowed := true }
def WalkPartsUptoSaid : Prop := walkPartsUptoRow.holds Try.pinned (OpenSpec.upto walkPartsSpec)

/-- 'compasslaw04.WalkMutual', WHERE WHAT IT READS IS OF BULK AT MOST 1048576: true; the input reads as it did. -/
def walkMutualUptoRow : OpenClaim := { program := "ytacklfnnpiobgaa", sum := "c76379cbaf5eb56cc8d6a1c10667c8daf90cca68208d4cb926190025d79d5372", func := "compass/compasslaw04.WalkMutual", spec := "walkMutual", unfollowed := true, recurses := true, apart := false, narrowed := true }
def WalkMutualUptoSaid : Prop := walkMutualUptoRow.holds Try.pinned (OpenSpec.upto walkMutualSpec)

/-- 'compasslaw04.WalkKeeps', WHERE WHAT IT READS IS OF BULK AT MOST 1048576: true; the input reads as it did. -/
def walkKeepsUptoRow : OpenClaim := { program := "ytacklfnnpiobgaa", sum := "c76379cbaf5eb56cc8d6a1c10667c8daf90cca68208d4cb926190025d79d5372", func := "compass/compasslaw04.WalkKeeps", spec := "walkKeeps", unfollowed := true, recurses := true, apart := false, narrowed := true }
def WalkKeepsUptoSaid : Prop := walkKeepsUptoRow.holds Try.pinned (OpenSpec.upto walkKeepsSpec)

end Rows
end Go.Proofs.Ytacklfnnpiobgaa
