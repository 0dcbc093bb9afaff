/-
  No cell of these rows narrows 'for every input' (looked for: loops, veiled, ifaces, maps, wideKeys, modest, calm, conditions, laid).
  DERIVED. THE GIVEN ROWS OF THIS SEAT. 12 by the template 'for every input the law returns true; each argument reads behind the call as it read before'; 0 by the template 'total and deterministic' (their statements: YtkdoihcjhccliaaTotals.lean).
  GIVEN WITH THE SEED: the statements are not yours to turn. If you find one false, say at which input.
  Laid BY PROGRAM, IN A SANDBOX (cutbox-rows.mjs): the forced cells as the released guide's own fill.sh prints them over the translation 9beaebbbdeb19f8c… (all of the seat's roots in one cut). By AI agents, Wed Nov 11 2026. No macro, syntax, notation, axiom, sorry.
-/
import Derived.Test.YtkdoihcjhccliaaChecked
import GoSem.Claim
import GoSem.ClaimJoined
import GoSem.ClaimMapViews
import Derived.JoinedTies
import Derived.KernelRfl
namespace Go.Proofs.Ytkdoihcjhccliaa
/- THE CELL 'sum', in the pinned program and in every row, IS THE sha256 OF THE DUMP (.gsa) THAT YtkdoihcjhccliaaProg.lean LOADS. Nothing in Lean hashes anything: it is a label: what it is worth is what the hold of that sum in a sandbox is worth. -/
noncomputable def Try.pinned : Pinned := { name := "ytkdoihcjhccliaa", sum := "9beaebbbdeb19f8cfbdeb6976e0d6d3d8186cfbaa4945215a42ca835733f4867", checked := Try.checked }
namespace Rows
def none {H : Type} : Left H := { results := [], args := [] }

/-- 'compasslaw11.ProofFlows': WHATEVER THE INPUT: true; the input reads as it did. -/
def proofFlowsSpec : ChangeSpec := { name := "proofFlows", fn := fun _ => fun
  | [d1, d2] => { results := [.lit (.bool true)], args := [d1, d2] }
  | _ => none }
def proofFlowsRow : OpenClaim := { program := "ytkdoihcjhccliaa", sum := "9beaebbbdeb19f8cfbdeb6976e0d6d3d8186cfbaa4945215a42ca835733f4867", func := "compass/compasslaw11.ProofFlows", spec := "proofFlows", unfollowed := true, recurses := true, apart := false }
def ProofFlowsSaid : Prop := proofFlowsRow.holds Try.pinned (OpenSpec.ofChange proofFlowsSpec)

/-- ITS FALSE NEIGHBOUR: 'it returns false'. Refute it at one input. -/
def proofFlowsWrong : ChangeSpec := { name := "proofFlows", fn := fun _ => fun
  | [d1, d2] => { results := [.lit (.bool false)], args := [d1, d2] }
  | _ => none }
def ProofFlowsWrongFalsely : Prop := proofFlowsRow.holds Try.pinned (OpenSpec.ofChange proofFlowsWrong)

/-- 'compasslaw11.ProofFlowSound': WHATEVER THE INPUT: true; the input reads as it did. -/
def proofFlowSoundSpec : ChangeSpec := { name := "proofFlowSound", fn := fun _ => fun
  | [d1, d2, d3] => { results := [.lit (.bool true)], args := [d1, d2, d3] }
  | _ => none }
def proofFlowSoundRow : OpenClaim := { program := "ytkdoihcjhccliaa", sum := "9beaebbbdeb19f8cfbdeb6976e0d6d3d8186cfbaa4945215a42ca835733f4867", func := "compass/compasslaw11.ProofFlowSound", spec := "proofFlowSound", unfollowed := true, recurses := true, apart := false }
def ProofFlowSoundSaid : Prop := proofFlowSoundRow.holds Try.pinned (OpenSpec.ofChange proofFlowSoundSpec)

/-- ITS FALSE NEIGHBOUR: 'it returns false'. Refute it at one input. -/
def proofFlowSoundWrong : ChangeSpec := { name := "proofFlowSound", fn := fun _ => fun
  | [d1, d2, d3] => { results := [.lit (.bool false)], args := [d1, d2, d3] }
  | _ => none }
def ProofFlowSoundWrongFalsely : Prop := proofFlowSoundRow.holds Try.pinned (OpenSpec.ofChange proofFlowSoundWrong)

/-- 'compasslaw11.ProofFlowFull': WHATEVER THE INPUT: true; the input reads as it did. -/
def proofFlowFullSpec : ChangeSpec := { name := "proofFlowFull", fn := fun _ => fun
  | [d1, d2, d3] => { results := [.lit (.bool true)], args := [d1, d2, d3] }
  | _ => none }
def proofFlowFullRow : OpenClaim := { program := "ytkdoihcjhccliaa", sum := "9beaebbbdeb19f8cfbdeb6976e0d6d3d8186cfbaa4945215a42ca835733f4867", func := "compass/compasslaw11.ProofFlowFull", spec := "proofFlowFull", unfollowed := true, recurses := true, apart := false }
def ProofFlowFullSaid : Prop := proofFlowFullRow.holds Try.pinned (OpenSpec.ofChange proofFlowFullSpec)

/-- ITS FALSE NEIGHBOUR: 'it returns false'. Refute it at one input. -/
def proofFlowFullWrong : ChangeSpec := { name := "proofFlowFull", fn := fun _ => fun
  | [d1, d2, d3] => { results := [.lit (.bool false)], args := [d1, d2, d3] }
  | _ => none }
def ProofFlowFullWrongFalsely : Prop := proofFlowFullRow.holds Try.pinned (OpenSpec.ofChange proofFlowFullWrong)

/-- 'compasslaw11.ProofPlans': WHATEVER THE INPUT: true; the input reads as it did. -/
def proofPlansSpec : ChangeSpec := { name := "proofPlans", fn := fun _ => fun
  | [d1, d2, d3] => { results := [.lit (.bool true)], args := [d1, d2, d3] }
  | _ => none }
def proofPlansRow : OpenClaim := { program := "ytkdoihcjhccliaa", sum := "9beaebbbdeb19f8cfbdeb6976e0d6d3d8186cfbaa4945215a42ca835733f4867", func := "compass/compasslaw11.ProofPlans", spec := "proofPlans", unfollowed := true, recurses := true, apart := false }
def ProofPlansSaid : Prop := proofPlansRow.holds Try.pinned (OpenSpec.ofChange proofPlansSpec)

/-- ITS FALSE NEIGHBOUR: 'it returns false'. Refute it at one input. -/
def proofPlansWrong : ChangeSpec := { name := "proofPlans", fn := fun _ => fun
  | [d1, d2, d3] => { results := [.lit (.bool false)], args := [d1, d2, d3] }
  | _ => none }
def ProofPlansWrongFalsely : Prop := proofPlansRow.holds Try.pinned (OpenSpec.ofChange proofPlansWrong)

/-- 'compasslaw11.ProofRounds': WHATEVER THE INPUT: true; the input reads as it did. -/
def proofRoundsSpec : ChangeSpec := { name := "proofRounds", fn := fun _ => fun
  | [d1, d2, d3] => { results := [.lit (.bool true)], args := [d1, d2, d3] }
  | _ => none }
def proofRoundsRow : OpenClaim := { program := "ytkdoihcjhccliaa", sum := "9beaebbbdeb19f8cfbdeb6976e0d6d3d8186cfbaa4945215a42ca835733f4867", func := "compass/compasslaw11.ProofRounds", spec := "proofRounds", unfollowed := true, recurses := true, apart := false }
def ProofRoundsSaid : Prop := proofRoundsRow.holds Try.pinned (OpenSpec.ofChange proofRoundsSpec)

/-- ITS FALSE NEIGHBOUR: 'it returns false'. Refute it at one input. -/
def proofRoundsWrong : ChangeSpec := { name := "proofRounds", fn := fun _ => fun
  | [d1, d2, d3] => { results := [.lit (.bool false)], args := [d1, d2, d3] }
  | _ => none }
def ProofRoundsWrongFalsely : Prop := proofRoundsRow.holds Try.pinned (OpenSpec.ofChange proofRoundsWrong)

/-- 'compasslaw11.ProofPlanSound': WHATEVER THE INPUT: true; the input reads as it did. -/
def proofPlanSoundSpec : ChangeSpec := { name := "proofPlanSound", fn := fun _ => fun
  | [d1, d2, d3] => { results := [.lit (.bool true)], args := [d1, d2, d3] }
  | _ => none }
def proofPlanSoundRow : OpenClaim := { program := "ytkdoihcjhccliaa", sum := "9beaebbbdeb19f8cfbdeb6976e0d6d3d8186cfbaa4945215a42ca835733f4867", func := "compass/compasslaw11.ProofPlanSound", spec := "proofPlanSound", unfollowed := true, recurses := true, apart := false }
def ProofPlanSoundSaid : Prop := proofPlanSoundRow.holds Try.pinned (OpenSpec.ofChange proofPlanSoundSpec)

/-- ITS FALSE NEIGHBOUR: 'it returns false'. Refute it at one input. -/
def proofPlanSoundWrong : ChangeSpec := { name := "proofPlanSound", fn := fun _ => fun
  | [d1, d2, d3] => { results := [.lit (.bool false)], args := [d1, d2, d3] }
  | _ => none }
def ProofPlanSoundWrongFalsely : Prop := proofPlanSoundRow.holds Try.pinned (OpenSpec.ofChange proofPlanSoundWrong)

/-- 'compasslaw11.ProofRoundSound': WHATEVER THE INPUT: true; the input reads as it did. -/
def proofRoundSoundSpec : ChangeSpec := { name := "proofRoundSound", fn := fun _ => fun
  | [d1, d2, d3] => { results := [.lit (.bool true)], args := [d1, d2, d3] }
  | _ => none }
def proofRoundSoundRow : OpenClaim := { program := "ytkdoihcjhccliaa", sum := "9beaebbbdeb19f8cfbdeb6976e0d6d3d8186cfbaa4945215a42ca835733f4867", func := "compass/compasslaw11.ProofRoundSound", spec := "proofRoundSound", unfollowed := true, recurses := true, apart := false }
def ProofRoundSoundSaid : Prop := proofRoundSoundRow.holds Try.pinned (OpenSpec.ofChange proofRoundSoundSpec)

/-- ITS FALSE NEIGHBOUR: 'it returns false'. Refute it at one input. -/
def proofRoundSoundWrong : ChangeSpec := { name := "proofRoundSound", fn := fun _ => fun
  | [d1, d2, d3] => { results := [.lit (.bool false)], args := [d1, d2, d3] }
  | _ => none }
def ProofRoundSoundWrongFalsely : Prop := proofRoundSoundRow.holds Try.pinned (OpenSpec.ofChange proofRoundSoundWrong)

/-- 'compasslaw11.ProofPlanFull': WHATEVER THE INPUT: true; the input reads as it did. -/
def proofPlanFullSpec : ChangeSpec := { name := "proofPlanFull", fn := fun _ => fun
  | [d1, d2] => { results := [.lit (.bool true)], args := [d1, d2] }
  | _ => none }
def proofPlanFullRow : OpenClaim := { program := "ytkdoihcjhccliaa", sum := "9beaebbbdeb19f8cfbdeb6976e0d6d3d8186cfbaa4945215a42ca835733f4867", func := "compass/compasslaw11.ProofPlanFull", spec := "proofPlanFull", unfollowed := true, recurses := true, apart := false }
def ProofPlanFullSaid : Prop := proofPlanFullRow.holds Try.pinned (OpenSpec.ofChange proofPlanFullSpec)

/-- ITS FALSE NEIGHBOUR: 'it returns false'. Refute it at one input. -/
def proofPlanFullWrong : ChangeSpec := { name := "proofPlanFull", fn := fun _ => fun
  | [d1, d2] => { results := [.lit (.bool false)], args := [d1, d2] }
  | _ => none }
def ProofPlanFullWrongFalsely : Prop := proofPlanFullRow.holds Try.pinned (OpenSpec.ofChange proofPlanFullWrong)

/-- 'compasslaw11.ProofRoundFull': WHATEVER THE INPUT: true; the input reads as it did. -/
def proofRoundFullSpec : ChangeSpec := { name := "proofRoundFull", fn := fun _ => fun
  | [d] => { results := [.lit (.bool true)], args := [d] }
  | _ => none }
def proofRoundFullRow : OpenClaim := { program := "ytkdoihcjhccliaa", sum := "9beaebbbdeb19f8cfbdeb6976e0d6d3d8186cfbaa4945215a42ca835733f4867", func := "compass/compasslaw11.ProofRoundFull", spec := "proofRoundFull", unfollowed := true, recurses := true, apart := false }
def ProofRoundFullSaid : Prop := proofRoundFullRow.holds Try.pinned (OpenSpec.ofChange proofRoundFullSpec)

/-- ITS FALSE NEIGHBOUR: 'it returns false'. Refute it at one input. -/
def proofRoundFullWrong : ChangeSpec := { name := "proofRoundFull", fn := fun _ => fun
  | [d] => { results := [.lit (.bool false)], args := [d] }
  | _ => none }
def ProofRoundFullWrongFalsely : Prop := proofRoundFullRow.holds Try.pinned (OpenSpec.ofChange proofRoundFullWrong)

/-- 'compasslaw11.ProofLoops': WHATEVER THE INPUT: true; the input reads as it did. -/
def proofLoopsSpec : ChangeSpec := { name := "proofLoops", fn := fun _ => fun
  | [d1, d2, d3] => { results := [.lit (.bool true)], args := [d1, d2, d3] }
  | _ => none }
def proofLoopsRow : OpenClaim := { program := "ytkdoihcjhccliaa", sum := "9beaebbbdeb19f8cfbdeb6976e0d6d3d8186cfbaa4945215a42ca835733f4867", func := "compass/compasslaw11.ProofLoops", spec := "proofLoops", unfollowed := true, recurses := true, apart := false }
def ProofLoopsSaid : Prop := proofLoopsRow.holds Try.pinned (OpenSpec.ofChange proofLoopsSpec)

/-- ITS FALSE NEIGHBOUR: 'it returns false'. Refute it at one input. -/
def proofLoopsWrong : ChangeSpec := { name := "proofLoops", fn := fun _ => fun
  | [d1, d2, d3] => { results := [.lit (.bool false)], args := [d1, d2, d3] }
  | _ => none }
def ProofLoopsWrongFalsely : Prop := proofLoopsRow.holds Try.pinned (OpenSpec.ofChange proofLoopsWrong)

/-- 'compasslaw11.ProofLoopFull': WHATEVER THE INPUT: true; the input reads as it did. -/
def proofLoopFullSpec : ChangeSpec := { name := "proofLoopFull", fn := fun _ => fun
  | [d] => { results := [.lit (.bool true)], args := [d] }
  | _ => none }
def proofLoopFullRow : OpenClaim := { program := "ytkdoihcjhccliaa", sum := "9beaebbbdeb19f8cfbdeb6976e0d6d3d8186cfbaa4945215a42ca835733f4867", func := "compass/compasslaw11.ProofLoopFull", spec := "proofLoopFull", unfollowed := true, recurses := true, apart := false }
def ProofLoopFullSaid : Prop := proofLoopFullRow.holds Try.pinned (OpenSpec.ofChange proofLoopFullSpec)

/-- ITS FALSE NEIGHBOUR: 'it returns false'. Refute it at one input. -/
def proofLoopFullWrong : ChangeSpec := { name := "proofLoopFull", fn := fun _ => fun
  | [d] => { results := [.lit (.bool false)], args := [d] }
  | _ => none }
def ProofLoopFullWrongFalsely : Prop := proofLoopFullRow.holds Try.pinned (OpenSpec.ofChange proofLoopFullWrong)

/-- 'compasslaw11.ProofMeanSound': WHATEVER THE INPUT: true; the input reads as it did. -/
def proofMeanSoundSpec : ChangeSpec := { name := "proofMeanSound", fn := fun _ => fun
  | [d1, d2, d3] => { results := [.lit (.bool true)], args := [d1, d2, d3] }
  | _ => none }
def proofMeanSoundRow : OpenClaim := { program := "ytkdoihcjhccliaa", sum := "9beaebbbdeb19f8cfbdeb6976e0d6d3d8186cfbaa4945215a42ca835733f4867", func := "compass/compasslaw11.ProofMeanSound", spec := "proofMeanSound", unfollowed := true, recurses := true, apart := false }
def ProofMeanSoundSaid : Prop := proofMeanSoundRow.holds Try.pinned (OpenSpec.ofChange proofMeanSoundSpec)

/-- ITS FALSE NEIGHBOUR: 'it returns false'. Refute it at one input. -/
def proofMeanSoundWrong : ChangeSpec := { name := "proofMeanSound", fn := fun _ => fun
  | [d1, d2, d3] => { results := [.lit (.bool false)], args := [d1, d2, d3] }
  | _ => none }
def ProofMeanSoundWrongFalsely : Prop := proofMeanSoundRow.holds Try.pinned (OpenSpec.ofChange proofMeanSoundWrong)

/- THE SECOND FORM. 'bulk': how many values and letters a reading holds, each counted each time it is reached (what is shared counts as often as it is met; a slice's spare places count too). A statement '..UptoSaid' is the law's where the arguments, and the package variables that the reading takes, are together of bulk at most 1048576: NARROWER than '..Said'. Prove '..Said' where nothing that the law and all that it calls make is longer than what came in: it says more and counts as full. Else prove '..UptoSaid'. A law counts once. -/
mutual
def uptoBulk {H : Type} : DataW H → Nat
  | .lit (.string bytes) => bytes.length + 1
  | .lit _ => 1
  | .nil => 1
  | .ptr d => uptoBulk d + 1
  | .slice elems spare => uptoBulkAll elems + uptoBulkAll spare + 1
  | .agg parts => uptoBulkAll parts + 1
  | .iface _ d => uptoBulk d + 1
  | .map entries => uptoBulkEntries entries + 1
  | .held _ => 1
def uptoBulkAll {H : Type} : List (DataW H) → Nat
  | [] => 0
  | d :: r => uptoBulk d + uptoBulkAll r
def uptoBulkEntries {H : Type} : List (Lit × DataW H) → Nat
  | [] => 0
  | x :: r => uptoBulkEntry x + uptoBulkEntries r
def uptoBulkEntry {H : Type} : Lit × DataW H → Nat
  | (.string bytes, d) => bytes.length + uptoBulk d + 1
  | (_, d) => uptoBulk d + 1
 end
def uptoSmall : (H : Type) → List (DataW H) → Bool := fun _ ds => decide (uptoBulkAll ds ≤ 1048576)
def OpenSpec.upto (s : _root_.Go.ChangeSpec) : _root_.Go.OpenSpec := { _root_.Go.OpenSpec.ofChange s with cond := some uptoSmall }

/-- 'compasslaw11.ProofFlows', WHERE WHAT IT READS IS OF BULK AT MOST 1048576: true; the input reads as it did. -/
def proofFlowsUptoRow : OpenClaim := { program := "ytkdoihcjhccliaa", sum := "9beaebbbdeb19f8cfbdeb6976e0d6d3d8186cfbaa4945215a42ca835733f4867", func := "compass/compasslaw11.ProofFlows", spec := "proofFlows", unfollowed := true, recurses := true, apart := false, narrowed := true }
def ProofFlowsUptoSaid : Prop := proofFlowsUptoRow.holds Try.pinned (OpenSpec.upto proofFlowsSpec)

/-- 'compasslaw11.ProofFlowSound', WHERE WHAT IT READS IS OF BULK AT MOST 1048576: true; the input reads as it did. -/
def proofFlowSoundUptoRow : OpenClaim := { program := "ytkdoihcjhccliaa", sum := "9beaebbbdeb19f8cfbdeb6976e0d6d3d8186cfbaa4945215a42ca835733f4867", func := "compass/compasslaw11.ProofFlowSound", spec := "proofFlowSound", unfollowed := true, recurses := true, apart := false, narrowed := true }
def ProofFlowSoundUptoSaid : Prop := proofFlowSoundUptoRow.holds Try.pinned (OpenSpec.upto proofFlowSoundSpec)

/-- 'compasslaw11.ProofFlowFull', WHERE WHAT IT READS IS OF BULK AT MOST 1048576: true; the input reads as it did. -/
def proofFlowFullUptoRow : OpenClaim := { program := "ytkdoihcjhccliaa", sum := "9beaebbbdeb19f8cfbdeb6976e0d6d3d8186cfbaa4945215a42ca835733f4867", func := "compass/compasslaw11.ProofFlowFull", spec := "proofFlowFull", unfollowed := true, recurses := true, apart := false, narrowed := true }
def ProofFlowFullUptoSaid : Prop := proofFlowFullUptoRow.holds Try.pinned (OpenSpec.upto proofFlowFullSpec)

/-- 'compasslaw11.ProofPlans', WHERE WHAT IT READS IS OF BULK AT MOST 1048576: true; the input reads as it did. -/
def proofPlansUptoRow : OpenClaim := { program := "ytkdoihcjhccliaa", sum := "9beaebbbdeb19f8cfbdeb6976e0d6d3d8186cfbaa4945215a42ca835733f4867", func := "compass/compasslaw11.ProofPlans", spec := "proofPlans", unfollowed := true, recurses := true, apart := false, narrowed := true }
def ProofPlansUptoSaid : Prop := proofPlansUptoRow.holds Try.pinned (OpenSpec.upto proofPlansSpec)

/-- 'compasslaw11.ProofRounds', WHERE WHAT IT READS IS OF BULK AT MOST 1048576: true; the input reads as it did. -/
def proofRoundsUptoRow : OpenClaim := { program := "ytkdoihcjhccliaa", sum := "9beaebbbdeb19f8cfbdeb6976e0d6d3d8186cfbaa4945215a42ca835733f4867", func := "compass/compasslaw11.ProofRounds", spec := "proofRounds", unfollowed := true, recurses := true, apart := false, narrowed := true }
def ProofRoundsUptoSaid : Prop := proofRoundsUptoRow.holds Try.pinned (OpenSpec.upto proofRoundsSpec)

/-- 'compasslaw11.ProofPlanSound', WHERE WHAT IT READS IS OF BULK AT MOST 1048576: true; the input reads as it did. -/
def proofPlanSoundUptoRow : OpenClaim := { program := "ytkdoihcjhccliaa", sum := "9beaebbbdeb19f8cfbdeb6976e0d6d3d8186cfbaa4945215a42ca835733f4867", func := "compass/compasslaw11.ProofPlanSound", spec := "proofPlanSound", unfollowed := true, recurses := true, apart := false, narrowed := true }
def ProofPlanSoundUptoSaid : Prop := proofPlanSoundUptoRow.holds Try.pinned (OpenSpec.upto proofPlanSoundSpec)

/-- 'compasslaw11.ProofRoundSound', WHERE WHAT IT READS IS OF BULK AT MOST 1048576: true; the input reads as it did. -/
def proofRoundSoundUptoRow : OpenClaim := { program := "ytkdoihcjhccliaa", sum := "9beaebbbdeb19f8cfbdeb6976e0d6d3d8186cfbaa4945215a42ca835733f4867", func := "compass/compasslaw11.ProofRoundSound", spec := "proofRoundSound", unfollowed := true, recurses := true, apart := false, narrowed := true }
def ProofRoundSoundUptoSaid : Prop := proofRoundSoundUptoRow.holds Try.pinned (OpenSpec.upto proofRoundSoundSpec)

/-- 'compasslaw11.ProofPlanFull', WHERE WHAT IT READS IS OF BULK AT MOST 1048576: true; the input reads as it did. -/
def proofPlanFullUptoRow : OpenClaim := { program := "ytkdoihcjhccliaa", sum := "9beaebbbdeb19f8cfbdeb6976e0d6d3d8186cfbaa4945215a42ca835733f4867", func := "compass/compasslaw11.ProofPlanFull", spec := "proofPlanFull", unfollowed := true, recurses := true, apart := false, narrowed := true }
def ProofPlanFullUptoSaid : Prop := proofPlanFullUptoRow.holds Try.pinned (OpenSpec.upto proofPlanFullSpec)

/-- 'compasslaw11.ProofRoundFull', WHERE WHAT IT READS IS OF BULK AT MOST 1048576: true; the input reads as it did. -/
def proofRoundFullUptoRow : OpenClaim := { program := "ytkdoihcjhccliaa", sum := "9beaebbbdeb19f8cfbdeb6976e0d6d3d8186cfbaa4945215a42ca835733f4867", func := "compass/compasslaw11.ProofRoundFull", spec := "proofRoundFull", unfollowed := true, recurses := true, apart := false, narrowed := true }
def ProofRoundFullUptoSaid : Prop := proofRoundFullUptoRow.holds Try.pinned (OpenSpec.upto proofRoundFullSpec)

/-- 'compasslaw11.ProofLoops', WHERE WHAT IT READS IS OF BULK AT MOST 1048576: true; the input reads as it did. -/
def proofLoopsUptoRow : OpenClaim := { program := "ytkdoihcjhccliaa", sum := "9beaebbbdeb19f8cfbdeb6976e0d6d3d8186cfbaa4945215a42ca835733f4867", func := "compass/compasslaw11.ProofLoops", spec := "proofLoops", unfollowed := true, recurses := true, apart := false, narrowed := true }
def ProofLoopsUptoSaid : Prop := proofLoopsUptoRow.holds Try.pinned (OpenSpec.upto proofLoopsSpec)

/-- 'compasslaw11.ProofLoopFull', WHERE WHAT IT READS IS OF BULK AT MOST 1048576: true; the input reads as it did. -/
def proofLoopFullUptoRow : OpenClaim := { program := "ytkdoihcjhccliaa", sum := "9beaebbbdeb19f8cfbdeb6976e0d6d3d8186cfbaa4945215a42ca835733f4867", func := "compass/compasslaw11.ProofLoopFull", spec := "proofLoopFull", unfollowed := true, recurses := true, apart := false, narrowed := true }
def ProofLoopFullUptoSaid : Prop := proofLoopFullUptoRow.holds Try.pinned (OpenSpec.upto proofLoopFullSpec)

/-- 'compasslaw11.ProofMeanSound', WHERE WHAT IT READS IS OF BULK AT MOST 1048576: true; the input reads as it did. -/
def proofMeanSoundUptoRow : OpenClaim := { program := "ytkdoihcjhccliaa", sum := "9beaebbbdeb19f8cfbdeb6976e0d6d3d8186cfbaa4945215a42ca835733f4867", func := "compass/compasslaw11.ProofMeanSound", spec := "proofMeanSound", unfollowed := true, recurses := true, apart := false, narrowed := true }
def ProofMeanSoundUptoSaid : Prop := proofMeanSoundUptoRow.holds Try.pinned (OpenSpec.upto proofMeanSoundSpec)

end Rows
end Go.Proofs.Ytkdoihcjhccliaa
