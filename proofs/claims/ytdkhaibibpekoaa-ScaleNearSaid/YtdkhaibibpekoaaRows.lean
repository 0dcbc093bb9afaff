/-
  No cell of these rows narrows 'for every input' (looked for: loops, veiled, ifaces, maps, wideKeys, modest, calm, conditions, laid).
  DERIVED. THE GIVEN ROWS OF THIS SEAT. 3 by the template 'for every input the law returns true; each argument reads behind the call as it read before'; 0 by the template 'total and deterministic' (their statements: YtdkhaibibpekoaaTotals.lean).
  GIVEN WITH THE SEED: the statements are not yours to turn. If you find one false, say at which input.
  Laid BY PROGRAM, IN A SANDBOX (cutbox-rows.mjs): the forced cells as the released guide's own fill.sh prints them over the translation 66e78ea17a43cb03… (all of the seat's roots in one cut). By AI agents, Wed Nov 11 2026. No macro, syntax, notation, axiom, sorry.
-/
import Derived.Test.YtdkhaibibpekoaaChecked
import GoSem.Claim
import GoSem.ClaimJoined
import GoSem.ClaimMapViews
import Derived.JoinedTies
import Derived.KernelRfl
namespace Go.Proofs.Ytdkhaibibpekoaa
/- THE CELL 'sum', in the pinned program and in every row, IS THE sha256 OF THE DUMP (.gsa) THAT YtdkhaibibpekoaaProg.lean LOADS. Nothing in Lean hashes anything: it is a label: what it is worth is what the hold of that sum in a sandbox is worth. -/
noncomputable def Try.pinned : Pinned := { name := "ytdkhaibibpekoaa", sum := "66e78ea17a43cb03af702989bd1efcacec8e24a0f3a357467ef10c3fa754b6f4", checked := Try.checked }
namespace Rows
def none {H : Type} : Left H := { results := [], args := [] }

/-- 'compasslaw02.ScaleTotal': WHATEVER THE INPUT: true; the input reads as it did. -/
def scaleTotalSpec : ChangeSpec := { name := "scaleTotal", fn := fun _ => fun
  | [d1, d2, d3] => { results := [.lit (.bool true)], args := [d1, d2, d3] }
  | _ => none }
def scaleTotalRow : OpenClaim := { program := "ytdkhaibibpekoaa", sum := "66e78ea17a43cb03af702989bd1efcacec8e24a0f3a357467ef10c3fa754b6f4", func := "compass/compasslaw02.ScaleTotal", spec := "scaleTotal", inPlace := ["math.Float64bits", "math.Float64frombits"], apart := false }
def ScaleTotalSaid : Prop := scaleTotalRow.holds Try.pinned (OpenSpec.ofChange scaleTotalSpec)

/-- ITS FALSE NEIGHBOUR: 'it returns false'. Refute it at one input. -/
def scaleTotalWrong : ChangeSpec := { name := "scaleTotal", fn := fun _ => fun
  | [d1, d2, d3] => { results := [.lit (.bool false)], args := [d1, d2, d3] }
  | _ => none }
def ScaleTotalWrongFalsely : Prop := scaleTotalRow.holds Try.pinned (OpenSpec.ofChange scaleTotalWrong)

/-- 'compasslaw02.ScaleOrders': WHATEVER THE INPUT: true; the input reads as it did. -/
def scaleOrdersSpec : ChangeSpec := { name := "scaleOrders", fn := fun _ => fun
  | [d1, d2, d3] => { results := [.lit (.bool true)], args := [d1, d2, d3] }
  | _ => none }
def scaleOrdersRow : OpenClaim := { program := "ytdkhaibibpekoaa", sum := "66e78ea17a43cb03af702989bd1efcacec8e24a0f3a357467ef10c3fa754b6f4", func := "compass/compasslaw02.ScaleOrders", spec := "scaleOrders", inPlace := ["math.Float64bits", "math.Float64frombits"], apart := false }
def ScaleOrdersSaid : Prop := scaleOrdersRow.holds Try.pinned (OpenSpec.ofChange scaleOrdersSpec)

/-- ITS FALSE NEIGHBOUR: 'it returns false'. Refute it at one input. -/
def scaleOrdersWrong : ChangeSpec := { name := "scaleOrders", fn := fun _ => fun
  | [d1, d2, d3] => { results := [.lit (.bool false)], args := [d1, d2, d3] }
  | _ => none }
def ScaleOrdersWrongFalsely : Prop := scaleOrdersRow.holds Try.pinned (OpenSpec.ofChange scaleOrdersWrong)

/-- 'compasslaw02.ScaleNear': WHATEVER THE INPUT: true; the input reads as it did. -/
def scaleNearSpec : ChangeSpec := { name := "scaleNear", fn := fun _ => fun
  | [d1, d2] => { results := [.lit (.bool true)], args := [d1, d2] }
  | _ => none }
def scaleNearRow : OpenClaim := { program := "ytdkhaibibpekoaa", sum := "66e78ea17a43cb03af702989bd1efcacec8e24a0f3a357467ef10c3fa754b6f4", func := "compass/compasslaw02.ScaleNear", spec := "scaleNear", inPlace := ["math.Float64bits", "math.Float64frombits"], named := ["math/bits.divideError", "math/bits.overflowError"], apart := false }
def ScaleNearSaid : Prop := scaleNearRow.holds Try.pinned (OpenSpec.ofChange scaleNearSpec)

/-- ITS FALSE NEIGHBOUR: 'it returns false'. Refute it at one input. -/
def scaleNearWrong : ChangeSpec := { name := "scaleNear", fn := fun _ => fun
  | [d1, d2] => { results := [.lit (.bool false)], args := [d1, d2] }
  | _ => none }
def ScaleNearWrongFalsely : Prop := scaleNearRow.holds Try.pinned (OpenSpec.ofChange scaleNearWrong)

/- THE SECOND FORM. 'bulk': how many values and letters a reading holds, each counted each time it is reached (what is shared counts as often as it is met; a slice's spare places count too). A statement '..UptoSaid' is the law's where the arguments, and the package variables that the reading takes, are together of bulk at most 1048576: NARROWER than '..Said'. Prove '..Said' where nothing that the law and all that it calls make is longer than what came in: it says more and counts as full. Else prove '..UptoSaid'. A law counts once. -/
mutual
def uptoBulk {H : Type} : DataW H → Nat
  | .lit (.string bytes) => bytes.length + 1
  | .lit _ => 1
  | .nil => 1
  | .ptr d => uptoBulk d + 1
  | .slice elems spare => uptoBulkAll elems + uptoBulkAll spare + 1
  | .agg parts => uptoBulkAll parts + 1
  | .iface _ d => uptoBulk d + 1
  | .map entries => uptoBulkEntries entries + 1
  | .held _ => 1
def uptoBulkAll {H : Type} : List (DataW H) → Nat
  | [] => 0
  | d :: r => uptoBulk d + uptoBulkAll r
def uptoBulkEntries {H : Type} : List (Lit × DataW H) → Nat
  | [] => 0
  | x :: r => uptoBulkEntry x + uptoBulkEntries r
def uptoBulkEntry {H : Type} : Lit × DataW H → Nat
  | (.string bytes, d) => bytes.length + uptoBulk d + 1
  | (_, d) => uptoBulk d + 1
 end
def uptoSmall : (H : Type) → List (DataW H) → Bool := fun _ ds => decide (uptoBulkAll ds ≤ 1048576)
def OpenSpec.upto (s : _root_.Go.ChangeSpec) : _root_.Go.OpenSpec := { _root_.Go.OpenSpec.ofChange s with cond := some uptoSmall }

/-- 'compasslaw02.ScaleTotal', WHERE WHAT IT READS IS OF BULK AT MOST 1048576: true; the input reads as it did. -/
def scaleTotalUptoRow : OpenClaim := { program := "ytdkhaibibpekoaa", sum := "66e78ea17a43cb03af702989bd1efcacec8e24a0f3a357467ef10c3fa754b6f4", func := "compass/compasslaw02.ScaleTotal", spec := "scaleTotal", inPlace := ["math.Float64bits", "math.Float64frombits"], apart := false, narrowed := true }
def ScaleTotalUptoSaid : Prop := scaleTotalUptoRow.holds Try.pinned (OpenSpec.upto scaleTotalSpec)

/-- 'compasslaw02.ScaleOrders', WHERE WHAT IT READS IS OF BULK AT MOST 1048576: true; the input reads as it did. -/
def scaleOrdersUptoRow : OpenClaim := { program := "ytdkhaibibpekoaa", sum := "66e78ea17a43cb03af702989bd1efcacec8e24a0f3a357467ef10c3fa754b6f4", func := "compass/compasslaw02.ScaleOrders", spec := "scaleOrders", inPlace := ["math.Float64bits", "math.Float64frombits"], apart := false, narrowed := true }
def ScaleOrdersUptoSaid : Prop := scaleOrdersUptoRow.holds Try.pinned (OpenSpec.upto scaleOrdersSpec)

/-- 'compasslaw02.ScaleNear', WHERE WHAT IT READS IS OF BULK AT MOST 1048576: true; the input reads as it did. -/
def scaleNearUptoRow : OpenClaim := { program := "ytdkhaibibpekoaa", sum := "66e78ea17a43cb03af702989bd1efcacec8e24a0f3a357467ef10c3fa754b6f4", func := "compass/compasslaw02.ScaleNear", spec := "scaleNear", inPlace := ["math.Float64bits", "math.Float64frombits"], named := ["math/bits.divideError", "math/bits.overflowError"], apart := false, narrowed := true }
def ScaleNearUptoSaid : Prop := scaleNearUptoRow.holds Try.pinned (OpenSpec.upto scaleNearSpec)

end Rows
end Go.Proofs.Ytdkhaibibpekoaa
