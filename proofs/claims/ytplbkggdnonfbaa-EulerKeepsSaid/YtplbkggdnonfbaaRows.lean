/-
  No cell of these rows narrows 'for every input' (looked for: loops, veiled, ifaces, maps, wideKeys, modest, calm, conditions, laid).
  DERIVED. THE GIVEN ROWS OF THIS SEAT. 5 by the template 'for every input the law returns true; each argument reads behind the call as it read before'; 0 by the template 'total and deterministic' (their statements: YtplbkggdnonfbaaTotals.lean).
  GIVEN WITH THE SEED: the statements are not yours to turn. If you find one false, say at which input.
  Laid BY PROGRAM, IN A SANDBOX (cutbox-rows.mjs): the forced cells as the released guide's own fill.sh prints them over the translation 369570b2c58fb855… (all of the seat's roots in one cut). By AI agents, Wed Nov 11 2026. No macro, syntax, notation, axiom, sorry.
-/
import Derived.Test.YtplbkggdnonfbaaChecked
import GoSem.Claim
import GoSem.ClaimJoined
import GoSem.ClaimMapViews
import Derived.JoinedTies
import Derived.KernelRfl
namespace Go.Proofs.Ytplbkggdnonfbaa
/- THE CELL 'sum', in the pinned program and in every row, IS THE sha256 OF THE DUMP (.gsa) THAT YtplbkggdnonfbaaProg.lean LOADS. Nothing in Lean hashes anything: it is a label: what it is worth is what the hold of that sum in a sandbox is worth. -/
noncomputable def Try.pinned : Pinned := { name := "ytplbkggdnonfbaa", sum := "369570b2c58fb855af33fcd20429c513cac48cf3bb1719f15bcc2ea2caab4964", checked := Try.checked }
namespace Rows
def none {H : Type} : Left H := { results := [], args := [] }

/-- 'compasslaw09.EulerTours': WHATEVER THE INPUT: true; the input reads as it did. -/
def eulerToursSpec : ChangeSpec := { name := "eulerTours", fn := fun _ => fun
  | [d1, d2] => { results := [.lit (.bool true)], args := [d1, d2] }
  | _ => none }
def eulerToursRow : OpenClaim := { program := "ytplbkggdnonfbaa", sum := "369570b2c58fb855af33fcd20429c513cac48cf3bb1719f15bcc2ea2caab4964", func := "compass/compasslaw09.EulerTours", spec := "eulerTours", apart := false }
def EulerToursSaid : Prop := eulerToursRow.holds Try.pinned (OpenSpec.ofChange eulerToursSpec)

/-- ITS FALSE NEIGHBOUR: 'it returns false'. Refute it at one input. -/
def eulerToursWrong : ChangeSpec := { name := "eulerTours", fn := fun _ => fun
  | [d1, d2] => { results := [.lit (.bool false)], args := [d1, d2] }
  | _ => none }
def EulerToursWrongFalsely : Prop := eulerToursRow.holds Try.pinned (OpenSpec.ofChange eulerToursWrong)

/-- 'compasslaw09.EulerChecks': WHATEVER THE INPUT: true; the input reads as it did. -/
def eulerChecksSpec : ChangeSpec := { name := "eulerChecks", fn := fun _ => fun
  | [d1, d2, d3] => { results := [.lit (.bool true)], args := [d1, d2, d3] }
  | _ => none }
def eulerChecksRow : OpenClaim := { program := "ytplbkggdnonfbaa", sum := "369570b2c58fb855af33fcd20429c513cac48cf3bb1719f15bcc2ea2caab4964", func := "compass/compasslaw09.EulerChecks", spec := "eulerChecks", apart := false }
def EulerChecksSaid : Prop := eulerChecksRow.holds Try.pinned (OpenSpec.ofChange eulerChecksSpec)

/-- ITS FALSE NEIGHBOUR: 'it returns false'. Refute it at one input. -/
def eulerChecksWrong : ChangeSpec := { name := "eulerChecks", fn := fun _ => fun
  | [d1, d2, d3] => { results := [.lit (.bool false)], args := [d1, d2, d3] }
  | _ => none }
def EulerChecksWrongFalsely : Prop := eulerChecksRow.holds Try.pinned (OpenSpec.ofChange eulerChecksWrong)

/-- 'compasslaw09.EulerEven': WHATEVER THE INPUT: true; the input reads as it did. -/
def eulerEvenSpec : ChangeSpec := { name := "eulerEven", fn := fun _ => fun
  | [d1, d2] => { results := [.lit (.bool true)], args := [d1, d2] }
  | _ => none }
def eulerEvenRow : OpenClaim := { program := "ytplbkggdnonfbaa", sum := "369570b2c58fb855af33fcd20429c513cac48cf3bb1719f15bcc2ea2caab4964", func := "compass/compasslaw09.EulerEven", spec := "eulerEven", apart := false }
def EulerEvenSaid : Prop := eulerEvenRow.holds Try.pinned (OpenSpec.ofChange eulerEvenSpec)

/-- ITS FALSE NEIGHBOUR: 'it returns false'. Refute it at one input. -/
def eulerEvenWrong : ChangeSpec := { name := "eulerEven", fn := fun _ => fun
  | [d1, d2] => { results := [.lit (.bool false)], args := [d1, d2] }
  | _ => none }
def EulerEvenWrongFalsely : Prop := eulerEvenRow.holds Try.pinned (OpenSpec.ofChange eulerEvenWrong)

/-- 'compasslaw09.EulerDoubled': WHATEVER THE INPUT: true; the input reads as it did. -/
def eulerDoubledSpec : ChangeSpec := { name := "eulerDoubled", fn := fun _ => fun
  | [d] => { results := [.lit (.bool true)], args := [d] }
  | _ => none }
def eulerDoubledRow : OpenClaim := { program := "ytplbkggdnonfbaa", sum := "369570b2c58fb855af33fcd20429c513cac48cf3bb1719f15bcc2ea2caab4964", func := "compass/compasslaw09.EulerDoubled", spec := "eulerDoubled", apart := false }
def EulerDoubledSaid : Prop := eulerDoubledRow.holds Try.pinned (OpenSpec.ofChange eulerDoubledSpec)

/-- ITS FALSE NEIGHBOUR: 'it returns false'. Refute it at one input. -/
def eulerDoubledWrong : ChangeSpec := { name := "eulerDoubled", fn := fun _ => fun
  | [d] => { results := [.lit (.bool false)], args := [d] }
  | _ => none }
def EulerDoubledWrongFalsely : Prop := eulerDoubledRow.holds Try.pinned (OpenSpec.ofChange eulerDoubledWrong)

/-- 'compasslaw09.EulerKeeps': WHATEVER THE INPUT: true; the input reads as it did. -/
def eulerKeepsSpec : ChangeSpec := { name := "eulerKeeps", fn := fun _ => fun
  | [d1, d2] => { results := [.lit (.bool true)], args := [d1, d2] }
  | _ => none }
def eulerKeepsRow : OpenClaim := { program := "ytplbkggdnonfbaa", sum := "369570b2c58fb855af33fcd20429c513cac48cf3bb1719f15bcc2ea2caab4964", func := "compass/compasslaw09.EulerKeeps", spec := "eulerKeeps", apart := false }
def EulerKeepsSaid : Prop := eulerKeepsRow.holds Try.pinned (OpenSpec.ofChange eulerKeepsSpec)

/-- ITS FALSE NEIGHBOUR: 'it returns false'. Refute it at one input. -/
def eulerKeepsWrong : ChangeSpec := { name := "eulerKeeps", fn := fun _ => fun
  | [d1, d2] => { results := [.lit (.bool false)], args := [d1, d2] }
  | _ => none }
def EulerKeepsWrongFalsely : Prop := eulerKeepsRow.holds Try.pinned (OpenSpec.ofChange eulerKeepsWrong)

/- THE SECOND FORM. 'bulk': how many values and letters a reading holds, each counted each time it is reached (what is shared counts as often as it is met; a slice's spare places count too). A statement '..UptoSaid' is the law's where the arguments, and the package variables that the reading takes, are together of bulk at most 1048576: NARROWER than '..Said'. Prove '..Said' where nothing that the law and all that it calls make is longer than what came in: it says more and counts as full. Else prove '..UptoSaid'. A law counts once. -/
mutual
def uptoBulk {H : Type} : DataW H → Nat
  | .lit (.string bytes) => bytes.length + 1
  | .lit _ => 1
  | .nil => 1
  | .ptr d => uptoBulk d + 1
  | .slice elems spare => uptoBulkAll elems + uptoBulkAll spare + 1
  | .agg parts => uptoBulkAll parts + 1
  | .iface _ d => uptoBulk d + 1
  | .map entries => uptoBulkEntries entries + 1
  | .held _ => 1
def uptoBulkAll {H : Type} : List (DataW H) → Nat
  | [] => 0
  | d :: r => uptoBulk d + uptoBulkAll r
def uptoBulkEntries {H : Type} : List (Lit × DataW H) → Nat
  | [] => 0
  | x :: r => uptoBulkEntry x + uptoBulkEntries r
def uptoBulkEntry {H : Type} : Lit × DataW H → Nat
  | (.string bytes, d) => bytes.length + uptoBulk d + 1
  | (_, d) => uptoBulk d + 1
 end
def uptoSmall : (H : Type) → List (DataW H) → Bool := fun _ ds => decide (uptoBulkAll ds ≤ 1048576)
def OpenSpec.upto (s : _root_.Go.ChangeSpec) : _root_.Go.OpenSpec := { _root_.Go.OpenSpec.ofChange s with cond := some uptoSmall }

/-- 'compasslaw09.EulerTours', WHERE WHAT IT READS IS OF BULK AT MOST 1048576: true; the input reads as it did. -/
def eulerToursUptoRow : OpenClaim := { program := "ytplbkggdnonfbaa", sum := "369570b2c58fb855af33fcd20429c513cac48cf3bb1719f15bcc2ea2caab4964", func := "compass/compasslaw09.EulerTours", spec := "eulerTours", apart := false, narrowed := true }
def EulerToursUptoSaid : Prop := eulerToursUptoRow.holds Try.pinned (OpenSpec.upto eulerToursSpec)

/-- 'compasslaw09.EulerChecks', WHERE WHAT IT READS IS OF BULK AT MOST 1048576: true; the input reads as it did. -/
def eulerChecksUptoRow : OpenClaim := { program := "ytplbkggdnonfbaa", sum := "369570b2c58fb855af33fcd20429c513cac48cf3bb1719f15bcc2ea2caab4964", func := "compass/compasslaw09.EulerChecks", spec := "eulerChecks", apart := false, narrowed := true }
def EulerChecksUptoSaid : Prop := eulerChecksUptoRow.holds Try.pinned (OpenSpec.upto eulerChecksSpec)

/-- 'compasslaw09.EulerEven', WHERE WHAT IT READS IS OF BULK AT MOST 1048576: true; the input reads as it did. -/
def eulerEvenUptoRow : OpenClaim := { program := "ytplbkggdnonfbaa", sum := "369570b2c58fb855af33fcd20429c513cac48cf3bb1719f15bcc2ea2caab4964", func := "compass/compasslaw09.EulerEven", spec := "eulerEven", apart := false, narrowed := true }
def EulerEvenUptoSaid : Prop := eulerEvenUptoRow.holds Try.pinned (OpenSpec.upto eulerEvenSpec)

/-- 'compasslaw09.EulerDoubled', WHERE WHAT IT READS IS OF BULK AT MOST 1048576: true; the input reads as it did. -/
def eulerDoubledUptoRow : OpenClaim := { program := "ytplbkggdnonfbaa", sum := "369570b2c58fb855af33fcd20429c513cac48cf3bb1719f15bcc2ea2caab4964", func := "compass/compasslaw09.EulerDoubled", spec := "eulerDoubled", apart := false, narrowed := true }
def EulerDoubledUptoSaid : Prop := eulerDoubledUptoRow.holds Try.pinned (OpenSpec.upto eulerDoubledSpec)

/-- 'compasslaw09.EulerKeeps', WHERE WHAT IT READS IS OF BULK AT MOST 1048576: true; the input reads as it did. -/
def eulerKeepsUptoRow : OpenClaim := { program := "ytplbkggdnonfbaa", sum := "369570b2c58fb855af33fcd20429c513cac48cf3bb1719f15bcc2ea2caab4964", func := "compass/compasslaw09.EulerKeeps", spec := "eulerKeeps", apart := false, narrowed := true }
def EulerKeepsUptoSaid : Prop := eulerKeepsUptoRow.holds Try.pinned (OpenSpec.upto eulerKeepsSpec)

end Rows
end Go.Proofs.Ytplbkggdnonfbaa
