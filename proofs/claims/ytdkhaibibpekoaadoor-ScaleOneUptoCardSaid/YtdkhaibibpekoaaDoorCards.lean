/-
  DERIVED. GIVEN WITH THE SEED: THE CARDS: each row of YtdkhaibibpekoaaDoorRows.lean that lists a variable, with what it lists TIED to the program's text (the seventh form; the later family's looks); each row that meets fmt, with fmt's text TOLD by the authors' own Lean function (tested against real Go, not proved from fmt's source: count such statements apart). THE CARD IS WHAT COUNTS. Prove the row's statement (the work); the ties are given (YtdkhaibibpekoaaDoorTie.lean); close each card by the builder's one call (the guide's Derived/Test/ToyasCard.lean, 'card_holds'). Laid BY PROGRAM, IN A SANDBOX (cutbox-door.mjs). By AI agents, Wed Nov 11 2026. No macro, syntax, notation, axiom, sorry.
-/
import Derived.Test.YtdkhaibibpekoaaDoorRows
import GoSem.ClaimSeven
namespace Go.Proofs.YtdkhaibibpekoaaDoor
namespace Rows

/-- THE TIED CARD OF 'compasslaw02.ScaleAdmits'. -/
def scaleAdmitsCard : Claim7 := { stood := { row := scaleAdmitsRow, standIns := [], harness := (true, "392cec4291391e85037f2d9bd02a8d1b1c0ffee5fda52eefcfa0db9d1b63d168"), looks := false }, kinds := [], alts := [], laidByText := true, laidKinds := [.data], laidTests := true, laidLooks := .later }
def ScaleAdmitsCardSaid : Prop := Claim7.holds Tryd.pinned (.plain (OpenSpec.ofChange scaleAdmitsSpec)) scaleAdmitsCard

/-- THE TIED CARD OF 'compasslaw02.ScaleExact'. -/
def scaleExactCard : Claim7 := { stood := { row := scaleExactRow, standIns := [], harness := (true, "392cec4291391e85037f2d9bd02a8d1b1c0ffee5fda52eefcfa0db9d1b63d168"), looks := false }, kinds := [], alts := [], laidByText := true, laidKinds := [.data], laidTests := true, laidLooks := .later }
def ScaleExactCardSaid : Prop := Claim7.holds Tryd.pinned (.plain (OpenSpec.ofChange scaleExactSpec)) scaleExactCard

/-- THE TIED CARD OF 'compasslaw02.ScaleOne'. -/
def scaleOneCard : Claim7 := { stood := { row := scaleOneRow, standIns := [], harness := (true, "392cec4291391e85037f2d9bd02a8d1b1c0ffee5fda52eefcfa0db9d1b63d168"), looks := false }, kinds := [], alts := [], laidByText := true, laidKinds := [.data], laidTests := true, laidLooks := .later }
def ScaleOneCardSaid : Prop := Claim7.holds Tryd.pinned (.plain (OpenSpec.ofChange scaleOneSpec)) scaleOneCard

/-- THE TIED CARD OF 'compasslaw02.ScaleBacks'. -/
def scaleBacksCard : Claim7 := { stood := { row := scaleBacksRow, standIns := [], harness := (true, "392cec4291391e85037f2d9bd02a8d1b1c0ffee5fda52eefcfa0db9d1b63d168"), looks := false }, kinds := [], alts := [], laidByText := true, laidKinds := [.data], laidTests := true, laidLooks := .later }
def ScaleBacksCardSaid : Prop := Claim7.holds Tryd.pinned (.plain (OpenSpec.ofChange scaleBacksSpec)) scaleBacksCard

/-- THE SECOND FORM's CARD OF 'compasslaw02.ScaleAdmits'. -/
def scaleAdmitsUptoCard : Claim7 := { stood := { row := scaleAdmitsUptoRow, standIns := [], harness := (true, "392cec4291391e85037f2d9bd02a8d1b1c0ffee5fda52eefcfa0db9d1b63d168"), looks := false }, kinds := [], alts := [], laidByText := true, laidKinds := [.data], laidTests := true, laidLooks := .later }
def ScaleAdmitsUptoCardSaid : Prop := Claim7.holds Tryd.pinned (.plain (OpenSpec.upto scaleAdmitsSpec)) scaleAdmitsUptoCard

/-- THE SECOND FORM's CARD OF 'compasslaw02.ScaleExact'. -/
def scaleExactUptoCard : Claim7 := { stood := { row := scaleExactUptoRow, standIns := [], harness := (true, "392cec4291391e85037f2d9bd02a8d1b1c0ffee5fda52eefcfa0db9d1b63d168"), looks := false }, kinds := [], alts := [], laidByText := true, laidKinds := [.data], laidTests := true, laidLooks := .later }
def ScaleExactUptoCardSaid : Prop := Claim7.holds Tryd.pinned (.plain (OpenSpec.upto scaleExactSpec)) scaleExactUptoCard

/-- THE SECOND FORM's CARD OF 'compasslaw02.ScaleOne'. -/
def scaleOneUptoCard : Claim7 := { stood := { row := scaleOneUptoRow, standIns := [], harness := (true, "392cec4291391e85037f2d9bd02a8d1b1c0ffee5fda52eefcfa0db9d1b63d168"), looks := false }, kinds := [], alts := [], laidByText := true, laidKinds := [.data], laidTests := true, laidLooks := .later }
def ScaleOneUptoCardSaid : Prop := Claim7.holds Tryd.pinned (.plain (OpenSpec.upto scaleOneSpec)) scaleOneUptoCard

/-- THE SECOND FORM's CARD OF 'compasslaw02.ScaleBacks'. -/
def scaleBacksUptoCard : Claim7 := { stood := { row := scaleBacksUptoRow, standIns := [], harness := (true, "392cec4291391e85037f2d9bd02a8d1b1c0ffee5fda52eefcfa0db9d1b63d168"), looks := false }, kinds := [], alts := [], laidByText := true, laidKinds := [.data], laidTests := true, laidLooks := .later }
def ScaleBacksUptoCardSaid : Prop := Claim7.holds Tryd.pinned (.plain (OpenSpec.upto scaleBacksSpec)) scaleBacksUptoCard
end Rows
end Go.Proofs.YtdkhaibibpekoaaDoor
