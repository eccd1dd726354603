/-
  DERIVED. GIVEN WITH THE SEED: THE CARDS: each row of YthfhkfebkpdkcaaGreatDoorRows.lean that lists a variable, with what it lists TIED to the program's text (the seventh form; the later family's looks); each row that meets fmt, with fmt's text TOLD by the authors' own Lean function (tested against real Go, not proved from fmt's source: count such statements apart). THE CARD IS WHAT COUNTS. Prove the row's statement (the work); the ties are given (YthfhkfebkpdkcaaGreatDoorTie.lean); close each card by the builder's one call (the guide's Derived/Test/ToyasCard.lean, 'card_holds'). Laid BY PROGRAM, IN A SANDBOX (cutbox-door.mjs). By AI agents, Wed Nov 11 2026. No macro, syntax, notation, axiom, sorry.
-/
import Derived.Test.YthfhkfebkpdkcaaGreatDoorRows
import GoSem.ClaimSeven
namespace Go.Proofs.YthfhkfebkpdkcaaGreatDoor
namespace Rows

/-- THE TIED CARD OF 'stratumlaw06.ConvAll'. -/
def convAllCard : Claim7 := { stood := { row := convAllRow, standIns := [], harness := (true, "65980e22a5fc27a671800f9ebb9bce2d4f8376e460acc1d31c594f4364dda7e2"), looks := true }, kinds := [], alts := [], laidByText := true, laidKinds := [.data, .data, .data, .data, .sentinel, .sentinel, .pinned], laidTests := true, laidLooks := .later }
def ConvAllCardSaid : Prop := Claim7.holds Tryz.pinned (.plain (OpenSpec.ofChange convAllSpec)) convAllCard

/-- THE TIED CARD OF 'stratumlaw06.ConvDigits'. -/
def convDigitsCard : Claim7 := { stood := { row := convDigitsRow, standIns := [], harness := (true, "65980e22a5fc27a671800f9ebb9bce2d4f8376e460acc1d31c594f4364dda7e2"), looks := true }, kinds := [], alts := [], laidByText := true, laidKinds := [.data, .data, .data, .data, .sentinel, .sentinel, .pinned], laidTests := true, laidLooks := .later }
def ConvDigitsCardSaid : Prop := Claim7.holds Tryz.pinned (.plain (OpenSpec.ofChange convDigitsSpec)) convDigitsCard

/-- THE TIED CARD OF 'stratumlaw06.ConvMakes'. -/
def convMakesCard : Claim7 := { stood := { row := convMakesRow, standIns := [], harness := (true, "65980e22a5fc27a671800f9ebb9bce2d4f8376e460acc1d31c594f4364dda7e2"), looks := true }, kinds := [], alts := [], laidByText := true, laidKinds := [.data, .data, .data, .data, .sentinel, .sentinel, .pinned], laidTests := true, laidLooks := .later }
def ConvMakesCardSaid : Prop := Claim7.holds Tryz.pinned (.plain (OpenSpec.ofChange convMakesSpec)) convMakesCard

/-- THE TIED CARD OF 'stratumlaw06.ConvBack'. -/
def convBackCard : Claim7 := { stood := { row := convBackRow, standIns := [], harness := (true, "65980e22a5fc27a671800f9ebb9bce2d4f8376e460acc1d31c594f4364dda7e2"), looks := true }, kinds := [], alts := [], laidByText := true, laidKinds := [.data, .data, .data, .data, .sentinel, .sentinel, .pinned], laidTests := true, laidLooks := .later }
def ConvBackCardSaid : Prop := Claim7.holds Tryz.pinned (.plain (OpenSpec.ofChange convBackSpec)) convBackCard

/-- THE TIED CARD OF 'stratumlaw06.ConvStart'. -/
def convStartCard : Claim7 := { stood := { row := convStartRow, standIns := [], harness := (true, "65980e22a5fc27a671800f9ebb9bce2d4f8376e460acc1d31c594f4364dda7e2"), looks := true }, kinds := [], alts := [], laidByText := true, laidKinds := [.data, .data, .data, .data, .sentinel, .sentinel, .pinned], laidTests := true, laidLooks := .later }
def ConvStartCardSaid : Prop := Claim7.holds Tryz.pinned (.plain (OpenSpec.ofChange convStartSpec)) convStartCard

/-- THE TIED CARD OF 'stratumlaw06.ConvRises'. -/
def convRisesCard : Claim7 := { stood := { row := convRisesRow, standIns := [], harness := (true, "65980e22a5fc27a671800f9ebb9bce2d4f8376e460acc1d31c594f4364dda7e2"), looks := true }, kinds := [], alts := [], laidByText := true, laidKinds := [.data, .data, .data, .data, .sentinel, .sentinel, .pinned], laidTests := true, laidLooks := .later }
def ConvRisesCardSaid : Prop := Claim7.holds Tryz.pinned (.plain (OpenSpec.ofChange convRisesSpec)) convRisesCard

/-- THE SECOND FORM's CARD OF 'stratumlaw06.ConvAll'. -/
def convAllUptoCard : Claim7 := { stood := { row := convAllUptoRow, standIns := [], harness := (true, "65980e22a5fc27a671800f9ebb9bce2d4f8376e460acc1d31c594f4364dda7e2"), looks := true }, kinds := [], alts := [], laidByText := true, laidKinds := [.data, .data, .data, .data, .sentinel, .sentinel, .pinned], laidTests := true, laidLooks := .later }
def ConvAllUptoCardSaid : Prop := Claim7.holds Tryz.pinned (.plain (OpenSpec.upto convAllSpec)) convAllUptoCard

/-- THE SECOND FORM's CARD OF 'stratumlaw06.ConvDigits'. -/
def convDigitsUptoCard : Claim7 := { stood := { row := convDigitsUptoRow, standIns := [], harness := (true, "65980e22a5fc27a671800f9ebb9bce2d4f8376e460acc1d31c594f4364dda7e2"), looks := true }, kinds := [], alts := [], laidByText := true, laidKinds := [.data, .data, .data, .data, .sentinel, .sentinel, .pinned], laidTests := true, laidLooks := .later }
def ConvDigitsUptoCardSaid : Prop := Claim7.holds Tryz.pinned (.plain (OpenSpec.upto convDigitsSpec)) convDigitsUptoCard

/-- THE SECOND FORM's CARD OF 'stratumlaw06.ConvMakes'. -/
def convMakesUptoCard : Claim7 := { stood := { row := convMakesUptoRow, standIns := [], harness := (true, "65980e22a5fc27a671800f9ebb9bce2d4f8376e460acc1d31c594f4364dda7e2"), looks := true }, kinds := [], alts := [], laidByText := true, laidKinds := [.data, .data, .data, .data, .sentinel, .sentinel, .pinned], laidTests := true, laidLooks := .later }
def ConvMakesUptoCardSaid : Prop := Claim7.holds Tryz.pinned (.plain (OpenSpec.upto convMakesSpec)) convMakesUptoCard

/-- THE SECOND FORM's CARD OF 'stratumlaw06.ConvBack'. -/
def convBackUptoCard : Claim7 := { stood := { row := convBackUptoRow, standIns := [], harness := (true, "65980e22a5fc27a671800f9ebb9bce2d4f8376e460acc1d31c594f4364dda7e2"), looks := true }, kinds := [], alts := [], laidByText := true, laidKinds := [.data, .data, .data, .data, .sentinel, .sentinel, .pinned], laidTests := true, laidLooks := .later }
def ConvBackUptoCardSaid : Prop := Claim7.holds Tryz.pinned (.plain (OpenSpec.upto convBackSpec)) convBackUptoCard

/-- THE SECOND FORM's CARD OF 'stratumlaw06.ConvStart'. -/
def convStartUptoCard : Claim7 := { stood := { row := convStartUptoRow, standIns := [], harness := (true, "65980e22a5fc27a671800f9ebb9bce2d4f8376e460acc1d31c594f4364dda7e2"), looks := true }, kinds := [], alts := [], laidByText := true, laidKinds := [.data, .data, .data, .data, .sentinel, .sentinel, .pinned], laidTests := true, laidLooks := .later }
def ConvStartUptoCardSaid : Prop := Claim7.holds Tryz.pinned (.plain (OpenSpec.upto convStartSpec)) convStartUptoCard

/-- THE SECOND FORM's CARD OF 'stratumlaw06.ConvRises'. -/
def convRisesUptoCard : Claim7 := { stood := { row := convRisesUptoRow, standIns := [], harness := (true, "65980e22a5fc27a671800f9ebb9bce2d4f8376e460acc1d31c594f4364dda7e2"), looks := true }, kinds := [], alts := [], laidByText := true, laidKinds := [.data, .data, .data, .data, .sentinel, .sentinel, .pinned], laidTests := true, laidLooks := .later }
def ConvRisesUptoCardSaid : Prop := Claim7.holds Tryz.pinned (.plain (OpenSpec.upto convRisesSpec)) convRisesUptoCard
end Rows
end Go.Proofs.YthfhkfebkpdkcaaGreatDoor
