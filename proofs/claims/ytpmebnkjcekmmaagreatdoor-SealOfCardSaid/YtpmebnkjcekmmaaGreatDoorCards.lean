/-
  DERIVED. GIVEN WITH THE SEED: THE CARDS: each row of YtpmebnkjcekmmaaGreatDoorRows.lean that lists a variable, with what it lists TIED to the program's text (the seventh form; the later family's looks); each row that meets fmt, with fmt's text TOLD by the authors' own Lean function (tested against real Go, not proved from fmt's source: count such statements apart). THE CARD IS WHAT COUNTS. Prove the row's statement (the work); the ties are given (YtpmebnkjcekmmaaGreatDoorTie.lean); close each card by the builder's one call (the guide's Derived/Test/ToyasCard.lean, 'card_holds'). Laid BY PROGRAM, IN A SANDBOX (cutbox-door.mjs). By AI agents, Wed Nov 11 2026. No macro, syntax, notation, axiom, sorry.
-/
import Derived.Test.YtpmebnkjcekmmaaGreatDoorRows
import GoSem.ClaimSeven
namespace Go.Proofs.YtpmebnkjcekmmaaGreatDoor
namespace Rows

/-- THE TIED CARD OF 'stratumlaw19.SealOf'. -/
def sealOfCard : Claim7 := { stood := { row := sealOfRow, standIns := [], harness := (true, "55f35a3f3a6824223c5cc5f50d05ff5d8aa2c9c023629f00818afcfe5ef88973"), looks := true }, kinds := [], alts := [], laidByText := true, laidKinds := [.data, .data, .data, .data, .sentinel, .sentinel, .pinned], laidTests := true, laidLooks := .later }
def SealOfCardSaid : Prop := Claim7.holds Tryz.pinned (.plain (OpenSpec.ofChange sealOfSpec)) sealOfCard

/-- THE TIED CARD OF 'stratumlaw19.SealHeads'. -/
def sealHeadsCard : Claim7 := { stood := { row := sealHeadsRow, standIns := [], harness := (true, "55f35a3f3a6824223c5cc5f50d05ff5d8aa2c9c023629f00818afcfe5ef88973"), looks := true }, kinds := [], alts := [], laidByText := true, laidKinds := [.data, .data, .data, .data, .sentinel, .sentinel, .pinned], laidTests := true, laidLooks := .later }
def SealHeadsCardSaid : Prop := Claim7.holds Tryz.pinned (.plain (OpenSpec.ofChange sealHeadsSpec)) sealHeadsCard

/-- THE TIED CARD OF 'stratumlaw19.SealSteps'. -/
def sealStepsCard : Claim7 := { stood := { row := sealStepsRow, standIns := [], harness := (true, "55f35a3f3a6824223c5cc5f50d05ff5d8aa2c9c023629f00818afcfe5ef88973"), looks := true }, kinds := [], alts := [], laidByText := true, laidKinds := [.data, .data, .data, .data, .sentinel, .sentinel, .pinned], laidTests := true, laidLooks := .later }
def SealStepsCardSaid : Prop := Claim7.holds Tryz.pinned (.plain (OpenSpec.ofChange sealStepsSpec)) sealStepsCard

/-- THE TIED CARD OF 'stratumlaw19.SealTurned'. -/
def sealTurnedCard : Claim7 := { stood := { row := sealTurnedRow, standIns := [], harness := (true, "55f35a3f3a6824223c5cc5f50d05ff5d8aa2c9c023629f00818afcfe5ef88973"), looks := true }, kinds := [], alts := [], laidByText := true, laidKinds := [.data, .data, .data, .data, .sentinel, .sentinel, .pinned], laidTests := true, laidLooks := .later }
def SealTurnedCardSaid : Prop := Claim7.holds Tryz.pinned (.plain (OpenSpec.ofChange sealTurnedSpec)) sealTurnedCard

/-- THE TIED CARD OF 'stratumlaw19.SealMemory'. -/
def sealMemoryCard : Claim7 := { stood := { row := sealMemoryRow, standIns := [], harness := (true, "55f35a3f3a6824223c5cc5f50d05ff5d8aa2c9c023629f00818afcfe5ef88973"), looks := true }, kinds := [], alts := [], laidByText := true, laidKinds := [.data, .data, .data, .data, .sentinel, .sentinel, .pinned], laidTests := true, laidLooks := .later }
def SealMemoryCardSaid : Prop := Claim7.holds Tryz.pinned (.plain (OpenSpec.ofChange sealMemorySpec)) sealMemoryCard

/-- THE TIED CARD OF 'stratumlaw19.SealStart'. -/
def sealStartCard : Claim7 := { stood := { row := sealStartRow, standIns := [], harness := (true, "55f35a3f3a6824223c5cc5f50d05ff5d8aa2c9c023629f00818afcfe5ef88973"), looks := true }, kinds := [], alts := [], laidByText := true, laidKinds := [.data, .data, .data, .data, .sentinel, .sentinel, .pinned], laidTests := true, laidLooks := .later }
def SealStartCardSaid : Prop := Claim7.holds Tryz.pinned (.plain (OpenSpec.ofChange sealStartSpec)) sealStartCard

/-- THE SECOND FORM's CARD OF 'stratumlaw19.SealOf'. -/
def sealOfUptoCard : Claim7 := { stood := { row := sealOfUptoRow, standIns := [], harness := (true, "55f35a3f3a6824223c5cc5f50d05ff5d8aa2c9c023629f00818afcfe5ef88973"), looks := true }, kinds := [], alts := [], laidByText := true, laidKinds := [.data, .data, .data, .data, .sentinel, .sentinel, .pinned], laidTests := true, laidLooks := .later }
def SealOfUptoCardSaid : Prop := Claim7.holds Tryz.pinned (.plain (OpenSpec.upto sealOfSpec)) sealOfUptoCard

/-- THE SECOND FORM's CARD OF 'stratumlaw19.SealHeads'. -/
def sealHeadsUptoCard : Claim7 := { stood := { row := sealHeadsUptoRow, standIns := [], harness := (true, "55f35a3f3a6824223c5cc5f50d05ff5d8aa2c9c023629f00818afcfe5ef88973"), looks := true }, kinds := [], alts := [], laidByText := true, laidKinds := [.data, .data, .data, .data, .sentinel, .sentinel, .pinned], laidTests := true, laidLooks := .later }
def SealHeadsUptoCardSaid : Prop := Claim7.holds Tryz.pinned (.plain (OpenSpec.upto sealHeadsSpec)) sealHeadsUptoCard

/-- THE SECOND FORM's CARD OF 'stratumlaw19.SealSteps'. -/
def sealStepsUptoCard : Claim7 := { stood := { row := sealStepsUptoRow, standIns := [], harness := (true, "55f35a3f3a6824223c5cc5f50d05ff5d8aa2c9c023629f00818afcfe5ef88973"), looks := true }, kinds := [], alts := [], laidByText := true, laidKinds := [.data, .data, .data, .data, .sentinel, .sentinel, .pinned], laidTests := true, laidLooks := .later }
def SealStepsUptoCardSaid : Prop := Claim7.holds Tryz.pinned (.plain (OpenSpec.upto sealStepsSpec)) sealStepsUptoCard

/-- THE SECOND FORM's CARD OF 'stratumlaw19.SealTurned'. -/
def sealTurnedUptoCard : Claim7 := { stood := { row := sealTurnedUptoRow, standIns := [], harness := (true, "55f35a3f3a6824223c5cc5f50d05ff5d8aa2c9c023629f00818afcfe5ef88973"), looks := true }, kinds := [], alts := [], laidByText := true, laidKinds := [.data, .data, .data, .data, .sentinel, .sentinel, .pinned], laidTests := true, laidLooks := .later }
def SealTurnedUptoCardSaid : Prop := Claim7.holds Tryz.pinned (.plain (OpenSpec.upto sealTurnedSpec)) sealTurnedUptoCard

/-- THE SECOND FORM's CARD OF 'stratumlaw19.SealMemory'. -/
def sealMemoryUptoCard : Claim7 := { stood := { row := sealMemoryUptoRow, standIns := [], harness := (true, "55f35a3f3a6824223c5cc5f50d05ff5d8aa2c9c023629f00818afcfe5ef88973"), looks := true }, kinds := [], alts := [], laidByText := true, laidKinds := [.data, .data, .data, .data, .sentinel, .sentinel, .pinned], laidTests := true, laidLooks := .later }
def SealMemoryUptoCardSaid : Prop := Claim7.holds Tryz.pinned (.plain (OpenSpec.upto sealMemorySpec)) sealMemoryUptoCard

/-- THE SECOND FORM's CARD OF 'stratumlaw19.SealStart'. -/
def sealStartUptoCard : Claim7 := { stood := { row := sealStartUptoRow, standIns := [], harness := (true, "55f35a3f3a6824223c5cc5f50d05ff5d8aa2c9c023629f00818afcfe5ef88973"), looks := true }, kinds := [], alts := [], laidByText := true, laidKinds := [.data, .data, .data, .data, .sentinel, .sentinel, .pinned], laidTests := true, laidLooks := .later }
def SealStartUptoCardSaid : Prop := Claim7.holds Tryz.pinned (.plain (OpenSpec.upto sealStartSpec)) sealStartUptoCard
end Rows
end Go.Proofs.YtpmebnkjcekmmaaGreatDoor
