/-
  DERIVED. GIVEN WITH THE SEED: THE CARDS: each row of YtpnofbiflaahhaaDoorRows.lean that lists a variable, with what it lists TIED to the program's text (the seventh form; the later family's looks); each row that meets fmt, with fmt's text TOLD by the authors' own Lean function (tested against real Go, not proved from fmt's source: count such statements apart). THE CARD IS WHAT COUNTS. Prove the row's statement (the work); the ties are given (YtpnofbiflaahhaaDoorTie.lean); close each card by the builder's one call (the guide's Derived/Test/ToyasCard.lean, 'card_holds'). Laid BY PROGRAM, IN A SANDBOX (cutbox-door.mjs). By AI agents, Wed Nov 11 2026. No macro, syntax, notation, axiom, sorry.
-/
import Derived.Test.YtpnofbiflaahhaaDoorRows
import GoSem.ClaimSeven
namespace Go.Proofs.YtpnofbiflaahhaaDoor
namespace Rows

/-- THE TIED CARD OF 'paternosterlaw21.PhaseTells'. -/
def phaseTellsCard : Claim7 := { stood := { row := phaseTellsRow, standIns := [], harness := (true, "fee8c2b83bad07e59542e72b98489cbd6452e71ea7a3e0dba74df3c43e1235cc"), looks := false }, kinds := [], alts := [], laidByText := true, laidKinds := [.data, .data], laidTests := true, laidLooks := .later }
def PhaseTellsCardSaid : Prop := Claim7.holds Tryd.pinned (.plain (OpenSpec.ofChange phaseTellsSpec)) phaseTellsCard

/-- THE TIED CARD OF 'paternosterlaw21.PhaseAccepts'. -/
def phaseAcceptsCard : Claim7 := { stood := { row := phaseAcceptsRow, standIns := [], harness := (true, "fee8c2b83bad07e59542e72b98489cbd6452e71ea7a3e0dba74df3c43e1235cc"), looks := false }, kinds := [], alts := [], laidByText := true, laidKinds := [.data, .data], laidTests := true, laidLooks := .later }
def PhaseAcceptsCardSaid : Prop := Claim7.holds Tryd.pinned (.plain (OpenSpec.ofChange phaseAcceptsSpec)) phaseAcceptsCard

/-- THE TIED CARD OF 'paternosterlaw21.PhaseWays'. -/
def phaseWaysCard : Claim7 := { stood := { row := phaseWaysRow, standIns := [], harness := (true, "fee8c2b83bad07e59542e72b98489cbd6452e71ea7a3e0dba74df3c43e1235cc"), looks := false }, kinds := [], alts := [], laidByText := true, laidKinds := [.data, .data], laidTests := true, laidLooks := .later }
def PhaseWaysCardSaid : Prop := Claim7.holds Tryd.pinned (.plain (OpenSpec.ofChange phaseWaysSpec)) phaseWaysCard

/-- THE TIED CARD OF 'paternosterlaw21.PhaseSame'. -/
def phaseSameCard : Claim7 := { stood := { row := phaseSameRow, standIns := [], harness := (true, "fee8c2b83bad07e59542e72b98489cbd6452e71ea7a3e0dba74df3c43e1235cc"), looks := false }, kinds := [], alts := [], laidByText := true, laidKinds := [.data, .data], laidTests := true, laidLooks := .later }
def PhaseSameCardSaid : Prop := Claim7.holds Tryd.pinned (.plain (OpenSpec.ofChange phaseSameSpec)) phaseSameCard

/-- THE TIED CARD OF 'paternosterlaw21.PhaseParts'. -/
def phasePartsCard : Claim7 := { stood := { row := phasePartsRow, standIns := [], harness := (true, "fee8c2b83bad07e59542e72b98489cbd6452e71ea7a3e0dba74df3c43e1235cc"), looks := false }, kinds := [], alts := [], laidByText := true, laidKinds := [.data, .data], laidTests := true, laidLooks := .later }
def PhasePartsCardSaid : Prop := Claim7.holds Tryd.pinned (.plain (OpenSpec.ofChange phasePartsSpec)) phasePartsCard

/-- THE SECOND FORM's CARD OF 'paternosterlaw21.PhaseTells'. -/
def phaseTellsUptoCard : Claim7 := { stood := { row := phaseTellsUptoRow, standIns := [], harness := (true, "fee8c2b83bad07e59542e72b98489cbd6452e71ea7a3e0dba74df3c43e1235cc"), looks := false }, kinds := [], alts := [], laidByText := true, laidKinds := [.data, .data], laidTests := true, laidLooks := .later }
def PhaseTellsUptoCardSaid : Prop := Claim7.holds Tryd.pinned (.plain (OpenSpec.upto phaseTellsSpec)) phaseTellsUptoCard

/-- THE SECOND FORM's CARD OF 'paternosterlaw21.PhaseAccepts'. -/
def phaseAcceptsUptoCard : Claim7 := { stood := { row := phaseAcceptsUptoRow, standIns := [], harness := (true, "fee8c2b83bad07e59542e72b98489cbd6452e71ea7a3e0dba74df3c43e1235cc"), looks := false }, kinds := [], alts := [], laidByText := true, laidKinds := [.data, .data], laidTests := true, laidLooks := .later }
def PhaseAcceptsUptoCardSaid : Prop := Claim7.holds Tryd.pinned (.plain (OpenSpec.upto phaseAcceptsSpec)) phaseAcceptsUptoCard

/-- THE SECOND FORM's CARD OF 'paternosterlaw21.PhaseWays'. -/
def phaseWaysUptoCard : Claim7 := { stood := { row := phaseWaysUptoRow, standIns := [], harness := (true, "fee8c2b83bad07e59542e72b98489cbd6452e71ea7a3e0dba74df3c43e1235cc"), looks := false }, kinds := [], alts := [], laidByText := true, laidKinds := [.data, .data], laidTests := true, laidLooks := .later }
def PhaseWaysUptoCardSaid : Prop := Claim7.holds Tryd.pinned (.plain (OpenSpec.upto phaseWaysSpec)) phaseWaysUptoCard

/-- THE SECOND FORM's CARD OF 'paternosterlaw21.PhaseSame'. -/
def phaseSameUptoCard : Claim7 := { stood := { row := phaseSameUptoRow, standIns := [], harness := (true, "fee8c2b83bad07e59542e72b98489cbd6452e71ea7a3e0dba74df3c43e1235cc"), looks := false }, kinds := [], alts := [], laidByText := true, laidKinds := [.data, .data], laidTests := true, laidLooks := .later }
def PhaseSameUptoCardSaid : Prop := Claim7.holds Tryd.pinned (.plain (OpenSpec.upto phaseSameSpec)) phaseSameUptoCard

/-- THE SECOND FORM's CARD OF 'paternosterlaw21.PhaseParts'. -/
def phasePartsUptoCard : Claim7 := { stood := { row := phasePartsUptoRow, standIns := [], harness := (true, "fee8c2b83bad07e59542e72b98489cbd6452e71ea7a3e0dba74df3c43e1235cc"), looks := false }, kinds := [], alts := [], laidByText := true, laidKinds := [.data, .data], laidTests := true, laidLooks := .later }
def PhasePartsUptoCardSaid : Prop := Claim7.holds Tryd.pinned (.plain (OpenSpec.upto phasePartsSpec)) phasePartsUptoCard
end Rows
end Go.Proofs.YtpnofbiflaahhaaDoor
