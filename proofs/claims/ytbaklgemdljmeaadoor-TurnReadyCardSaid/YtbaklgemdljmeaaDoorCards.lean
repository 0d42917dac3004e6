/-
  DERIVED. GIVEN WITH THE SEED: THE CARDS: each row of YtbaklgemdljmeaaDoorRows.lean that lists a variable, with what it lists TIED to the program's text (the seventh form; the later family's looks); each row that meets fmt, with fmt's text TOLD by the authors' own Lean function (tested against real Go, not proved from fmt's source: count such statements apart). THE CARD IS WHAT COUNTS. Prove the row's statement (the work); the ties are given (YtbaklgemdljmeaaDoorTie.lean); close each card by the builder's one call (the guide's Derived/Test/ToyasCard.lean, 'card_holds'). Laid BY PROGRAM, IN A SANDBOX (cutbox-door.mjs). By AI agents, Wed Nov 11 2026. No macro, syntax, notation, axiom, sorry.
-/
import Derived.Test.YtbaklgemdljmeaaDoorRows
import GoSem.ClaimSeven
namespace Go.Proofs.YtbaklgemdljmeaaDoor
namespace Rows

/-- THE TIED CARD OF 'paternosterlaw20.TurnTells'. -/
def turnTellsCard : Claim7 := { stood := { row := turnTellsRow, standIns := [], harness := (true, "876893f5eeea1f59f6345c4d3ab5e22378b016fedbcb48091d0569e541872c14"), looks := false }, kinds := [], alts := [], laidByText := true, laidKinds := [.data], laidTests := true, laidLooks := .later }
def TurnTellsCardSaid : Prop := Claim7.holds Tryd.pinned (.plain (OpenSpec.ofChange turnTellsSpec)) turnTellsCard

/-- THE TIED CARD OF 'paternosterlaw20.TurnReady'. -/
def turnReadyCard : Claim7 := { stood := { row := turnReadyRow, standIns := [], harness := (true, "876893f5eeea1f59f6345c4d3ab5e22378b016fedbcb48091d0569e541872c14"), looks := false }, kinds := [], alts := [], laidByText := true, laidKinds := [.data], laidTests := true, laidLooks := .later }
def TurnReadyCardSaid : Prop := Claim7.holds Tryd.pinned (.plain (OpenSpec.ofChange turnReadySpec)) turnReadyCard

/-- THE TIED CARD OF 'paternosterlaw20.TurnRounds'. -/
def turnRoundsCard : Claim7 := { stood := { row := turnRoundsRow, standIns := [], harness := (true, "876893f5eeea1f59f6345c4d3ab5e22378b016fedbcb48091d0569e541872c14"), looks := false }, kinds := [], alts := [], laidByText := true, laidKinds := [.data], laidTests := true, laidLooks := .later }
def TurnRoundsCardSaid : Prop := Claim7.holds Tryd.pinned (.plain (OpenSpec.ofChange turnRoundsSpec)) turnRoundsCard

/-- THE TIED CARD OF 'paternosterlaw20.TurnHand'. -/
def turnHandCard : Claim7 := { stood := { row := turnHandRow, standIns := [], harness := (true, "876893f5eeea1f59f6345c4d3ab5e22378b016fedbcb48091d0569e541872c14"), looks := false }, kinds := [], alts := [], laidByText := true, laidKinds := [.data], laidTests := true, laidLooks := .later }
def TurnHandCardSaid : Prop := Claim7.holds Tryd.pinned (.plain (OpenSpec.ofChange turnHandSpec)) turnHandCard

/-- THE SECOND FORM's CARD OF 'paternosterlaw20.TurnTells'. -/
def turnTellsUptoCard : Claim7 := { stood := { row := turnTellsUptoRow, standIns := [], harness := (true, "876893f5eeea1f59f6345c4d3ab5e22378b016fedbcb48091d0569e541872c14"), looks := false }, kinds := [], alts := [], laidByText := true, laidKinds := [.data], laidTests := true, laidLooks := .later }
def TurnTellsUptoCardSaid : Prop := Claim7.holds Tryd.pinned (.plain (OpenSpec.upto turnTellsSpec)) turnTellsUptoCard

/-- THE SECOND FORM's CARD OF 'paternosterlaw20.TurnReady'. -/
def turnReadyUptoCard : Claim7 := { stood := { row := turnReadyUptoRow, standIns := [], harness := (true, "876893f5eeea1f59f6345c4d3ab5e22378b016fedbcb48091d0569e541872c14"), looks := false }, kinds := [], alts := [], laidByText := true, laidKinds := [.data], laidTests := true, laidLooks := .later }
def TurnReadyUptoCardSaid : Prop := Claim7.holds Tryd.pinned (.plain (OpenSpec.upto turnReadySpec)) turnReadyUptoCard

/-- THE SECOND FORM's CARD OF 'paternosterlaw20.TurnRounds'. -/
def turnRoundsUptoCard : Claim7 := { stood := { row := turnRoundsUptoRow, standIns := [], harness := (true, "876893f5eeea1f59f6345c4d3ab5e22378b016fedbcb48091d0569e541872c14"), looks := false }, kinds := [], alts := [], laidByText := true, laidKinds := [.data], laidTests := true, laidLooks := .later }
def TurnRoundsUptoCardSaid : Prop := Claim7.holds Tryd.pinned (.plain (OpenSpec.upto turnRoundsSpec)) turnRoundsUptoCard

/-- THE SECOND FORM's CARD OF 'paternosterlaw20.TurnHand'. -/
def turnHandUptoCard : Claim7 := { stood := { row := turnHandUptoRow, standIns := [], harness := (true, "876893f5eeea1f59f6345c4d3ab5e22378b016fedbcb48091d0569e541872c14"), looks := false }, kinds := [], alts := [], laidByText := true, laidKinds := [.data], laidTests := true, laidLooks := .later }
def TurnHandUptoCardSaid : Prop := Claim7.holds Tryd.pinned (.plain (OpenSpec.upto turnHandSpec)) turnHandUptoCard
end Rows
end Go.Proofs.YtbaklgemdljmeaaDoor
