/-
  DERIVED. GIVEN WITH THE SEED: THE CARDS: each row of YtgfbamddaepebaaDoorRows.lean that lists a variable, with what it lists TIED to the program's text (the seventh form; the later family's looks); each row that meets fmt, with fmt's text TOLD by the authors' own Lean function (tested against real Go, not proved from fmt's source: count such statements apart). THE CARD IS WHAT COUNTS. Prove the row's statement (the work); the ties are given (YtgfbamddaepebaaDoorTie.lean); close each card by the builder's one call (the guide's Derived/Test/ToyasCard.lean, 'card_holds'). Laid BY PROGRAM, IN A SANDBOX (cutbox-door.mjs). By AI agents, Wed Nov 11 2026. No macro, syntax, notation, axiom, sorry.
-/
import Derived.Test.YtgfbamddaepebaaDoorRows
import GoSem.ClaimSeven
namespace Go.Proofs.YtgfbamddaepebaaDoor
namespace Rows

/-- THE TIED CARD OF 'groupcontrollaw2.NumberParts'. -/
def numberPartsCard : Claim7 := { stood := { row := numberPartsRow, standIns := [], harness := (true, "9f8cee8627176aa5ce8de50cfda2fe5aeda7fc82192f9b46ea71acb93ad5bce1"), looks := false }, kinds := [], alts := [], laidByText := true, laidKinds := [.data, .data, .data], laidTests := true, laidLooks := .later }
def NumberPartsCardSaid : Prop := Claim7.holds Tryd.pinned (.plain (OpenSpec.ofChange numberPartsSpec)) numberPartsCard

/-- THE TIED CARD OF 'groupcontrollaw2.NumberTexts'. -/
def numberTextsCard : Claim7 := { stood := { row := numberTextsRow, standIns := [], harness := (true, "9f8cee8627176aa5ce8de50cfda2fe5aeda7fc82192f9b46ea71acb93ad5bce1"), looks := false }, kinds := [], alts := [], laidByText := true, laidKinds := [.data, .data, .data], laidTests := true, laidLooks := .later }
def NumberTextsCardSaid : Prop := Claim7.holds Tryd.pinned (.plain (OpenSpec.ofChange numberTextsSpec)) numberTextsCard

/-- THE TIED CARD OF 'groupcontrollaw2.NumberBack'. -/
def numberBackCard : Claim7 := { stood := { row := numberBackRow, standIns := [], harness := (true, "9f8cee8627176aa5ce8de50cfda2fe5aeda7fc82192f9b46ea71acb93ad5bce1"), looks := false }, kinds := [], alts := [], laidByText := true, laidKinds := [.data, .data, .data], laidTests := true, laidLooks := .later }
def NumberBackCardSaid : Prop := Claim7.holds Tryd.pinned (.plain (OpenSpec.ofChange numberBackSpec)) numberBackCard

/-- THE SECOND FORM's CARD OF 'groupcontrollaw2.NumberParts'. -/
def numberPartsUptoCard : Claim7 := { stood := { row := numberPartsUptoRow, standIns := [], harness := (true, "9f8cee8627176aa5ce8de50cfda2fe5aeda7fc82192f9b46ea71acb93ad5bce1"), looks := false }, kinds := [], alts := [], laidByText := true, laidKinds := [.data, .data, .data], laidTests := true, laidLooks := .later }
def NumberPartsUptoCardSaid : Prop := Claim7.holds Tryd.pinned (.plain (OpenSpec.upto numberPartsSpec)) numberPartsUptoCard

/-- THE SECOND FORM's CARD OF 'groupcontrollaw2.NumberTexts'. -/
def numberTextsUptoCard : Claim7 := { stood := { row := numberTextsUptoRow, standIns := [], harness := (true, "9f8cee8627176aa5ce8de50cfda2fe5aeda7fc82192f9b46ea71acb93ad5bce1"), looks := false }, kinds := [], alts := [], laidByText := true, laidKinds := [.data, .data, .data], laidTests := true, laidLooks := .later }
def NumberTextsUptoCardSaid : Prop := Claim7.holds Tryd.pinned (.plain (OpenSpec.upto numberTextsSpec)) numberTextsUptoCard

/-- THE SECOND FORM's CARD OF 'groupcontrollaw2.NumberBack'. -/
def numberBackUptoCard : Claim7 := { stood := { row := numberBackUptoRow, standIns := [], harness := (true, "9f8cee8627176aa5ce8de50cfda2fe5aeda7fc82192f9b46ea71acb93ad5bce1"), looks := false }, kinds := [], alts := [], laidByText := true, laidKinds := [.data, .data, .data], laidTests := true, laidLooks := .later }
def NumberBackUptoCardSaid : Prop := Claim7.holds Tryd.pinned (.plain (OpenSpec.upto numberBackSpec)) numberBackUptoCard
end Rows
end Go.Proofs.YtgfbamddaepebaaDoor
