/-
  DERIVED. GIVEN WITH THE SEED: THE CARDS: each row of YtjpbdkfgblmioaaDoorRows.lean that lists a variable, with what it lists TIED to the program's text (the seventh form; the later family's looks); each row that meets fmt, with fmt's text TOLD by the authors' own Lean function (tested against real Go, not proved from fmt's source: count such statements apart). THE CARD IS WHAT COUNTS. Prove the row's statement (the work); the ties are given (YtjpbdkfgblmioaaDoorTie.lean); close each card by the builder's one call (the guide's Derived/Test/ToyasCard.lean, 'card_holds'). Laid BY PROGRAM, IN A SANDBOX (cutbox-door.mjs). By AI agents, Wed Nov 11 2026. No macro, syntax, notation, axiom, sorry.
-/
import Derived.Test.YtjpbdkfgblmioaaDoorRows
import GoSem.ClaimSeven
namespace Go.Proofs.YtjpbdkfgblmioaaDoor
namespace Rows

/-- THE TIED CARD OF 'groupcontrollaw1.NameLimits'. -/
def nameLimitsCard : Claim7 := { stood := { row := nameLimitsRow, standIns := [], harness := (true, "7d6e972686211e16095be925952c9478f6d60b7c8f8cf5b695e7f12e4a4e160b"), looks := false }, kinds := [], alts := [], laidByText := true, laidKinds := [.data, .pinned], laidTests := true, laidLooks := .later }
def NameLimitsCardSaid : Prop := Claim7.holds Tryd.pinned (.plain (OpenSpec.ofChange nameLimitsSpec)) nameLimitsCard

/-- THE TIED CARD OF 'groupcontrollaw1.NamePaths'. -/
def namePathsCard : Claim7 := { stood := { row := namePathsRow, standIns := [], harness := (true, "7d6e972686211e16095be925952c9478f6d60b7c8f8cf5b695e7f12e4a4e160b"), looks := false }, kinds := [], alts := [], laidByText := true, laidKinds := [.data, .pinned], laidTests := true, laidLooks := .later }
def NamePathsCardSaid : Prop := Claim7.holds Tryd.pinned (.plain (OpenSpec.ofChange namePathsSpec)) namePathsCard

/-- THE TIED CARD OF 'groupcontrollaw1.NameBack'. -/
def nameBackCard : Claim7 := { stood := { row := nameBackRow, standIns := [], harness := (true, "7d6e972686211e16095be925952c9478f6d60b7c8f8cf5b695e7f12e4a4e160b"), looks := false }, kinds := [], alts := [], laidByText := true, laidKinds := [.data, .pinned], laidTests := true, laidLooks := .later }
def NameBackCardSaid : Prop := Claim7.holds Tryd.pinned (.plain (OpenSpec.ofChange nameBackSpec)) nameBackCard

/-- THE TIED CARD OF 'groupcontrollaw1.NameLattice'. -/
def nameLatticeCard : Claim7 := { stood := { row := nameLatticeRow, standIns := [], harness := (true, "7d6e972686211e16095be925952c9478f6d60b7c8f8cf5b695e7f12e4a4e160b"), looks := false }, kinds := [], alts := [], laidByText := true, laidKinds := [.data, .pinned], laidTests := true, laidLooks := .later }
def NameLatticeCardSaid : Prop := Claim7.holds Tryd.pinned (.plain (OpenSpec.ofChange nameLatticeSpec)) nameLatticeCard

/-- THE SECOND FORM's CARD OF 'groupcontrollaw1.NameLimits'. -/
def nameLimitsUptoCard : Claim7 := { stood := { row := nameLimitsUptoRow, standIns := [], harness := (true, "7d6e972686211e16095be925952c9478f6d60b7c8f8cf5b695e7f12e4a4e160b"), looks := false }, kinds := [], alts := [], laidByText := true, laidKinds := [.data, .pinned], laidTests := true, laidLooks := .later }
def NameLimitsUptoCardSaid : Prop := Claim7.holds Tryd.pinned (.plain (OpenSpec.upto nameLimitsSpec)) nameLimitsUptoCard

/-- THE SECOND FORM's CARD OF 'groupcontrollaw1.NamePaths'. -/
def namePathsUptoCard : Claim7 := { stood := { row := namePathsUptoRow, standIns := [], harness := (true, "7d6e972686211e16095be925952c9478f6d60b7c8f8cf5b695e7f12e4a4e160b"), looks := false }, kinds := [], alts := [], laidByText := true, laidKinds := [.data, .pinned], laidTests := true, laidLooks := .later }
def NamePathsUptoCardSaid : Prop := Claim7.holds Tryd.pinned (.plain (OpenSpec.upto namePathsSpec)) namePathsUptoCard

/-- THE SECOND FORM's CARD OF 'groupcontrollaw1.NameBack'. -/
def nameBackUptoCard : Claim7 := { stood := { row := nameBackUptoRow, standIns := [], harness := (true, "7d6e972686211e16095be925952c9478f6d60b7c8f8cf5b695e7f12e4a4e160b"), looks := false }, kinds := [], alts := [], laidByText := true, laidKinds := [.data, .pinned], laidTests := true, laidLooks := .later }
def NameBackUptoCardSaid : Prop := Claim7.holds Tryd.pinned (.plain (OpenSpec.upto nameBackSpec)) nameBackUptoCard

/-- THE SECOND FORM's CARD OF 'groupcontrollaw1.NameLattice'. -/
def nameLatticeUptoCard : Claim7 := { stood := { row := nameLatticeUptoRow, standIns := [], harness := (true, "7d6e972686211e16095be925952c9478f6d60b7c8f8cf5b695e7f12e4a4e160b"), looks := false }, kinds := [], alts := [], laidByText := true, laidKinds := [.data, .pinned], laidTests := true, laidLooks := .later }
def NameLatticeUptoCardSaid : Prop := Claim7.holds Tryd.pinned (.plain (OpenSpec.upto nameLatticeSpec)) nameLatticeUptoCard
end Rows
end Go.Proofs.YtjpbdkfgblmioaaDoor
