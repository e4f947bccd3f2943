/-
  DERIVED. GIVEN WITH THE SEED: THE CARDS: each row of YtnlafkgkcnenfaaGreatDoorRows.lean that lists a variable, with what it lists TIED to the program's text (the seventh form; the later family's looks); each row that meets fmt, with fmt's text TOLD by the authors' own Lean function (tested against real Go, not proved from fmt's source: count such statements apart). THE CARD IS WHAT COUNTS. Prove the row's statement (the work); the ties are given (YtnlafkgkcnenfaaGreatDoorTie.lean); close each card by the builder's one call (the guide's Derived/Test/ToyasCard.lean, 'card_holds'). Laid BY PROGRAM, IN A SANDBOX (cutbox-door.mjs). By AI agents, Wed Nov 11 2026. No macro, syntax, notation, axiom, sorry.
-/
import Derived.Test.YtnlafkgkcnenfaaGreatDoorRows
import GoSem.ClaimSeven
namespace Go.Proofs.YtnlafkgkcnenfaaGreatDoor
namespace Rows

/-- THE TIED CARD OF 'feedvaultlaw19.OpmlMatchesReference'. -/
def opmlMatchesReferenceCard : Claim7 := { stood := { row := opmlMatchesReferenceRow, standIns := [], harness := (true, "fc646f4ec087820d56142a8d3af391f2978304ac98ac4e0c4d0ed1d31e8fe297"), looks := false }, kinds := [], alts := [], laidByText := true, laidKinds := [.data, .data, .data, .data, .data, .data, .data, .pinned], laidTests := true, laidLooks := .later }
def OpmlMatchesReferenceCardSaid : Prop := Claim7.holds Tryz.pinned (.plain (OpenSpec.ofChange opmlMatchesReferenceSpec)) opmlMatchesReferenceCard

/-- THE TIED CARD OF 'feedvaultlaw19.OpmlIsInjective'. -/
def opmlIsInjectiveCard : Claim7 := { stood := { row := opmlIsInjectiveRow, standIns := [], harness := (true, "fc646f4ec087820d56142a8d3af391f2978304ac98ac4e0c4d0ed1d31e8fe297"), looks := false }, kinds := [], alts := [], laidByText := true, laidKinds := [.data, .data, .data, .data, .data, .data, .data, .pinned], laidTests := true, laidLooks := .later }
def OpmlIsInjectiveCardSaid : Prop := Claim7.holds Tryz.pinned (.plain (OpenSpec.ofChange opmlIsInjectiveSpec)) opmlIsInjectiveCard

/-- THE TIED CARD OF 'feedvaultlaw19.OpmlIsStable'. -/
def opmlIsStableCard : Claim7 := { stood := { row := opmlIsStableRow, standIns := [], harness := (true, "fc646f4ec087820d56142a8d3af391f2978304ac98ac4e0c4d0ed1d31e8fe297"), looks := false }, kinds := [], alts := [], laidByText := true, laidKinds := [.data, .data, .data, .data, .data, .data, .data, .pinned], laidTests := true, laidLooks := .later }
def OpmlIsStableCardSaid : Prop := Claim7.holds Tryz.pinned (.plain (OpenSpec.ofChange opmlIsStableSpec)) opmlIsStableCard

/-- THE TIED CARD OF 'feedvaultlaw19.OpmlEncodeMatchesReference'. -/
def opmlEncodeMatchesReferenceCard : Claim7 := { stood := { row := opmlEncodeMatchesReferenceRow, standIns := [], harness := (true, "fc646f4ec087820d56142a8d3af391f2978304ac98ac4e0c4d0ed1d31e8fe297"), looks := false }, kinds := [], alts := [], laidByText := true, laidKinds := [.data, .data, .data, .data, .data, .data, .data, .pinned], laidTests := true, laidLooks := .later }
def OpmlEncodeMatchesReferenceCardSaid : Prop := Claim7.holds Tryz.pinned (.plain (OpenSpec.ofChange opmlEncodeMatchesReferenceSpec)) opmlEncodeMatchesReferenceCard

/-- THE TIED CARD OF 'feedvaultlaw19.OpmlRoundTrip'. -/
def opmlRoundTripCard : Claim7 := { stood := { row := opmlRoundTripRow, standIns := [], harness := (true, "fc646f4ec087820d56142a8d3af391f2978304ac98ac4e0c4d0ed1d31e8fe297"), looks := false }, kinds := [], alts := [], laidByText := true, laidKinds := [.data, .data, .data, .data, .data, .data, .data, .pinned], laidTests := true, laidLooks := .later }
def OpmlRoundTripCardSaid : Prop := Claim7.holds Tryz.pinned (.plain (OpenSpec.ofChange opmlRoundTripSpec)) opmlRoundTripCard

/-- THE TIED CARD OF 'feedvaultlaw19.OpmlOutlines'. -/
def opmlOutlinesCard : Claim7 := { stood := { row := opmlOutlinesRow, standIns := [], harness := (true, "fc646f4ec087820d56142a8d3af391f2978304ac98ac4e0c4d0ed1d31e8fe297"), looks := false }, kinds := [], alts := [], laidByText := true, laidKinds := [.data, .data, .data, .data, .data, .data, .data, .pinned], laidTests := true, laidLooks := .later }
def OpmlOutlinesCardSaid : Prop := Claim7.holds Tryz.pinned (.plain (OpenSpec.ofChange opmlOutlinesSpec)) opmlOutlinesCard

/-- THE TIED CARD OF 'feedvaultlaw19.OpmlDepth'. -/
def opmlDepthCard : Claim7 := { stood := { row := opmlDepthRow, standIns := [], harness := (true, "fc646f4ec087820d56142a8d3af391f2978304ac98ac4e0c4d0ed1d31e8fe297"), looks := false }, kinds := [], alts := [], laidByText := true, laidKinds := [.data, .data, .data, .data, .data, .data, .data, .pinned], laidTests := true, laidLooks := .later }
def OpmlDepthCardSaid : Prop := Claim7.holds Tryz.pinned (.plain (OpenSpec.ofChange opmlDepthSpec)) opmlDepthCard

/-- THE SECOND FORM's CARD OF 'feedvaultlaw19.OpmlMatchesReference'. -/
def opmlMatchesReferenceUptoCard : Claim7 := { stood := { row := opmlMatchesReferenceUptoRow, standIns := [], harness := (true, "fc646f4ec087820d56142a8d3af391f2978304ac98ac4e0c4d0ed1d31e8fe297"), looks := false }, kinds := [], alts := [], laidByText := true, laidKinds := [.data, .data, .data, .data, .data, .data, .data, .pinned], laidTests := true, laidLooks := .later }
def OpmlMatchesReferenceUptoCardSaid : Prop := Claim7.holds Tryz.pinned (.plain (OpenSpec.upto opmlMatchesReferenceSpec)) opmlMatchesReferenceUptoCard

/-- THE SECOND FORM's CARD OF 'feedvaultlaw19.OpmlIsInjective'. -/
def opmlIsInjectiveUptoCard : Claim7 := { stood := { row := opmlIsInjectiveUptoRow, standIns := [], harness := (true, "fc646f4ec087820d56142a8d3af391f2978304ac98ac4e0c4d0ed1d31e8fe297"), looks := false }, kinds := [], alts := [], laidByText := true, laidKinds := [.data, .data, .data, .data, .data, .data, .data, .pinned], laidTests := true, laidLooks := .later }
def OpmlIsInjectiveUptoCardSaid : Prop := Claim7.holds Tryz.pinned (.plain (OpenSpec.upto opmlIsInjectiveSpec)) opmlIsInjectiveUptoCard

/-- THE SECOND FORM's CARD OF 'feedvaultlaw19.OpmlIsStable'. -/
def opmlIsStableUptoCard : Claim7 := { stood := { row := opmlIsStableUptoRow, standIns := [], harness := (true, "fc646f4ec087820d56142a8d3af391f2978304ac98ac4e0c4d0ed1d31e8fe297"), looks := false }, kinds := [], alts := [], laidByText := true, laidKinds := [.data, .data, .data, .data, .data, .data, .data, .pinned], laidTests := true, laidLooks := .later }
def OpmlIsStableUptoCardSaid : Prop := Claim7.holds Tryz.pinned (.plain (OpenSpec.upto opmlIsStableSpec)) opmlIsStableUptoCard

/-- THE SECOND FORM's CARD OF 'feedvaultlaw19.OpmlEncodeMatchesReference'. -/
def opmlEncodeMatchesReferenceUptoCard : Claim7 := { stood := { row := opmlEncodeMatchesReferenceUptoRow, standIns := [], harness := (true, "fc646f4ec087820d56142a8d3af391f2978304ac98ac4e0c4d0ed1d31e8fe297"), looks := false }, kinds := [], alts := [], laidByText := true, laidKinds := [.data, .data, .data, .data, .data, .data, .data, .pinned], laidTests := true, laidLooks := .later }
def OpmlEncodeMatchesReferenceUptoCardSaid : Prop := Claim7.holds Tryz.pinned (.plain (OpenSpec.upto opmlEncodeMatchesReferenceSpec)) opmlEncodeMatchesReferenceUptoCard

/-- THE SECOND FORM's CARD OF 'feedvaultlaw19.OpmlRoundTrip'. -/
def opmlRoundTripUptoCard : Claim7 := { stood := { row := opmlRoundTripUptoRow, standIns := [], harness := (true, "fc646f4ec087820d56142a8d3af391f2978304ac98ac4e0c4d0ed1d31e8fe297"), looks := false }, kinds := [], alts := [], laidByText := true, laidKinds := [.data, .data, .data, .data, .data, .data, .data, .pinned], laidTests := true, laidLooks := .later }
def OpmlRoundTripUptoCardSaid : Prop := Claim7.holds Tryz.pinned (.plain (OpenSpec.upto opmlRoundTripSpec)) opmlRoundTripUptoCard

/-- THE SECOND FORM's CARD OF 'feedvaultlaw19.OpmlOutlines'. -/
def opmlOutlinesUptoCard : Claim7 := { stood := { row := opmlOutlinesUptoRow, standIns := [], harness := (true, "fc646f4ec087820d56142a8d3af391f2978304ac98ac4e0c4d0ed1d31e8fe297"), looks := false }, kinds := [], alts := [], laidByText := true, laidKinds := [.data, .data, .data, .data, .data, .data, .data, .pinned], laidTests := true, laidLooks := .later }
def OpmlOutlinesUptoCardSaid : Prop := Claim7.holds Tryz.pinned (.plain (OpenSpec.upto opmlOutlinesSpec)) opmlOutlinesUptoCard

/-- THE SECOND FORM's CARD OF 'feedvaultlaw19.OpmlDepth'. -/
def opmlDepthUptoCard : Claim7 := { stood := { row := opmlDepthUptoRow, standIns := [], harness := (true, "fc646f4ec087820d56142a8d3af391f2978304ac98ac4e0c4d0ed1d31e8fe297"), looks := false }, kinds := [], alts := [], laidByText := true, laidKinds := [.data, .data, .data, .data, .data, .data, .data, .pinned], laidTests := true, laidLooks := .later }
def OpmlDepthUptoCardSaid : Prop := Claim7.holds Tryz.pinned (.plain (OpenSpec.upto opmlDepthSpec)) opmlDepthUptoCard
end Rows
end Go.Proofs.YtnlafkgkcnenfaaGreatDoor
