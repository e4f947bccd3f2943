/-
  DERIVED. GIVEN WITH THE SEED: THE CARDS: each row of YthlnaldahkgjnaaGreatDoorRows.lean that lists a variable, with what it lists TIED to the program's text (the seventh form; the later family's looks); each row that meets fmt, with fmt's text TOLD by the authors' own Lean function (tested against real Go, not proved from fmt's source: count such statements apart). THE CARD IS WHAT COUNTS. Prove the row's statement (the work); the ties are given (YthlnaldahkgjnaaGreatDoorTie.lean); close each card by the builder's one call (the guide's Derived/Test/ToyasCard.lean, 'card_holds'). Laid BY PROGRAM, IN A SANDBOX (cutbox-door.mjs). By AI agents, Wed Nov 11 2026. No macro, syntax, notation, axiom, sorry.
-/
import Derived.Test.YthlnaldahkgjnaaGreatDoorRows
import GoSem.ClaimSeven
namespace Go.Proofs.YthlnaldahkgjnaaGreatDoor
namespace Rows

/-- THE TIED CARD OF 'feedvaultlaw18.JsonfeedMatchesReference'. -/
def jsonfeedMatchesReferenceCard : Claim7 := { stood := { row := jsonfeedMatchesReferenceRow, standIns := [], harness := (true, "72d53e40377b2e75c519e8ecfde5b2f4a1abcd405b7b2d3b2b04379eddf4d0b5"), looks := false }, kinds := [], alts := [], laidByText := true, laidKinds := [.data, .data, .data, .data, .data, .pinned], laidTests := true, laidLooks := .later }
def JsonfeedMatchesReferenceCardSaid : Prop := Claim7.holds Tryz.pinned (.plain (OpenSpec.ofChange jsonfeedMatchesReferenceSpec)) jsonfeedMatchesReferenceCard

/-- THE TIED CARD OF 'feedvaultlaw18.JsonfeedEncodeMatchesReference'. -/
def jsonfeedEncodeMatchesReferenceCard : Claim7 := { stood := { row := jsonfeedEncodeMatchesReferenceRow, standIns := [], harness := (true, "72d53e40377b2e75c519e8ecfde5b2f4a1abcd405b7b2d3b2b04379eddf4d0b5"), looks := false }, kinds := [], alts := [], laidByText := true, laidKinds := [.data, .data, .data, .data, .data, .pinned], laidTests := true, laidLooks := .later }
def JsonfeedEncodeMatchesReferenceCardSaid : Prop := Claim7.holds Tryz.pinned (.plain (OpenSpec.ofChange jsonfeedEncodeMatchesReferenceSpec)) jsonfeedEncodeMatchesReferenceCard

/-- THE TIED CARD OF 'feedvaultlaw18.JsonfeedRoundTrip'. -/
def jsonfeedRoundTripCard : Claim7 := { stood := { row := jsonfeedRoundTripRow, standIns := [], harness := (true, "72d53e40377b2e75c519e8ecfde5b2f4a1abcd405b7b2d3b2b04379eddf4d0b5"), looks := false }, kinds := [], alts := [], laidByText := true, laidKinds := [.data, .data, .data, .data, .data, .pinned], laidTests := true, laidLooks := .later }
def JsonfeedRoundTripCardSaid : Prop := Claim7.holds Tryz.pinned (.plain (OpenSpec.ofChange jsonfeedRoundTripSpec)) jsonfeedRoundTripCard

/-- THE TIED CARD OF 'feedvaultlaw18.JsonfeedIsInjective'. -/
def jsonfeedIsInjectiveCard : Claim7 := { stood := { row := jsonfeedIsInjectiveRow, standIns := [], harness := (true, "72d53e40377b2e75c519e8ecfde5b2f4a1abcd405b7b2d3b2b04379eddf4d0b5"), looks := false }, kinds := [], alts := [], laidByText := true, laidKinds := [.data, .data, .data, .data, .data, .pinned], laidTests := true, laidLooks := .later }
def JsonfeedIsInjectiveCardSaid : Prop := Claim7.holds Tryz.pinned (.plain (OpenSpec.ofChange jsonfeedIsInjectiveSpec)) jsonfeedIsInjectiveCard

/-- THE TIED CARD OF 'feedvaultlaw18.JsonfeedIsStable'. -/
def jsonfeedIsStableCard : Claim7 := { stood := { row := jsonfeedIsStableRow, standIns := [], harness := (true, "72d53e40377b2e75c519e8ecfde5b2f4a1abcd405b7b2d3b2b04379eddf4d0b5"), looks := false }, kinds := [], alts := [], laidByText := true, laidKinds := [.data, .data, .data, .data, .data, .pinned], laidTests := true, laidLooks := .later }
def JsonfeedIsStableCardSaid : Prop := Claim7.holds Tryz.pinned (.plain (OpenSpec.ofChange jsonfeedIsStableSpec)) jsonfeedIsStableCard

/-- THE TIED CARD OF 'feedvaultlaw18.JsonfeedNulls'. -/
def jsonfeedNullsCard : Claim7 := { stood := { row := jsonfeedNullsRow, standIns := [], harness := (true, "72d53e40377b2e75c519e8ecfde5b2f4a1abcd405b7b2d3b2b04379eddf4d0b5"), looks := false }, kinds := [], alts := [], laidByText := true, laidKinds := [.data, .data, .data, .data, .data, .pinned], laidTests := true, laidLooks := .later }
def JsonfeedNullsCardSaid : Prop := Claim7.holds Tryz.pinned (.plain (OpenSpec.ofChange jsonfeedNullsSpec)) jsonfeedNullsCard

/-- THE TIED CARD OF 'feedvaultlaw18.JsonfeedIgnoresOthers'. -/
def jsonfeedIgnoresOthersCard : Claim7 := { stood := { row := jsonfeedIgnoresOthersRow, standIns := [], harness := (true, "72d53e40377b2e75c519e8ecfde5b2f4a1abcd405b7b2d3b2b04379eddf4d0b5"), looks := false }, kinds := [], alts := [], laidByText := true, laidKinds := [.data, .data, .data, .data, .data, .pinned], laidTests := true, laidLooks := .later }
def JsonfeedIgnoresOthersCardSaid : Prop := Claim7.holds Tryz.pinned (.plain (OpenSpec.ofChange jsonfeedIgnoresOthersSpec)) jsonfeedIgnoresOthersCard

/-- THE SECOND FORM's CARD OF 'feedvaultlaw18.JsonfeedMatchesReference'. -/
def jsonfeedMatchesReferenceUptoCard : Claim7 := { stood := { row := jsonfeedMatchesReferenceUptoRow, standIns := [], harness := (true, "72d53e40377b2e75c519e8ecfde5b2f4a1abcd405b7b2d3b2b04379eddf4d0b5"), looks := false }, kinds := [], alts := [], laidByText := true, laidKinds := [.data, .data, .data, .data, .data, .pinned], laidTests := true, laidLooks := .later }
def JsonfeedMatchesReferenceUptoCardSaid : Prop := Claim7.holds Tryz.pinned (.plain (OpenSpec.upto jsonfeedMatchesReferenceSpec)) jsonfeedMatchesReferenceUptoCard

/-- THE SECOND FORM's CARD OF 'feedvaultlaw18.JsonfeedEncodeMatchesReference'. -/
def jsonfeedEncodeMatchesReferenceUptoCard : Claim7 := { stood := { row := jsonfeedEncodeMatchesReferenceUptoRow, standIns := [], harness := (true, "72d53e40377b2e75c519e8ecfde5b2f4a1abcd405b7b2d3b2b04379eddf4d0b5"), looks := false }, kinds := [], alts := [], laidByText := true, laidKinds := [.data, .data, .data, .data, .data, .pinned], laidTests := true, laidLooks := .later }
def JsonfeedEncodeMatchesReferenceUptoCardSaid : Prop := Claim7.holds Tryz.pinned (.plain (OpenSpec.upto jsonfeedEncodeMatchesReferenceSpec)) jsonfeedEncodeMatchesReferenceUptoCard

/-- THE SECOND FORM's CARD OF 'feedvaultlaw18.JsonfeedRoundTrip'. -/
def jsonfeedRoundTripUptoCard : Claim7 := { stood := { row := jsonfeedRoundTripUptoRow, standIns := [], harness := (true, "72d53e40377b2e75c519e8ecfde5b2f4a1abcd405b7b2d3b2b04379eddf4d0b5"), looks := false }, kinds := [], alts := [], laidByText := true, laidKinds := [.data, .data, .data, .data, .data, .pinned], laidTests := true, laidLooks := .later }
def JsonfeedRoundTripUptoCardSaid : Prop := Claim7.holds Tryz.pinned (.plain (OpenSpec.upto jsonfeedRoundTripSpec)) jsonfeedRoundTripUptoCard

/-- THE SECOND FORM's CARD OF 'feedvaultlaw18.JsonfeedIsInjective'. -/
def jsonfeedIsInjectiveUptoCard : Claim7 := { stood := { row := jsonfeedIsInjectiveUptoRow, standIns := [], harness := (true, "72d53e40377b2e75c519e8ecfde5b2f4a1abcd405b7b2d3b2b04379eddf4d0b5"), looks := false }, kinds := [], alts := [], laidByText := true, laidKinds := [.data, .data, .data, .data, .data, .pinned], laidTests := true, laidLooks := .later }
def JsonfeedIsInjectiveUptoCardSaid : Prop := Claim7.holds Tryz.pinned (.plain (OpenSpec.upto jsonfeedIsInjectiveSpec)) jsonfeedIsInjectiveUptoCard

/-- THE SECOND FORM's CARD OF 'feedvaultlaw18.JsonfeedIsStable'. -/
def jsonfeedIsStableUptoCard : Claim7 := { stood := { row := jsonfeedIsStableUptoRow, standIns := [], harness := (true, "72d53e40377b2e75c519e8ecfde5b2f4a1abcd405b7b2d3b2b04379eddf4d0b5"), looks := false }, kinds := [], alts := [], laidByText := true, laidKinds := [.data, .data, .data, .data, .data, .pinned], laidTests := true, laidLooks := .later }
def JsonfeedIsStableUptoCardSaid : Prop := Claim7.holds Tryz.pinned (.plain (OpenSpec.upto jsonfeedIsStableSpec)) jsonfeedIsStableUptoCard

/-- THE SECOND FORM's CARD OF 'feedvaultlaw18.JsonfeedNulls'. -/
def jsonfeedNullsUptoCard : Claim7 := { stood := { row := jsonfeedNullsUptoRow, standIns := [], harness := (true, "72d53e40377b2e75c519e8ecfde5b2f4a1abcd405b7b2d3b2b04379eddf4d0b5"), looks := false }, kinds := [], alts := [], laidByText := true, laidKinds := [.data, .data, .data, .data, .data, .pinned], laidTests := true, laidLooks := .later }
def JsonfeedNullsUptoCardSaid : Prop := Claim7.holds Tryz.pinned (.plain (OpenSpec.upto jsonfeedNullsSpec)) jsonfeedNullsUptoCard

/-- THE SECOND FORM's CARD OF 'feedvaultlaw18.JsonfeedIgnoresOthers'. -/
def jsonfeedIgnoresOthersUptoCard : Claim7 := { stood := { row := jsonfeedIgnoresOthersUptoRow, standIns := [], harness := (true, "72d53e40377b2e75c519e8ecfde5b2f4a1abcd405b7b2d3b2b04379eddf4d0b5"), looks := false }, kinds := [], alts := [], laidByText := true, laidKinds := [.data, .data, .data, .data, .data, .pinned], laidTests := true, laidLooks := .later }
def JsonfeedIgnoresOthersUptoCardSaid : Prop := Claim7.holds Tryz.pinned (.plain (OpenSpec.upto jsonfeedIgnoresOthersSpec)) jsonfeedIgnoresOthersUptoCard
end Rows
end Go.Proofs.YthlnaldahkgjnaaGreatDoor
