/-
  DERIVED. GIVEN WITH THE SEED: THE CARDS: each row of YtpjbfpheenamiaaDoorRows.lean that lists a variable, with what it lists TIED to the program's text (the seventh form; the later family's looks); each row that meets fmt, with fmt's text TOLD by the authors' own Lean function (tested against real Go, not proved from fmt's source: count such statements apart). THE CARD IS WHAT COUNTS. Prove the row's statement (the work); the ties are given (YtpjbfpheenamiaaDoorTie.lean); close each card by the builder's one call (the guide's Derived/Test/ToyasCard.lean, 'card_holds'). Laid BY PROGRAM, IN A SANDBOX (cutbox-door.mjs). By AI agents, Wed Nov 11 2026. No macro, syntax, notation, axiom, sorry.
-/
import Derived.Test.YtpjbfpheenamiaaDoorRows
import GoSem.ClaimSeven
namespace Go.Proofs.YtpjbfpheenamiaaDoor
namespace Rows

/-- THE TIED CARD OF 'whirligiglaw06.ListingTexts'. -/
def listingTextsCard : Claim7 := { stood := { row := listingTextsRow, standIns := [], harness := (true, "1881fe4315e3e1b35d1b5869d2827ccf807f50490bcc3a6c3788c33ba0244d6c"), looks := false }, kinds := [], alts := [], laidByText := true, laidKinds := [.data, .pinned, .pinned], laidTests := true, laidLooks := .later }
def ListingTextsCardSaid : Prop := Claim7.holds Tryd.pinned (.plain (OpenSpec.ofChange listingTextsSpec)) listingTextsCard

/-- THE TIED CARD OF 'whirligiglaw06.ListingOnes'. -/
def listingOnesCard : Claim7 := { stood := { row := listingOnesRow, standIns := [], harness := (true, "1881fe4315e3e1b35d1b5869d2827ccf807f50490bcc3a6c3788c33ba0244d6c"), looks := false }, kinds := [], alts := [], laidByText := true, laidKinds := [.data, .pinned, .pinned], laidTests := true, laidLooks := .later }
def ListingOnesCardSaid : Prop := Claim7.holds Tryd.pinned (.plain (OpenSpec.ofChange listingOnesSpec)) listingOnesCard

/-- THE TIED CARD OF 'whirligiglaw06.ListingAssembles'. -/
def listingAssemblesCard : Claim7 := { stood := { row := listingAssemblesRow, standIns := [], harness := (true, "1881fe4315e3e1b35d1b5869d2827ccf807f50490bcc3a6c3788c33ba0244d6c"), looks := false }, kinds := [], alts := [], laidByText := true, laidKinds := [.data, .pinned, .pinned], laidTests := true, laidLooks := .later }
def ListingAssemblesCardSaid : Prop := Claim7.holds Tryd.pinned (.plain (OpenSpec.ofChange listingAssemblesSpec)) listingAssemblesCard

/-- THE TIED CARD OF 'whirligiglaw06.ListingApart'. -/
def listingApartCard : Claim7 := { stood := { row := listingApartRow, standIns := [], harness := (true, "1881fe4315e3e1b35d1b5869d2827ccf807f50490bcc3a6c3788c33ba0244d6c"), looks := false }, kinds := [], alts := [], laidByText := true, laidKinds := [.data, .pinned, .pinned], laidTests := true, laidLooks := .later }
def ListingApartCardSaid : Prop := Claim7.holds Tryd.pinned (.plain (OpenSpec.ofChange listingApartSpec)) listingApartCard

/-- THE TIED CARD OF 'whirligiglaw06.ListingLines'. -/
def listingLinesCard : Claim7 := { stood := { row := listingLinesRow, standIns := [], harness := (true, "1881fe4315e3e1b35d1b5869d2827ccf807f50490bcc3a6c3788c33ba0244d6c"), looks := false }, kinds := [], alts := [], laidByText := true, laidKinds := [.data, .pinned, .pinned], laidTests := true, laidLooks := .later }
def ListingLinesCardSaid : Prop := Claim7.holds Tryd.pinned (.plain (OpenSpec.ofChange listingLinesSpec)) listingLinesCard

/-- THE TIED CARD OF 'whirligiglaw06.ListingAlls'. -/
def listingAllsCard : Claim7 := { stood := { row := listingAllsRow, standIns := [], harness := (true, "1881fe4315e3e1b35d1b5869d2827ccf807f50490bcc3a6c3788c33ba0244d6c"), looks := false }, kinds := [], alts := [], laidByText := true, laidKinds := [.data, .pinned, .pinned], laidTests := true, laidLooks := .later }
def ListingAllsCardSaid : Prop := Claim7.holds Tryd.pinned (.plain (OpenSpec.ofChange listingAllsSpec)) listingAllsCard

/-- THE TIED CARD OF 'whirligiglaw06.ListingBack'. -/
def listingBackCard : Claim7 := { stood := { row := listingBackRow, standIns := [], harness := (true, "1881fe4315e3e1b35d1b5869d2827ccf807f50490bcc3a6c3788c33ba0244d6c"), looks := false }, kinds := [], alts := [], laidByText := true, laidKinds := [.data, .pinned, .pinned], laidTests := true, laidLooks := .later }
def ListingBackCardSaid : Prop := Claim7.holds Tryd.pinned (.plain (OpenSpec.ofChange listingBackSpec)) listingBackCard

/-- THE SECOND FORM's CARD OF 'whirligiglaw06.ListingTexts'. -/
def listingTextsUptoCard : Claim7 := { stood := { row := listingTextsUptoRow, standIns := [], harness := (true, "1881fe4315e3e1b35d1b5869d2827ccf807f50490bcc3a6c3788c33ba0244d6c"), looks := false }, kinds := [], alts := [], laidByText := true, laidKinds := [.data, .pinned, .pinned], laidTests := true, laidLooks := .later }
def ListingTextsUptoCardSaid : Prop := Claim7.holds Tryd.pinned (.plain (OpenSpec.upto listingTextsSpec)) listingTextsUptoCard

/-- THE SECOND FORM's CARD OF 'whirligiglaw06.ListingOnes'. -/
def listingOnesUptoCard : Claim7 := { stood := { row := listingOnesUptoRow, standIns := [], harness := (true, "1881fe4315e3e1b35d1b5869d2827ccf807f50490bcc3a6c3788c33ba0244d6c"), looks := false }, kinds := [], alts := [], laidByText := true, laidKinds := [.data, .pinned, .pinned], laidTests := true, laidLooks := .later }
def ListingOnesUptoCardSaid : Prop := Claim7.holds Tryd.pinned (.plain (OpenSpec.upto listingOnesSpec)) listingOnesUptoCard

/-- THE SECOND FORM's CARD OF 'whirligiglaw06.ListingAssembles'. -/
def listingAssemblesUptoCard : Claim7 := { stood := { row := listingAssemblesUptoRow, standIns := [], harness := (true, "1881fe4315e3e1b35d1b5869d2827ccf807f50490bcc3a6c3788c33ba0244d6c"), looks := false }, kinds := [], alts := [], laidByText := true, laidKinds := [.data, .pinned, .pinned], laidTests := true, laidLooks := .later }
def ListingAssemblesUptoCardSaid : Prop := Claim7.holds Tryd.pinned (.plain (OpenSpec.upto listingAssemblesSpec)) listingAssemblesUptoCard

/-- THE SECOND FORM's CARD OF 'whirligiglaw06.ListingApart'. -/
def listingApartUptoCard : Claim7 := { stood := { row := listingApartUptoRow, standIns := [], harness := (true, "1881fe4315e3e1b35d1b5869d2827ccf807f50490bcc3a6c3788c33ba0244d6c"), looks := false }, kinds := [], alts := [], laidByText := true, laidKinds := [.data, .pinned, .pinned], laidTests := true, laidLooks := .later }
def ListingApartUptoCardSaid : Prop := Claim7.holds Tryd.pinned (.plain (OpenSpec.upto listingApartSpec)) listingApartUptoCard

/-- THE SECOND FORM's CARD OF 'whirligiglaw06.ListingLines'. -/
def listingLinesUptoCard : Claim7 := { stood := { row := listingLinesUptoRow, standIns := [], harness := (true, "1881fe4315e3e1b35d1b5869d2827ccf807f50490bcc3a6c3788c33ba0244d6c"), looks := false }, kinds := [], alts := [], laidByText := true, laidKinds := [.data, .pinned, .pinned], laidTests := true, laidLooks := .later }
def ListingLinesUptoCardSaid : Prop := Claim7.holds Tryd.pinned (.plain (OpenSpec.upto listingLinesSpec)) listingLinesUptoCard

/-- THE SECOND FORM's CARD OF 'whirligiglaw06.ListingAlls'. -/
def listingAllsUptoCard : Claim7 := { stood := { row := listingAllsUptoRow, standIns := [], harness := (true, "1881fe4315e3e1b35d1b5869d2827ccf807f50490bcc3a6c3788c33ba0244d6c"), looks := false }, kinds := [], alts := [], laidByText := true, laidKinds := [.data, .pinned, .pinned], laidTests := true, laidLooks := .later }
def ListingAllsUptoCardSaid : Prop := Claim7.holds Tryd.pinned (.plain (OpenSpec.upto listingAllsSpec)) listingAllsUptoCard

/-- THE SECOND FORM's CARD OF 'whirligiglaw06.ListingBack'. -/
def listingBackUptoCard : Claim7 := { stood := { row := listingBackUptoRow, standIns := [], harness := (true, "1881fe4315e3e1b35d1b5869d2827ccf807f50490bcc3a6c3788c33ba0244d6c"), looks := false }, kinds := [], alts := [], laidByText := true, laidKinds := [.data, .pinned, .pinned], laidTests := true, laidLooks := .later }
def ListingBackUptoCardSaid : Prop := Claim7.holds Tryd.pinned (.plain (OpenSpec.upto listingBackSpec)) listingBackUptoCard
end Rows
end Go.Proofs.YtpjbfpheenamiaaDoor
