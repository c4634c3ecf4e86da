/-
  DERIVED. GIVEN WITH THE SEED: THE CARDS: each row of YtfadhcljmnilkaaGreatDoorRows.lean that lists a variable, with what it lists TIED to the program's text (the seventh form; the later family's looks); each row that meets fmt, with fmt's text TOLD by the authors' own Lean function (tested against real Go, not proved from fmt's source: count such statements apart). THE CARD IS WHAT COUNTS. Prove the row's statement (the work); the ties are given (YtfadhcljmnilkaaGreatDoorTie.lean); close each card by the builder's one call (the guide's Derived/Test/ToyasCard.lean, 'card_holds'). Laid BY PROGRAM, IN A SANDBOX (cutbox-door.mjs). By AI agents, Wed Nov 11 2026. No macro, syntax, notation, axiom, sorry.
-/
import Derived.Test.YtfadhcljmnilkaaGreatDoorRows
import GoSem.ClaimSeven
namespace Go.Proofs.YtfadhcljmnilkaaGreatDoor
namespace Rows

/-- THE TIED CARD OF 'nearhandlaw05.ReaderParses'. -/
def readerParsesCard : Claim7 := { stood := { row := readerParsesRow, standIns := [], harness := (true, "024fbc9b73c5c4cf0a5605a99030f9db41382abcce9bf7d3eb62748700776439"), looks := true }, kinds := [], alts := [], laidByText := true, laidKinds := [.data, .data, .widerDeep, .widerDeep, .data, .data, .data, .data, .data, .data, .sentinel, .sentinel, .pinned, .pinned, .pinned], laidTests := true, laidLooks := .later }
def ReaderParsesCardSaid : Prop := Claim7.holds Tryz.pinned (.plain (OpenSpec.ofChange readerParsesSpec)) readerParsesCard

/-- THE TIED CARD OF 'nearhandlaw05.ReaderFeeds'. -/
def readerFeedsCard : Claim7 := { stood := { row := readerFeedsRow, standIns := [], harness := (true, "024fbc9b73c5c4cf0a5605a99030f9db41382abcce9bf7d3eb62748700776439"), looks := true }, kinds := [], alts := [], laidByText := true, laidKinds := [.data, .data, .widerDeep, .widerDeep, .data, .data, .data, .data, .data, .data, .sentinel, .sentinel, .pinned, .pinned, .pinned], laidTests := true, laidLooks := .later }
def ReaderFeedsCardSaid : Prop := Claim7.holds Tryz.pinned (.plain (OpenSpec.ofChange readerFeedsSpec)) readerFeedsCard

/-- THE TIED CARD OF 'nearhandlaw09.ItemNumbers'. -/
def itemNumbersCard : Claim7 := { stood := { row := itemNumbersRow, standIns := [], harness := (true, "024fbc9b73c5c4cf0a5605a99030f9db41382abcce9bf7d3eb62748700776439"), looks := true }, kinds := [], alts := [], laidByText := true, laidKinds := [.data, .data, .widerDeep, .widerDeep, .data, .data, .data, .data, .data, .sentinel, .sentinel, .pinned, .pinned], laidTests := true, laidLooks := .later }
def ItemNumbersCardSaid : Prop := Claim7.holds Tryz.pinned (.plain (OpenSpec.ofChange itemNumbersSpec)) itemNumbersCard

/-- THE TIED CARD OF 'nearhandlaw09.ItemReals'. -/
def itemRealsCard : Claim7 := { stood := { row := itemRealsRow, standIns := [], harness := (true, "024fbc9b73c5c4cf0a5605a99030f9db41382abcce9bf7d3eb62748700776439"), looks := true }, kinds := [], alts := [], laidByText := true, laidKinds := [.data, .data, .widerDeep, .widerDeep, .data, .data, .data, .data, .data, .sentinel, .sentinel, .pinned, .pinned], laidTests := true, laidLooks := .later }
def ItemRealsCardSaid : Prop := Claim7.holds Tryz.pinned (.plain (OpenSpec.ofChange itemRealsSpec)) itemRealsCard

/-- THE TIED CARD OF 'nearhandlaw24.ClientOrders'. -/
def clientOrdersCard : Claim7 := { stood := { row := clientOrdersRow, standIns := [], harness := (true, "024fbc9b73c5c4cf0a5605a99030f9db41382abcce9bf7d3eb62748700776439"), looks := true }, kinds := [], alts := [], laidByText := true, laidKinds := [.data, .data, .widerDeep, .widerDeep, .data, .data, .data, .data, .data, .data, .sentinel, .sentinel, .pinned, .pinned, .pinned], laidTests := true, laidLooks := .later }
def ClientOrdersCardSaid : Prop := Claim7.holds Tryz.pinned (.plain (OpenSpec.ofChange clientOrdersSpec)) clientOrdersCard

/-- THE TIED CARD OF 'nearhandlaw09.ItemNames'. -/
def itemNamesCard : Claim7 := { stood := { row := itemNamesRow, standIns := [], harness := (true, "024fbc9b73c5c4cf0a5605a99030f9db41382abcce9bf7d3eb62748700776439"), looks := true }, kinds := [], alts := [], laidByText := true, laidKinds := [.data, .data, .widerDeep, .widerDeep, .data, .data, .data, .data, .data, .sentinel, .sentinel, .pinned, .pinned], laidTests := true, laidLooks := .later }
def ItemNamesCardSaid : Prop := Claim7.holds Tryz.pinned (.plain (OpenSpec.ofChange itemNamesSpec)) itemNamesCard

/-- THE TIED CARD OF 'nearhandlaw04.WireBytes'. -/
def wireBytesCard : Claim7 := { stood := { row := wireBytesRow, standIns := [], harness := (true, "024fbc9b73c5c4cf0a5605a99030f9db41382abcce9bf7d3eb62748700776439"), looks := true }, kinds := [], alts := [], laidByText := true, laidKinds := [.data, .data, .widerDeep, .widerDeep, .data, .data, .data, .data, .data, .sentinel, .sentinel, .pinned, .pinned], laidTests := true, laidLooks := .later }
def WireBytesCardSaid : Prop := Claim7.holds Tryz.pinned (.plain (OpenSpec.ofChange wireBytesSpec)) wireBytesCard

/-- THE TIED CARD OF 'nearhandlaw24.ClientNames'. -/
def clientNamesCard : Claim7 := { stood := { row := clientNamesRow, standIns := [], harness := (true, "024fbc9b73c5c4cf0a5605a99030f9db41382abcce9bf7d3eb62748700776439"), looks := true }, kinds := [], alts := [], laidByText := true, laidKinds := [.data, .data, .widerDeep, .widerDeep, .data, .data, .data, .data, .data, .data, .sentinel, .sentinel, .pinned, .pinned, .pinned, .pinned], laidTests := true, laidLooks := .later }
def ClientNamesCardSaid : Prop := Claim7.holds Tryz.pinned (.plain (OpenSpec.ofChange clientNamesSpec)) clientNamesCard

/-- THE TIED CARD OF 'nearhandlaw24.ClientWrites'. -/
def clientWritesCard : Claim7 := { stood := { row := clientWritesRow, standIns := [], harness := (true, "024fbc9b73c5c4cf0a5605a99030f9db41382abcce9bf7d3eb62748700776439"), looks := true }, kinds := [], alts := [], laidByText := true, laidKinds := [.data, .data, .widerDeep, .widerDeep, .data, .data, .data, .data, .data, .data, .sentinel, .sentinel, .pinned, .pinned, .pinned, .pinned], laidTests := true, laidLooks := .later }
def ClientWritesCardSaid : Prop := Claim7.holds Tryz.pinned (.plain (OpenSpec.ofChange clientWritesSpec)) clientWritesCard

/-- THE TIED CARD OF 'nearhandlaw24.ClientDrops'. -/
def clientDropsCard : Claim7 := { stood := { row := clientDropsRow, standIns := [], harness := (true, "024fbc9b73c5c4cf0a5605a99030f9db41382abcce9bf7d3eb62748700776439"), looks := true }, kinds := [], alts := [], laidByText := true, laidKinds := [.data, .data, .widerDeep, .widerDeep, .data, .data, .data, .data, .data, .data, .sentinel, .sentinel, .pinned, .pinned, .pinned, .pinned], laidTests := true, laidLooks := .later }
def ClientDropsCardSaid : Prop := Claim7.holds Tryz.pinned (.plain (OpenSpec.ofChange clientDropsSpec)) clientDropsCard

/-- THE TIED CARD OF 'nearhandlaw05.ReaderWaits'. -/
def readerWaitsCard : Claim7 := { stood := { row := readerWaitsRow, standIns := [], harness := (true, "024fbc9b73c5c4cf0a5605a99030f9db41382abcce9bf7d3eb62748700776439"), looks := true }, kinds := [], alts := [], laidByText := true, laidKinds := [.data, .data, .widerDeep, .widerDeep, .data, .data, .data, .data, .data, .data, .sentinel, .sentinel, .pinned, .pinned, .pinned], laidTests := true, laidLooks := .later }
def ReaderWaitsCardSaid : Prop := Claim7.holds Tryz.pinned (.plain (OpenSpec.ofChange readerWaitsSpec)) readerWaitsCard

/-- THE TIED CARD OF 'nearhandlaw05.ReaderAgain'. -/
def readerAgainCard : Claim7 := { stood := { row := readerAgainRow, standIns := [], harness := (true, "024fbc9b73c5c4cf0a5605a99030f9db41382abcce9bf7d3eb62748700776439"), looks := true }, kinds := [], alts := [], laidByText := true, laidKinds := [.data, .data, .widerDeep, .widerDeep, .data, .data, .data, .data, .data, .data, .sentinel, .sentinel, .pinned, .pinned, .pinned], laidTests := true, laidLooks := .later }
def ReaderAgainCardSaid : Prop := Claim7.holds Tryz.pinned (.plain (OpenSpec.ofChange readerAgainSpec)) readerAgainCard

/-- THE TIED CARD OF 'nearhandlaw05.ReaderStops'. -/
def readerStopsCard : Claim7 := { stood := { row := readerStopsRow, standIns := [], harness := (true, "024fbc9b73c5c4cf0a5605a99030f9db41382abcce9bf7d3eb62748700776439"), looks := true }, kinds := [], alts := [], laidByText := true, laidKinds := [.data, .data, .widerDeep, .widerDeep, .data, .data, .data, .data, .data, .data, .sentinel, .sentinel, .pinned, .pinned, .pinned], laidTests := true, laidLooks := .later }
def ReaderStopsCardSaid : Prop := Claim7.holds Tryz.pinned (.plain (OpenSpec.ofChange readerStopsSpec)) readerStopsCard

/-- THE SECOND FORM's CARD OF 'nearhandlaw05.ReaderParses'. -/
def readerParsesUptoCard : Claim7 := { stood := { row := readerParsesUptoRow, standIns := [], harness := (true, "024fbc9b73c5c4cf0a5605a99030f9db41382abcce9bf7d3eb62748700776439"), looks := true }, kinds := [], alts := [], laidByText := true, laidKinds := [.data, .data, .widerDeep, .widerDeep, .data, .data, .data, .data, .data, .data, .sentinel, .sentinel, .pinned, .pinned, .pinned], laidTests := true, laidLooks := .later }
def ReaderParsesUptoCardSaid : Prop := Claim7.holds Tryz.pinned (.plain (OpenSpec.upto readerParsesSpec)) readerParsesUptoCard

/-- THE SECOND FORM's CARD OF 'nearhandlaw05.ReaderFeeds'. -/
def readerFeedsUptoCard : Claim7 := { stood := { row := readerFeedsUptoRow, standIns := [], harness := (true, "024fbc9b73c5c4cf0a5605a99030f9db41382abcce9bf7d3eb62748700776439"), looks := true }, kinds := [], alts := [], laidByText := true, laidKinds := [.data, .data, .widerDeep, .widerDeep, .data, .data, .data, .data, .data, .data, .sentinel, .sentinel, .pinned, .pinned, .pinned], laidTests := true, laidLooks := .later }
def ReaderFeedsUptoCardSaid : Prop := Claim7.holds Tryz.pinned (.plain (OpenSpec.upto readerFeedsSpec)) readerFeedsUptoCard

/-- THE SECOND FORM's CARD OF 'nearhandlaw09.ItemNumbers'. -/
def itemNumbersUptoCard : Claim7 := { stood := { row := itemNumbersUptoRow, standIns := [], harness := (true, "024fbc9b73c5c4cf0a5605a99030f9db41382abcce9bf7d3eb62748700776439"), looks := true }, kinds := [], alts := [], laidByText := true, laidKinds := [.data, .data, .widerDeep, .widerDeep, .data, .data, .data, .data, .data, .sentinel, .sentinel, .pinned, .pinned], laidTests := true, laidLooks := .later }
def ItemNumbersUptoCardSaid : Prop := Claim7.holds Tryz.pinned (.plain (OpenSpec.upto itemNumbersSpec)) itemNumbersUptoCard

/-- THE SECOND FORM's CARD OF 'nearhandlaw09.ItemReals'. -/
def itemRealsUptoCard : Claim7 := { stood := { row := itemRealsUptoRow, standIns := [], harness := (true, "024fbc9b73c5c4cf0a5605a99030f9db41382abcce9bf7d3eb62748700776439"), looks := true }, kinds := [], alts := [], laidByText := true, laidKinds := [.data, .data, .widerDeep, .widerDeep, .data, .data, .data, .data, .data, .sentinel, .sentinel, .pinned, .pinned], laidTests := true, laidLooks := .later }
def ItemRealsUptoCardSaid : Prop := Claim7.holds Tryz.pinned (.plain (OpenSpec.upto itemRealsSpec)) itemRealsUptoCard

/-- THE SECOND FORM's CARD OF 'nearhandlaw24.ClientOrders'. -/
def clientOrdersUptoCard : Claim7 := { stood := { row := clientOrdersUptoRow, standIns := [], harness := (true, "024fbc9b73c5c4cf0a5605a99030f9db41382abcce9bf7d3eb62748700776439"), looks := true }, kinds := [], alts := [], laidByText := true, laidKinds := [.data, .data, .widerDeep, .widerDeep, .data, .data, .data, .data, .data, .data, .sentinel, .sentinel, .pinned, .pinned, .pinned], laidTests := true, laidLooks := .later }
def ClientOrdersUptoCardSaid : Prop := Claim7.holds Tryz.pinned (.plain (OpenSpec.upto clientOrdersSpec)) clientOrdersUptoCard

/-- THE SECOND FORM's CARD OF 'nearhandlaw09.ItemNames'. -/
def itemNamesUptoCard : Claim7 := { stood := { row := itemNamesUptoRow, standIns := [], harness := (true, "024fbc9b73c5c4cf0a5605a99030f9db41382abcce9bf7d3eb62748700776439"), looks := true }, kinds := [], alts := [], laidByText := true, laidKinds := [.data, .data, .widerDeep, .widerDeep, .data, .data, .data, .data, .data, .sentinel, .sentinel, .pinned, .pinned], laidTests := true, laidLooks := .later }
def ItemNamesUptoCardSaid : Prop := Claim7.holds Tryz.pinned (.plain (OpenSpec.upto itemNamesSpec)) itemNamesUptoCard

/-- THE SECOND FORM's CARD OF 'nearhandlaw04.WireBytes'. -/
def wireBytesUptoCard : Claim7 := { stood := { row := wireBytesUptoRow, standIns := [], harness := (true, "024fbc9b73c5c4cf0a5605a99030f9db41382abcce9bf7d3eb62748700776439"), looks := true }, kinds := [], alts := [], laidByText := true, laidKinds := [.data, .data, .widerDeep, .widerDeep, .data, .data, .data, .data, .data, .sentinel, .sentinel, .pinned, .pinned], laidTests := true, laidLooks := .later }
def WireBytesUptoCardSaid : Prop := Claim7.holds Tryz.pinned (.plain (OpenSpec.upto wireBytesSpec)) wireBytesUptoCard

/-- THE SECOND FORM's CARD OF 'nearhandlaw24.ClientNames'. -/
def clientNamesUptoCard : Claim7 := { stood := { row := clientNamesUptoRow, standIns := [], harness := (true, "024fbc9b73c5c4cf0a5605a99030f9db41382abcce9bf7d3eb62748700776439"), looks := true }, kinds := [], alts := [], laidByText := true, laidKinds := [.data, .data, .widerDeep, .widerDeep, .data, .data, .data, .data, .data, .data, .sentinel, .sentinel, .pinned, .pinned, .pinned, .pinned], laidTests := true, laidLooks := .later }
def ClientNamesUptoCardSaid : Prop := Claim7.holds Tryz.pinned (.plain (OpenSpec.upto clientNamesSpec)) clientNamesUptoCard

/-- THE SECOND FORM's CARD OF 'nearhandlaw24.ClientWrites'. -/
def clientWritesUptoCard : Claim7 := { stood := { row := clientWritesUptoRow, standIns := [], harness := (true, "024fbc9b73c5c4cf0a5605a99030f9db41382abcce9bf7d3eb62748700776439"), looks := true }, kinds := [], alts := [], laidByText := true, laidKinds := [.data, .data, .widerDeep, .widerDeep, .data, .data, .data, .data, .data, .data, .sentinel, .sentinel, .pinned, .pinned, .pinned, .pinned], laidTests := true, laidLooks := .later }
def ClientWritesUptoCardSaid : Prop := Claim7.holds Tryz.pinned (.plain (OpenSpec.upto clientWritesSpec)) clientWritesUptoCard

/-- THE SECOND FORM's CARD OF 'nearhandlaw24.ClientDrops'. -/
def clientDropsUptoCard : Claim7 := { stood := { row := clientDropsUptoRow, standIns := [], harness := (true, "024fbc9b73c5c4cf0a5605a99030f9db41382abcce9bf7d3eb62748700776439"), looks := true }, kinds := [], alts := [], laidByText := true, laidKinds := [.data, .data, .widerDeep, .widerDeep, .data, .data, .data, .data, .data, .data, .sentinel, .sentinel, .pinned, .pinned, .pinned, .pinned], laidTests := true, laidLooks := .later }
def ClientDropsUptoCardSaid : Prop := Claim7.holds Tryz.pinned (.plain (OpenSpec.upto clientDropsSpec)) clientDropsUptoCard

/-- THE SECOND FORM's CARD OF 'nearhandlaw05.ReaderWaits'. -/
def readerWaitsUptoCard : Claim7 := { stood := { row := readerWaitsUptoRow, standIns := [], harness := (true, "024fbc9b73c5c4cf0a5605a99030f9db41382abcce9bf7d3eb62748700776439"), looks := true }, kinds := [], alts := [], laidByText := true, laidKinds := [.data, .data, .widerDeep, .widerDeep, .data, .data, .data, .data, .data, .data, .sentinel, .sentinel, .pinned, .pinned, .pinned], laidTests := true, laidLooks := .later }
def ReaderWaitsUptoCardSaid : Prop := Claim7.holds Tryz.pinned (.plain (OpenSpec.upto readerWaitsSpec)) readerWaitsUptoCard

/-- THE SECOND FORM's CARD OF 'nearhandlaw05.ReaderAgain'. -/
def readerAgainUptoCard : Claim7 := { stood := { row := readerAgainUptoRow, standIns := [], harness := (true, "024fbc9b73c5c4cf0a5605a99030f9db41382abcce9bf7d3eb62748700776439"), looks := true }, kinds := [], alts := [], laidByText := true, laidKinds := [.data, .data, .widerDeep, .widerDeep, .data, .data, .data, .data, .data, .data, .sentinel, .sentinel, .pinned, .pinned, .pinned], laidTests := true, laidLooks := .later }
def ReaderAgainUptoCardSaid : Prop := Claim7.holds Tryz.pinned (.plain (OpenSpec.upto readerAgainSpec)) readerAgainUptoCard

/-- THE SECOND FORM's CARD OF 'nearhandlaw05.ReaderStops'. -/
def readerStopsUptoCard : Claim7 := { stood := { row := readerStopsUptoRow, standIns := [], harness := (true, "024fbc9b73c5c4cf0a5605a99030f9db41382abcce9bf7d3eb62748700776439"), looks := true }, kinds := [], alts := [], laidByText := true, laidKinds := [.data, .data, .widerDeep, .widerDeep, .data, .data, .data, .data, .data, .data, .sentinel, .sentinel, .pinned, .pinned, .pinned], laidTests := true, laidLooks := .later }
def ReaderStopsUptoCardSaid : Prop := Claim7.holds Tryz.pinned (.plain (OpenSpec.upto readerStopsSpec)) readerStopsUptoCard
end Rows
end Go.Proofs.YtfadhcljmnilkaaGreatDoor
