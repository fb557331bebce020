/-
  DERIVED. GIVEN WITH THE SEED: THE CARDS: each row of YtkgieciamophkaaDoorRows.lean that lists a variable, with what it lists TIED to the program's text (the seventh form; the later family's looks); each row that meets fmt, with fmt's text TOLD by the authors' own Lean function (tested against real Go, not proved from fmt's source: count such statements apart). THE CARD IS WHAT COUNTS. Prove the row's statement (the work); the ties are given (YtkgieciamophkaaDoorTie.lean); close each card by the builder's one call (the guide's Derived/Test/ToyasCard.lean, 'card_holds'). Laid BY PROGRAM, IN A SANDBOX (cutbox-door.mjs). By AI agents, Wed Nov 11 2026. No macro, syntax, notation, axiom, sorry.
-/
import Derived.Test.YtkgieciamophkaaDoorRows
import GoSem.ClaimSeven
namespace Go.Proofs.YtkgieciamophkaaDoor
namespace Rows

/-- THE TIED CARD OF 'underpasslaw01.OctetsNumbers'. -/
def octetsNumbersCard : Claim7 := { stood := { row := octetsNumbersRow, standIns := [], harness := (true, "5bcb5f7b20289129a400d19807948811c3376e480a5dc090f643ccbcdcb2b09b"), looks := true }, kinds := [], alts := [], laidByText := true, laidKinds := [.handle], laidTests := true, laidLooks := .later }
def OctetsNumbersCardSaid : Prop := Claim7.holds Tryd.pinned (.plain (OpenSpec.ofChange octetsNumbersSpec)) octetsNumbersCard

/-- THE TIED CARD OF 'underpasslaw01.OctetsWrites'. -/
def octetsWritesCard : Claim7 := { stood := { row := octetsWritesRow, standIns := [], harness := (true, "5bcb5f7b20289129a400d19807948811c3376e480a5dc090f643ccbcdcb2b09b"), looks := true }, kinds := [], alts := [], laidByText := true, laidKinds := [.handle], laidTests := true, laidLooks := .later }
def OctetsWritesCardSaid : Prop := Claim7.holds Tryd.pinned (.plain (OpenSpec.ofChange octetsWritesSpec)) octetsWritesCard

/-- THE TIED CARD OF 'underpasslaw01.OctetsApart'. -/
def octetsApartCard : Claim7 := { stood := { row := octetsApartRow, standIns := [], harness := (true, "5bcb5f7b20289129a400d19807948811c3376e480a5dc090f643ccbcdcb2b09b"), looks := true }, kinds := [], alts := [], laidByText := true, laidKinds := [.handle], laidTests := true, laidLooks := .later }
def OctetsApartCardSaid : Prop := Claim7.holds Tryd.pinned (.plain (OpenSpec.ofChange octetsApartSpec)) octetsApartCard

/-- THE TIED CARD OF 'underpasslaw01.OctetsParts'. -/
def octetsPartsCard : Claim7 := { stood := { row := octetsPartsRow, standIns := [], harness := (true, "5bcb5f7b20289129a400d19807948811c3376e480a5dc090f643ccbcdcb2b09b"), looks := true }, kinds := [], alts := [], laidByText := true, laidKinds := [.handle], laidTests := true, laidLooks := .later }
def OctetsPartsCardSaid : Prop := Claim7.holds Tryd.pinned (.plain (OpenSpec.ofChange octetsPartsSpec)) octetsPartsCard

/-- THE TIED CARD OF 'underpasslaw01.OctetsReads'. -/
def octetsReadsCard : Claim7 := { stood := { row := octetsReadsRow, standIns := [], harness := (true, "5bcb5f7b20289129a400d19807948811c3376e480a5dc090f643ccbcdcb2b09b"), looks := true }, kinds := [], alts := [], laidByText := true, laidKinds := [.handle], laidTests := true, laidLooks := .later }
def OctetsReadsCardSaid : Prop := Claim7.holds Tryd.pinned (.plain (OpenSpec.ofChange octetsReadsSpec)) octetsReadsCard

/-- THE TIED CARD OF 'underpasslaw01.OctetsBack'. -/
def octetsBackCard : Claim7 := { stood := { row := octetsBackRow, standIns := [], harness := (true, "5bcb5f7b20289129a400d19807948811c3376e480a5dc090f643ccbcdcb2b09b"), looks := true }, kinds := [], alts := [], laidByText := true, laidKinds := [.handle], laidTests := true, laidLooks := .later }
def OctetsBackCardSaid : Prop := Claim7.holds Tryd.pinned (.plain (OpenSpec.ofChange octetsBackSpec)) octetsBackCard

/-- THE TIED CARD OF 'underpasslaw03.EtherTells'. -/
def etherTellsCard : Claim7 := { stood := { row := etherTellsRow, standIns := [], harness := (true, "5bcb5f7b20289129a400d19807948811c3376e480a5dc090f643ccbcdcb2b09b"), looks := true }, kinds := [], alts := [], laidByText := true, laidKinds := [.handle, .data], laidTests := true, laidLooks := .later }
def EtherTellsCardSaid : Prop := Claim7.holds Tryd.pinned (.plain (OpenSpec.ofChange etherTellsSpec)) etherTellsCard

/-- THE TIED CARD OF 'underpasslaw03.EtherBack'. -/
def etherBackCard : Claim7 := { stood := { row := etherBackRow, standIns := [], harness := (true, "5bcb5f7b20289129a400d19807948811c3376e480a5dc090f643ccbcdcb2b09b"), looks := true }, kinds := [], alts := [], laidByText := true, laidKinds := [.handle, .data], laidTests := true, laidLooks := .later }
def EtherBackCardSaid : Prop := Claim7.holds Tryd.pinned (.plain (OpenSpec.ofChange etherBackSpec)) etherBackCard

/-- THE TIED CARD OF 'underpasslaw03.EtherSizes'. -/
def etherSizesCard : Claim7 := { stood := { row := etherSizesRow, standIns := [], harness := (true, "5bcb5f7b20289129a400d19807948811c3376e480a5dc090f643ccbcdcb2b09b"), looks := true }, kinds := [], alts := [], laidByText := true, laidKinds := [.handle, .data], laidTests := true, laidLooks := .later }
def EtherSizesCardSaid : Prop := Claim7.holds Tryd.pinned (.plain (OpenSpec.ofChange etherSizesSpec)) etherSizesCard

/-- THE TIED CARD OF 'underpasslaw03.EtherCuts'. -/
def etherCutsCard : Claim7 := { stood := { row := etherCutsRow, standIns := [], harness := (true, "5bcb5f7b20289129a400d19807948811c3376e480a5dc090f643ccbcdcb2b09b"), looks := true }, kinds := [], alts := [], laidByText := true, laidKinds := [.handle, .data], laidTests := true, laidLooks := .later }
def EtherCutsCardSaid : Prop := Claim7.holds Tryd.pinned (.plain (OpenSpec.ofChange etherCutsSpec)) etherCutsCard

/-- THE TIED CARD OF 'underpasslaw03.EtherTags'. -/
def etherTagsCard : Claim7 := { stood := { row := etherTagsRow, standIns := [], harness := (true, "5bcb5f7b20289129a400d19807948811c3376e480a5dc090f643ccbcdcb2b09b"), looks := true }, kinds := [], alts := [], laidByText := true, laidKinds := [.handle, .data], laidTests := true, laidLooks := .later }
def EtherTagsCardSaid : Prop := Claim7.holds Tryd.pinned (.plain (OpenSpec.ofChange etherTagsSpec)) etherTagsCard

/-- THE TIED CARD OF 'underpasslaw03.EtherGroups'. -/
def etherGroupsCard : Claim7 := { stood := { row := etherGroupsRow, standIns := [], harness := (true, "5bcb5f7b20289129a400d19807948811c3376e480a5dc090f643ccbcdcb2b09b"), looks := true }, kinds := [], alts := [], laidByText := true, laidKinds := [.handle, .data], laidTests := true, laidLooks := .later }
def EtherGroupsCardSaid : Prop := Claim7.holds Tryd.pinned (.plain (OpenSpec.ofChange etherGroupsSpec)) etherGroupsCard

/-- THE SECOND FORM's CARD OF 'underpasslaw01.OctetsNumbers'. -/
def octetsNumbersUptoCard : Claim7 := { stood := { row := octetsNumbersUptoRow, standIns := [], harness := (true, "5bcb5f7b20289129a400d19807948811c3376e480a5dc090f643ccbcdcb2b09b"), looks := true }, kinds := [], alts := [], laidByText := true, laidKinds := [.handle], laidTests := true, laidLooks := .later }
def OctetsNumbersUptoCardSaid : Prop := Claim7.holds Tryd.pinned (.plain (OpenSpec.upto octetsNumbersSpec)) octetsNumbersUptoCard

/-- THE SECOND FORM's CARD OF 'underpasslaw01.OctetsWrites'. -/
def octetsWritesUptoCard : Claim7 := { stood := { row := octetsWritesUptoRow, standIns := [], harness := (true, "5bcb5f7b20289129a400d19807948811c3376e480a5dc090f643ccbcdcb2b09b"), looks := true }, kinds := [], alts := [], laidByText := true, laidKinds := [.handle], laidTests := true, laidLooks := .later }
def OctetsWritesUptoCardSaid : Prop := Claim7.holds Tryd.pinned (.plain (OpenSpec.upto octetsWritesSpec)) octetsWritesUptoCard

/-- THE SECOND FORM's CARD OF 'underpasslaw01.OctetsApart'. -/
def octetsApartUptoCard : Claim7 := { stood := { row := octetsApartUptoRow, standIns := [], harness := (true, "5bcb5f7b20289129a400d19807948811c3376e480a5dc090f643ccbcdcb2b09b"), looks := true }, kinds := [], alts := [], laidByText := true, laidKinds := [.handle], laidTests := true, laidLooks := .later }
def OctetsApartUptoCardSaid : Prop := Claim7.holds Tryd.pinned (.plain (OpenSpec.upto octetsApartSpec)) octetsApartUptoCard

/-- THE SECOND FORM's CARD OF 'underpasslaw01.OctetsParts'. -/
def octetsPartsUptoCard : Claim7 := { stood := { row := octetsPartsUptoRow, standIns := [], harness := (true, "5bcb5f7b20289129a400d19807948811c3376e480a5dc090f643ccbcdcb2b09b"), looks := true }, kinds := [], alts := [], laidByText := true, laidKinds := [.handle], laidTests := true, laidLooks := .later }
def OctetsPartsUptoCardSaid : Prop := Claim7.holds Tryd.pinned (.plain (OpenSpec.upto octetsPartsSpec)) octetsPartsUptoCard

/-- THE SECOND FORM's CARD OF 'underpasslaw01.OctetsReads'. -/
def octetsReadsUptoCard : Claim7 := { stood := { row := octetsReadsUptoRow, standIns := [], harness := (true, "5bcb5f7b20289129a400d19807948811c3376e480a5dc090f643ccbcdcb2b09b"), looks := true }, kinds := [], alts := [], laidByText := true, laidKinds := [.handle], laidTests := true, laidLooks := .later }
def OctetsReadsUptoCardSaid : Prop := Claim7.holds Tryd.pinned (.plain (OpenSpec.upto octetsReadsSpec)) octetsReadsUptoCard

/-- THE SECOND FORM's CARD OF 'underpasslaw01.OctetsBack'. -/
def octetsBackUptoCard : Claim7 := { stood := { row := octetsBackUptoRow, standIns := [], harness := (true, "5bcb5f7b20289129a400d19807948811c3376e480a5dc090f643ccbcdcb2b09b"), looks := true }, kinds := [], alts := [], laidByText := true, laidKinds := [.handle], laidTests := true, laidLooks := .later }
def OctetsBackUptoCardSaid : Prop := Claim7.holds Tryd.pinned (.plain (OpenSpec.upto octetsBackSpec)) octetsBackUptoCard

/-- THE SECOND FORM's CARD OF 'underpasslaw03.EtherTells'. -/
def etherTellsUptoCard : Claim7 := { stood := { row := etherTellsUptoRow, standIns := [], harness := (true, "5bcb5f7b20289129a400d19807948811c3376e480a5dc090f643ccbcdcb2b09b"), looks := true }, kinds := [], alts := [], laidByText := true, laidKinds := [.handle, .data], laidTests := true, laidLooks := .later }
def EtherTellsUptoCardSaid : Prop := Claim7.holds Tryd.pinned (.plain (OpenSpec.upto etherTellsSpec)) etherTellsUptoCard

/-- THE SECOND FORM's CARD OF 'underpasslaw03.EtherBack'. -/
def etherBackUptoCard : Claim7 := { stood := { row := etherBackUptoRow, standIns := [], harness := (true, "5bcb5f7b20289129a400d19807948811c3376e480a5dc090f643ccbcdcb2b09b"), looks := true }, kinds := [], alts := [], laidByText := true, laidKinds := [.handle, .data], laidTests := true, laidLooks := .later }
def EtherBackUptoCardSaid : Prop := Claim7.holds Tryd.pinned (.plain (OpenSpec.upto etherBackSpec)) etherBackUptoCard

/-- THE SECOND FORM's CARD OF 'underpasslaw03.EtherSizes'. -/
def etherSizesUptoCard : Claim7 := { stood := { row := etherSizesUptoRow, standIns := [], harness := (true, "5bcb5f7b20289129a400d19807948811c3376e480a5dc090f643ccbcdcb2b09b"), looks := true }, kinds := [], alts := [], laidByText := true, laidKinds := [.handle, .data], laidTests := true, laidLooks := .later }
def EtherSizesUptoCardSaid : Prop := Claim7.holds Tryd.pinned (.plain (OpenSpec.upto etherSizesSpec)) etherSizesUptoCard

/-- THE SECOND FORM's CARD OF 'underpasslaw03.EtherCuts'. -/
def etherCutsUptoCard : Claim7 := { stood := { row := etherCutsUptoRow, standIns := [], harness := (true, "5bcb5f7b20289129a400d19807948811c3376e480a5dc090f643ccbcdcb2b09b"), looks := true }, kinds := [], alts := [], laidByText := true, laidKinds := [.handle, .data], laidTests := true, laidLooks := .later }
def EtherCutsUptoCardSaid : Prop := Claim7.holds Tryd.pinned (.plain (OpenSpec.upto etherCutsSpec)) etherCutsUptoCard

/-- THE SECOND FORM's CARD OF 'underpasslaw03.EtherTags'. -/
def etherTagsUptoCard : Claim7 := { stood := { row := etherTagsUptoRow, standIns := [], harness := (true, "5bcb5f7b20289129a400d19807948811c3376e480a5dc090f643ccbcdcb2b09b"), looks := true }, kinds := [], alts := [], laidByText := true, laidKinds := [.handle, .data], laidTests := true, laidLooks := .later }
def EtherTagsUptoCardSaid : Prop := Claim7.holds Tryd.pinned (.plain (OpenSpec.upto etherTagsSpec)) etherTagsUptoCard

/-- THE SECOND FORM's CARD OF 'underpasslaw03.EtherGroups'. -/
def etherGroupsUptoCard : Claim7 := { stood := { row := etherGroupsUptoRow, standIns := [], harness := (true, "5bcb5f7b20289129a400d19807948811c3376e480a5dc090f643ccbcdcb2b09b"), looks := true }, kinds := [], alts := [], laidByText := true, laidKinds := [.handle, .data], laidTests := true, laidLooks := .later }
def EtherGroupsUptoCardSaid : Prop := Claim7.holds Tryd.pinned (.plain (OpenSpec.upto etherGroupsSpec)) etherGroupsUptoCard
end Rows
end Go.Proofs.YtkgieciamophkaaDoor
