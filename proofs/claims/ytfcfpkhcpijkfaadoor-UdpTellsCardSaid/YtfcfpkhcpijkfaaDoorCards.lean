/-
  DERIVED. GIVEN WITH THE SEED: THE CARDS: each row of YtfcfpkhcpijkfaaDoorRows.lean that lists a variable, with what it lists TIED to the program's text (the seventh form; the later family's looks); each row that meets fmt, with fmt's text TOLD by the authors' own Lean function (tested against real Go, not proved from fmt's source: count such statements apart). THE CARD IS WHAT COUNTS. Prove the row's statement (the work); the ties are given (YtfcfpkhcpijkfaaDoorTie.lean); close each card by the builder's one call (the guide's Derived/Test/ToyasCard.lean, 'card_holds'). Laid BY PROGRAM, IN A SANDBOX (cutbox-door.mjs). By AI agents, Wed Nov 11 2026. No macro, syntax, notation, axiom, sorry.
-/
import Derived.Test.YtfcfpkhcpijkfaaDoorRows
import GoSem.ClaimSeven
namespace Go.Proofs.YtfcfpkhcpijkfaaDoor
namespace Rows

/-- THE TIED CARD OF 'underpasslaw06.UdpTells'. -/
def udpTellsCard : Claim7 := { stood := { row := udpTellsRow, standIns := [], harness := (true, "ac25b7018dd6b425ba737881adcca6e51d06277e86d0e2b21afde6216e219eb5"), looks := true }, kinds := [], alts := [], laidByText := true, laidKinds := [.handle], laidTests := true, laidLooks := .later }
def UdpTellsCardSaid : Prop := Claim7.holds Tryd.pinned (.plain (OpenSpec.ofChange udpTellsSpec)) udpTellsCard

/-- THE TIED CARD OF 'underpasslaw06.UdpBack'. -/
def udpBackCard : Claim7 := { stood := { row := udpBackRow, standIns := [], harness := (true, "ac25b7018dd6b425ba737881adcca6e51d06277e86d0e2b21afde6216e219eb5"), looks := true }, kinds := [], alts := [], laidByText := true, laidKinds := [.handle], laidTests := true, laidLooks := .later }
def UdpBackCardSaid : Prop := Claim7.holds Tryd.pinned (.plain (OpenSpec.ofChange udpBackSpec)) udpBackCard

/-- THE TIED CARD OF 'underpasslaw06.UdpUnlike'. -/
def udpUnlikeCard : Claim7 := { stood := { row := udpUnlikeRow, standIns := [], harness := (true, "ac25b7018dd6b425ba737881adcca6e51d06277e86d0e2b21afde6216e219eb5"), looks := true }, kinds := [], alts := [], laidByText := true, laidKinds := [.handle], laidTests := true, laidLooks := .later }
def UdpUnlikeCardSaid : Prop := Claim7.holds Tryd.pinned (.plain (OpenSpec.ofChange udpUnlikeSpec)) udpUnlikeCard

/-- THE TIED CARD OF 'underpasslaw06.UdpStrange'. -/
def udpStrangeCard : Claim7 := { stood := { row := udpStrangeRow, standIns := [], harness := (true, "ac25b7018dd6b425ba737881adcca6e51d06277e86d0e2b21afde6216e219eb5"), looks := true }, kinds := [], alts := [], laidByText := true, laidKinds := [.handle], laidTests := true, laidLooks := .later }
def UdpStrangeCardSaid : Prop := Claim7.holds Tryd.pinned (.plain (OpenSpec.ofChange udpStrangeSpec)) udpStrangeCard

/-- THE TIED CARD OF 'underpasslaw06.UdpSizes'. -/
def udpSizesCard : Claim7 := { stood := { row := udpSizesRow, standIns := [], harness := (true, "ac25b7018dd6b425ba737881adcca6e51d06277e86d0e2b21afde6216e219eb5"), looks := true }, kinds := [], alts := [], laidByText := true, laidKinds := [.handle], laidTests := true, laidLooks := .later }
def UdpSizesCardSaid : Prop := Claim7.holds Tryd.pinned (.plain (OpenSpec.ofChange udpSizesSpec)) udpSizesCard

/-- THE TIED CARD OF 'underpasslaw05.Ipv4Tells'. -/
def ipv4TellsCard : Claim7 := { stood := { row := ipv4TellsRow, standIns := [], harness := (true, "ac25b7018dd6b425ba737881adcca6e51d06277e86d0e2b21afde6216e219eb5"), looks := true }, kinds := [], alts := [], laidByText := true, laidKinds := [.handle], laidTests := true, laidLooks := .later }
def Ipv4TellsCardSaid : Prop := Claim7.holds Tryd.pinned (.plain (OpenSpec.ofChange ipv4TellsSpec)) ipv4TellsCard

/-- THE TIED CARD OF 'underpasslaw05.Ipv4Back'. -/
def ipv4BackCard : Claim7 := { stood := { row := ipv4BackRow, standIns := [], harness := (true, "ac25b7018dd6b425ba737881adcca6e51d06277e86d0e2b21afde6216e219eb5"), looks := true }, kinds := [], alts := [], laidByText := true, laidKinds := [.handle], laidTests := true, laidLooks := .later }
def Ipv4BackCardSaid : Prop := Claim7.holds Tryd.pinned (.plain (OpenSpec.ofChange ipv4BackSpec)) ipv4BackCard

/-- THE TIED CARD OF 'underpasslaw05.Ipv4Spoilt'. -/
def ipv4SpoiltCard : Claim7 := { stood := { row := ipv4SpoiltRow, standIns := [], harness := (true, "ac25b7018dd6b425ba737881adcca6e51d06277e86d0e2b21afde6216e219eb5"), looks := true }, kinds := [], alts := [], laidByText := true, laidKinds := [.handle], laidTests := true, laidLooks := .later }
def Ipv4SpoiltCardSaid : Prop := Claim7.holds Tryd.pinned (.plain (OpenSpec.ofChange ipv4SpoiltSpec)) ipv4SpoiltCard

/-- THE TIED CARD OF 'underpasslaw05.Ipv4Unlike'. -/
def ipv4UnlikeCard : Claim7 := { stood := { row := ipv4UnlikeRow, standIns := [], harness := (true, "ac25b7018dd6b425ba737881adcca6e51d06277e86d0e2b21afde6216e219eb5"), looks := true }, kinds := [], alts := [], laidByText := true, laidKinds := [.handle], laidTests := true, laidLooks := .later }
def Ipv4UnlikeCardSaid : Prop := Claim7.holds Tryd.pinned (.plain (OpenSpec.ofChange ipv4UnlikeSpec)) ipv4UnlikeCard

/-- THE TIED CARD OF 'underpasslaw05.Ipv4Fields'. -/
def ipv4FieldsCard : Claim7 := { stood := { row := ipv4FieldsRow, standIns := [], harness := (true, "ac25b7018dd6b425ba737881adcca6e51d06277e86d0e2b21afde6216e219eb5"), looks := true }, kinds := [], alts := [], laidByText := true, laidKinds := [.handle], laidTests := true, laidLooks := .later }
def Ipv4FieldsCardSaid : Prop := Claim7.holds Tryd.pinned (.plain (OpenSpec.ofChange ipv4FieldsSpec)) ipv4FieldsCard

/-- THE TIED CARD OF 'underpasslaw05.Ipv4Row'. -/
def ipv4RowCard : Claim7 := { stood := { row := ipv4RowRow, standIns := [], harness := (true, "ac25b7018dd6b425ba737881adcca6e51d06277e86d0e2b21afde6216e219eb5"), looks := true }, kinds := [], alts := [], laidByText := true, laidKinds := [.handle], laidTests := true, laidLooks := .later }
def Ipv4RowCardSaid : Prop := Claim7.holds Tryd.pinned (.plain (OpenSpec.ofChange ipv4RowSpec)) ipv4RowCard

/-- THE TIED CARD OF 'underpasslaw05.Ipv4Limits'. -/
def ipv4LimitsCard : Claim7 := { stood := { row := ipv4LimitsRow, standIns := [], harness := (true, "ac25b7018dd6b425ba737881adcca6e51d06277e86d0e2b21afde6216e219eb5"), looks := true }, kinds := [], alts := [], laidByText := true, laidKinds := [.handle], laidTests := true, laidLooks := .later }
def Ipv4LimitsCardSaid : Prop := Claim7.holds Tryd.pinned (.plain (OpenSpec.ofChange ipv4LimitsSpec)) ipv4LimitsCard

/-- THE SECOND FORM's CARD OF 'underpasslaw06.UdpTells'. -/
def udpTellsUptoCard : Claim7 := { stood := { row := udpTellsUptoRow, standIns := [], harness := (true, "ac25b7018dd6b425ba737881adcca6e51d06277e86d0e2b21afde6216e219eb5"), looks := true }, kinds := [], alts := [], laidByText := true, laidKinds := [.handle], laidTests := true, laidLooks := .later }
def UdpTellsUptoCardSaid : Prop := Claim7.holds Tryd.pinned (.plain (OpenSpec.upto udpTellsSpec)) udpTellsUptoCard

/-- THE SECOND FORM's CARD OF 'underpasslaw06.UdpBack'. -/
def udpBackUptoCard : Claim7 := { stood := { row := udpBackUptoRow, standIns := [], harness := (true, "ac25b7018dd6b425ba737881adcca6e51d06277e86d0e2b21afde6216e219eb5"), looks := true }, kinds := [], alts := [], laidByText := true, laidKinds := [.handle], laidTests := true, laidLooks := .later }
def UdpBackUptoCardSaid : Prop := Claim7.holds Tryd.pinned (.plain (OpenSpec.upto udpBackSpec)) udpBackUptoCard

/-- THE SECOND FORM's CARD OF 'underpasslaw06.UdpUnlike'. -/
def udpUnlikeUptoCard : Claim7 := { stood := { row := udpUnlikeUptoRow, standIns := [], harness := (true, "ac25b7018dd6b425ba737881adcca6e51d06277e86d0e2b21afde6216e219eb5"), looks := true }, kinds := [], alts := [], laidByText := true, laidKinds := [.handle], laidTests := true, laidLooks := .later }
def UdpUnlikeUptoCardSaid : Prop := Claim7.holds Tryd.pinned (.plain (OpenSpec.upto udpUnlikeSpec)) udpUnlikeUptoCard

/-- THE SECOND FORM's CARD OF 'underpasslaw06.UdpStrange'. -/
def udpStrangeUptoCard : Claim7 := { stood := { row := udpStrangeUptoRow, standIns := [], harness := (true, "ac25b7018dd6b425ba737881adcca6e51d06277e86d0e2b21afde6216e219eb5"), looks := true }, kinds := [], alts := [], laidByText := true, laidKinds := [.handle], laidTests := true, laidLooks := .later }
def UdpStrangeUptoCardSaid : Prop := Claim7.holds Tryd.pinned (.plain (OpenSpec.upto udpStrangeSpec)) udpStrangeUptoCard

/-- THE SECOND FORM's CARD OF 'underpasslaw06.UdpSizes'. -/
def udpSizesUptoCard : Claim7 := { stood := { row := udpSizesUptoRow, standIns := [], harness := (true, "ac25b7018dd6b425ba737881adcca6e51d06277e86d0e2b21afde6216e219eb5"), looks := true }, kinds := [], alts := [], laidByText := true, laidKinds := [.handle], laidTests := true, laidLooks := .later }
def UdpSizesUptoCardSaid : Prop := Claim7.holds Tryd.pinned (.plain (OpenSpec.upto udpSizesSpec)) udpSizesUptoCard

/-- THE SECOND FORM's CARD OF 'underpasslaw05.Ipv4Tells'. -/
def ipv4TellsUptoCard : Claim7 := { stood := { row := ipv4TellsUptoRow, standIns := [], harness := (true, "ac25b7018dd6b425ba737881adcca6e51d06277e86d0e2b21afde6216e219eb5"), looks := true }, kinds := [], alts := [], laidByText := true, laidKinds := [.handle], laidTests := true, laidLooks := .later }
def Ipv4TellsUptoCardSaid : Prop := Claim7.holds Tryd.pinned (.plain (OpenSpec.upto ipv4TellsSpec)) ipv4TellsUptoCard

/-- THE SECOND FORM's CARD OF 'underpasslaw05.Ipv4Back'. -/
def ipv4BackUptoCard : Claim7 := { stood := { row := ipv4BackUptoRow, standIns := [], harness := (true, "ac25b7018dd6b425ba737881adcca6e51d06277e86d0e2b21afde6216e219eb5"), looks := true }, kinds := [], alts := [], laidByText := true, laidKinds := [.handle], laidTests := true, laidLooks := .later }
def Ipv4BackUptoCardSaid : Prop := Claim7.holds Tryd.pinned (.plain (OpenSpec.upto ipv4BackSpec)) ipv4BackUptoCard

/-- THE SECOND FORM's CARD OF 'underpasslaw05.Ipv4Spoilt'. -/
def ipv4SpoiltUptoCard : Claim7 := { stood := { row := ipv4SpoiltUptoRow, standIns := [], harness := (true, "ac25b7018dd6b425ba737881adcca6e51d06277e86d0e2b21afde6216e219eb5"), looks := true }, kinds := [], alts := [], laidByText := true, laidKinds := [.handle], laidTests := true, laidLooks := .later }
def Ipv4SpoiltUptoCardSaid : Prop := Claim7.holds Tryd.pinned (.plain (OpenSpec.upto ipv4SpoiltSpec)) ipv4SpoiltUptoCard

/-- THE SECOND FORM's CARD OF 'underpasslaw05.Ipv4Unlike'. -/
def ipv4UnlikeUptoCard : Claim7 := { stood := { row := ipv4UnlikeUptoRow, standIns := [], harness := (true, "ac25b7018dd6b425ba737881adcca6e51d06277e86d0e2b21afde6216e219eb5"), looks := true }, kinds := [], alts := [], laidByText := true, laidKinds := [.handle], laidTests := true, laidLooks := .later }
def Ipv4UnlikeUptoCardSaid : Prop := Claim7.holds Tryd.pinned (.plain (OpenSpec.upto ipv4UnlikeSpec)) ipv4UnlikeUptoCard

/-- THE SECOND FORM's CARD OF 'underpasslaw05.Ipv4Fields'. -/
def ipv4FieldsUptoCard : Claim7 := { stood := { row := ipv4FieldsUptoRow, standIns := [], harness := (true, "ac25b7018dd6b425ba737881adcca6e51d06277e86d0e2b21afde6216e219eb5"), looks := true }, kinds := [], alts := [], laidByText := true, laidKinds := [.handle], laidTests := true, laidLooks := .later }
def Ipv4FieldsUptoCardSaid : Prop := Claim7.holds Tryd.pinned (.plain (OpenSpec.upto ipv4FieldsSpec)) ipv4FieldsUptoCard

/-- THE SECOND FORM's CARD OF 'underpasslaw05.Ipv4Row'. -/
def ipv4RowUptoCard : Claim7 := { stood := { row := ipv4RowUptoRow, standIns := [], harness := (true, "ac25b7018dd6b425ba737881adcca6e51d06277e86d0e2b21afde6216e219eb5"), looks := true }, kinds := [], alts := [], laidByText := true, laidKinds := [.handle], laidTests := true, laidLooks := .later }
def Ipv4RowUptoCardSaid : Prop := Claim7.holds Tryd.pinned (.plain (OpenSpec.upto ipv4RowSpec)) ipv4RowUptoCard

/-- THE SECOND FORM's CARD OF 'underpasslaw05.Ipv4Limits'. -/
def ipv4LimitsUptoCard : Claim7 := { stood := { row := ipv4LimitsUptoRow, standIns := [], harness := (true, "ac25b7018dd6b425ba737881adcca6e51d06277e86d0e2b21afde6216e219eb5"), looks := true }, kinds := [], alts := [], laidByText := true, laidKinds := [.handle], laidTests := true, laidLooks := .later }
def Ipv4LimitsUptoCardSaid : Prop := Claim7.holds Tryd.pinned (.plain (OpenSpec.upto ipv4LimitsSpec)) ipv4LimitsUptoCard
end Rows
end Go.Proofs.YtfcfpkhcpijkfaaDoor
