/-
  DERIVED. GIVEN WITH THE SEED: THE CARDS: each row of YticgfjalikmniaaDoorRows.lean that lists a variable, with what it lists TIED to the program's text (the seventh form; the later family's looks); each row that meets fmt, with fmt's text TOLD by the authors' own Lean function (tested against real Go, not proved from fmt's source: count such statements apart). THE CARD IS WHAT COUNTS. Prove the row's statement (the work); the ties are given (YticgfjalikmniaaDoorTie.lean); close each card by the builder's one call (the guide's Derived/Test/ToyasCard.lean, 'card_holds'). Laid BY PROGRAM, IN A SANDBOX (cutbox-door.mjs). By AI agents, Wed Nov 11 2026. No macro, syntax, notation, axiom, sorry.
-/
import Derived.Test.YticgfjalikmniaaDoorRows
import GoSem.ClaimSeven
namespace Go.Proofs.YticgfjalikmniaaDoor
namespace Rows

/-- THE TIED CARD OF 'gangwaylaw03.ShaSums'. -/
def shaSumsCard : Claim7 := { stood := { row := shaSumsRow, standIns := [], harness := (true, "75e4adf9a455559aa1f642d6447609cf628c05023f0000c911b762677eb4b9c6"), looks := false }, kinds := [], alts := [], laidByText := true, laidKinds := [.data, .data], laidTests := true, laidLooks := .later }
def ShaSumsCardSaid : Prop := Claim7.holds Tryd.pinned (.plain (OpenSpec.ofChange shaSumsSpec)) shaSumsCard

/-- THE TIED CARD OF 'gangwaylaw03.ShaPieces'. -/
def shaPiecesCard : Claim7 := { stood := { row := shaPiecesRow, standIns := [], harness := (true, "75e4adf9a455559aa1f642d6447609cf628c05023f0000c911b762677eb4b9c6"), looks := false }, kinds := [], alts := [], laidByText := true, laidKinds := [.data, .data], laidTests := true, laidLooks := .later }
def ShaPiecesCardSaid : Prop := Claim7.holds Tryd.pinned (.plain (OpenSpec.ofChange shaPiecesSpec)) shaPiecesCard

/-- THE TIED CARD OF 'gangwaylaw03.ShaApart'. -/
def shaApartCard : Claim7 := { stood := { row := shaApartRow, standIns := [], harness := (true, "75e4adf9a455559aa1f642d6447609cf628c05023f0000c911b762677eb4b9c6"), looks := false }, kinds := [], alts := [], laidByText := true, laidKinds := [.data, .data], laidTests := true, laidLooks := .later }
def ShaApartCardSaid : Prop := Claim7.holds Tryd.pinned (.plain (OpenSpec.ofChange shaApartSpec)) shaApartCard

/-- THE TIED CARD OF 'gangwaylaw03.ShaNothing'. -/
def shaNothingCard : Claim7 := { stood := { row := shaNothingRow, standIns := [], harness := (true, "75e4adf9a455559aa1f642d6447609cf628c05023f0000c911b762677eb4b9c6"), looks := false }, kinds := [], alts := [], laidByText := true, laidKinds := [.data, .data], laidTests := true, laidLooks := .later }
def ShaNothingCardSaid : Prop := Claim7.holds Tryd.pinned (.plain (OpenSpec.ofChange shaNothingSpec)) shaNothingCard

/-- THE TIED CARD OF 'gangwaylaw04.MacSums'. -/
def macSumsCard : Claim7 := { stood := { row := macSumsRow, standIns := [], harness := (true, "75e4adf9a455559aa1f642d6447609cf628c05023f0000c911b762677eb4b9c6"), looks := false }, kinds := [], alts := [], laidByText := true, laidKinds := [.data, .data], laidTests := true, laidLooks := .later }
def MacSumsCardSaid : Prop := Claim7.holds Tryd.pinned (.plain (OpenSpec.ofChange macSumsSpec)) macSumsCard

/-- THE TIED CARD OF 'gangwaylaw04.MacNoughts'. -/
def macNoughtsCard : Claim7 := { stood := { row := macNoughtsRow, standIns := [], harness := (true, "75e4adf9a455559aa1f642d6447609cf628c05023f0000c911b762677eb4b9c6"), looks := false }, kinds := [], alts := [], laidByText := true, laidKinds := [.data, .data], laidTests := true, laidLooks := .later }
def MacNoughtsCardSaid : Prop := Claim7.holds Tryd.pinned (.plain (OpenSpec.ofChange macNoughtsSpec)) macNoughtsCard

/-- THE TIED CARD OF 'gangwaylaw04.MacEqual'. -/
def macEqualCard : Claim7 := { stood := { row := macEqualRow, standIns := [], harness := (true, "75e4adf9a455559aa1f642d6447609cf628c05023f0000c911b762677eb4b9c6"), looks := false }, kinds := [], alts := [], laidByText := true, laidKinds := [.data, .data], laidTests := true, laidLooks := .later }
def MacEqualCardSaid : Prop := Claim7.holds Tryd.pinned (.plain (OpenSpec.ofChange macEqualSpec)) macEqualCard

/-- THE TIED CARD OF 'gangwaylaw04.MacLabels'. -/
def macLabelsCard : Claim7 := { stood := { row := macLabelsRow, standIns := [], harness := (true, "75e4adf9a455559aa1f642d6447609cf628c05023f0000c911b762677eb4b9c6"), looks := false }, kinds := [], alts := [], laidByText := true, laidKinds := [.data, .data], laidTests := true, laidLooks := .later }
def MacLabelsCardSaid : Prop := Claim7.holds Tryd.pinned (.plain (OpenSpec.ofChange macLabelsSpec)) macLabelsCard

/-- THE TIED CARD OF 'gangwaylaw04.MacDerives'. -/
def macDerivesCard : Claim7 := { stood := { row := macDerivesRow, standIns := [], harness := (true, "75e4adf9a455559aa1f642d6447609cf628c05023f0000c911b762677eb4b9c6"), looks := false }, kinds := [], alts := [], laidByText := true, laidKinds := [.data, .data], laidTests := true, laidLooks := .later }
def MacDerivesCardSaid : Prop := Claim7.holds Tryd.pinned (.plain (OpenSpec.ofChange macDerivesSpec)) macDerivesCard

/-- THE TIED CARD OF 'gangwaylaw06.SealBack'. -/
def sealBackCard : Claim7 := { stood := { row := sealBackRow, standIns := [], harness := (true, "75e4adf9a455559aa1f642d6447609cf628c05023f0000c911b762677eb4b9c6"), looks := false }, kinds := [], alts := [], laidByText := true, laidKinds := [.data, .data], laidTests := true, laidLooks := .later }
def SealBackCardSaid : Prop := Claim7.holds Tryd.pinned (.plain (OpenSpec.ofChange sealBackSpec)) sealBackCard

/-- THE TIED CARD OF 'gangwaylaw06.SealNobody'. -/
def sealNobodyCard : Claim7 := { stood := { row := sealNobodyRow, standIns := [], harness := (true, "75e4adf9a455559aa1f642d6447609cf628c05023f0000c911b762677eb4b9c6"), looks := false }, kinds := [], alts := [], laidByText := true, laidKinds := [.data, .data], laidTests := true, laidLooks := .later }
def SealNobodyCardSaid : Prop := Claim7.holds Tryd.pinned (.plain (OpenSpec.ofChange sealNobodySpec)) sealNobodyCard

/-- THE TIED CARD OF 'gangwaylaw06.SealNumbers'. -/
def sealNumbersCard : Claim7 := { stood := { row := sealNumbersRow, standIns := [], harness := (true, "75e4adf9a455559aa1f642d6447609cf628c05023f0000c911b762677eb4b9c6"), looks := false }, kinds := [], alts := [], laidByText := true, laidKinds := [.data, .data], laidTests := true, laidLooks := .later }
def SealNumbersCardSaid : Prop := Claim7.holds Tryd.pinned (.plain (OpenSpec.ofChange sealNumbersSpec)) sealNumbersCard

/-- THE TIED CARD OF 'gangwaylaw06.SealTurned'. -/
def sealTurnedCard : Claim7 := { stood := { row := sealTurnedRow, standIns := [], harness := (true, "75e4adf9a455559aa1f642d6447609cf628c05023f0000c911b762677eb4b9c6"), looks := false }, kinds := [], alts := [], laidByText := true, laidKinds := [.data, .data], laidTests := true, laidLooks := .later }
def SealTurnedCardSaid : Prop := Claim7.holds Tryd.pinned (.plain (OpenSpec.ofChange sealTurnedSpec)) sealTurnedCard

/-- THE TIED CARD OF 'gangwaylaw06.SealFresh'. -/
def sealFreshCard : Claim7 := { stood := { row := sealFreshRow, standIns := [], harness := (true, "75e4adf9a455559aa1f642d6447609cf628c05023f0000c911b762677eb4b9c6"), looks := false }, kinds := [], alts := [], laidByText := true, laidKinds := [.data, .data], laidTests := true, laidLooks := .later }
def SealFreshCardSaid : Prop := Claim7.holds Tryd.pinned (.plain (OpenSpec.ofChange sealFreshSpec)) sealFreshCard

/-- THE SECOND FORM's CARD OF 'gangwaylaw03.ShaSums'. -/
def shaSumsUptoCard : Claim7 := { stood := { row := shaSumsUptoRow, standIns := [], harness := (true, "75e4adf9a455559aa1f642d6447609cf628c05023f0000c911b762677eb4b9c6"), looks := false }, kinds := [], alts := [], laidByText := true, laidKinds := [.data, .data], laidTests := true, laidLooks := .later }
def ShaSumsUptoCardSaid : Prop := Claim7.holds Tryd.pinned (.plain (OpenSpec.upto shaSumsSpec)) shaSumsUptoCard

/-- THE SECOND FORM's CARD OF 'gangwaylaw03.ShaPieces'. -/
def shaPiecesUptoCard : Claim7 := { stood := { row := shaPiecesUptoRow, standIns := [], harness := (true, "75e4adf9a455559aa1f642d6447609cf628c05023f0000c911b762677eb4b9c6"), looks := false }, kinds := [], alts := [], laidByText := true, laidKinds := [.data, .data], laidTests := true, laidLooks := .later }
def ShaPiecesUptoCardSaid : Prop := Claim7.holds Tryd.pinned (.plain (OpenSpec.upto shaPiecesSpec)) shaPiecesUptoCard

/-- THE SECOND FORM's CARD OF 'gangwaylaw03.ShaApart'. -/
def shaApartUptoCard : Claim7 := { stood := { row := shaApartUptoRow, standIns := [], harness := (true, "75e4adf9a455559aa1f642d6447609cf628c05023f0000c911b762677eb4b9c6"), looks := false }, kinds := [], alts := [], laidByText := true, laidKinds := [.data, .data], laidTests := true, laidLooks := .later }
def ShaApartUptoCardSaid : Prop := Claim7.holds Tryd.pinned (.plain (OpenSpec.upto shaApartSpec)) shaApartUptoCard

/-- THE SECOND FORM's CARD OF 'gangwaylaw03.ShaNothing'. -/
def shaNothingUptoCard : Claim7 := { stood := { row := shaNothingUptoRow, standIns := [], harness := (true, "75e4adf9a455559aa1f642d6447609cf628c05023f0000c911b762677eb4b9c6"), looks := false }, kinds := [], alts := [], laidByText := true, laidKinds := [.data, .data], laidTests := true, laidLooks := .later }
def ShaNothingUptoCardSaid : Prop := Claim7.holds Tryd.pinned (.plain (OpenSpec.upto shaNothingSpec)) shaNothingUptoCard

/-- THE SECOND FORM's CARD OF 'gangwaylaw04.MacSums'. -/
def macSumsUptoCard : Claim7 := { stood := { row := macSumsUptoRow, standIns := [], harness := (true, "75e4adf9a455559aa1f642d6447609cf628c05023f0000c911b762677eb4b9c6"), looks := false }, kinds := [], alts := [], laidByText := true, laidKinds := [.data, .data], laidTests := true, laidLooks := .later }
def MacSumsUptoCardSaid : Prop := Claim7.holds Tryd.pinned (.plain (OpenSpec.upto macSumsSpec)) macSumsUptoCard

/-- THE SECOND FORM's CARD OF 'gangwaylaw04.MacNoughts'. -/
def macNoughtsUptoCard : Claim7 := { stood := { row := macNoughtsUptoRow, standIns := [], harness := (true, "75e4adf9a455559aa1f642d6447609cf628c05023f0000c911b762677eb4b9c6"), looks := false }, kinds := [], alts := [], laidByText := true, laidKinds := [.data, .data], laidTests := true, laidLooks := .later }
def MacNoughtsUptoCardSaid : Prop := Claim7.holds Tryd.pinned (.plain (OpenSpec.upto macNoughtsSpec)) macNoughtsUptoCard

/-- THE SECOND FORM's CARD OF 'gangwaylaw04.MacEqual'. -/
def macEqualUptoCard : Claim7 := { stood := { row := macEqualUptoRow, standIns := [], harness := (true, "75e4adf9a455559aa1f642d6447609cf628c05023f0000c911b762677eb4b9c6"), looks := false }, kinds := [], alts := [], laidByText := true, laidKinds := [.data, .data], laidTests := true, laidLooks := .later }
def MacEqualUptoCardSaid : Prop := Claim7.holds Tryd.pinned (.plain (OpenSpec.upto macEqualSpec)) macEqualUptoCard

/-- THE SECOND FORM's CARD OF 'gangwaylaw04.MacLabels'. -/
def macLabelsUptoCard : Claim7 := { stood := { row := macLabelsUptoRow, standIns := [], harness := (true, "75e4adf9a455559aa1f642d6447609cf628c05023f0000c911b762677eb4b9c6"), looks := false }, kinds := [], alts := [], laidByText := true, laidKinds := [.data, .data], laidTests := true, laidLooks := .later }
def MacLabelsUptoCardSaid : Prop := Claim7.holds Tryd.pinned (.plain (OpenSpec.upto macLabelsSpec)) macLabelsUptoCard

/-- THE SECOND FORM's CARD OF 'gangwaylaw04.MacDerives'. -/
def macDerivesUptoCard : Claim7 := { stood := { row := macDerivesUptoRow, standIns := [], harness := (true, "75e4adf9a455559aa1f642d6447609cf628c05023f0000c911b762677eb4b9c6"), looks := false }, kinds := [], alts := [], laidByText := true, laidKinds := [.data, .data], laidTests := true, laidLooks := .later }
def MacDerivesUptoCardSaid : Prop := Claim7.holds Tryd.pinned (.plain (OpenSpec.upto macDerivesSpec)) macDerivesUptoCard

/-- THE SECOND FORM's CARD OF 'gangwaylaw06.SealBack'. -/
def sealBackUptoCard : Claim7 := { stood := { row := sealBackUptoRow, standIns := [], harness := (true, "75e4adf9a455559aa1f642d6447609cf628c05023f0000c911b762677eb4b9c6"), looks := false }, kinds := [], alts := [], laidByText := true, laidKinds := [.data, .data], laidTests := true, laidLooks := .later }
def SealBackUptoCardSaid : Prop := Claim7.holds Tryd.pinned (.plain (OpenSpec.upto sealBackSpec)) sealBackUptoCard

/-- THE SECOND FORM's CARD OF 'gangwaylaw06.SealNobody'. -/
def sealNobodyUptoCard : Claim7 := { stood := { row := sealNobodyUptoRow, standIns := [], harness := (true, "75e4adf9a455559aa1f642d6447609cf628c05023f0000c911b762677eb4b9c6"), looks := false }, kinds := [], alts := [], laidByText := true, laidKinds := [.data, .data], laidTests := true, laidLooks := .later }
def SealNobodyUptoCardSaid : Prop := Claim7.holds Tryd.pinned (.plain (OpenSpec.upto sealNobodySpec)) sealNobodyUptoCard

/-- THE SECOND FORM's CARD OF 'gangwaylaw06.SealNumbers'. -/
def sealNumbersUptoCard : Claim7 := { stood := { row := sealNumbersUptoRow, standIns := [], harness := (true, "75e4adf9a455559aa1f642d6447609cf628c05023f0000c911b762677eb4b9c6"), looks := false }, kinds := [], alts := [], laidByText := true, laidKinds := [.data, .data], laidTests := true, laidLooks := .later }
def SealNumbersUptoCardSaid : Prop := Claim7.holds Tryd.pinned (.plain (OpenSpec.upto sealNumbersSpec)) sealNumbersUptoCard

/-- THE SECOND FORM's CARD OF 'gangwaylaw06.SealTurned'. -/
def sealTurnedUptoCard : Claim7 := { stood := { row := sealTurnedUptoRow, standIns := [], harness := (true, "75e4adf9a455559aa1f642d6447609cf628c05023f0000c911b762677eb4b9c6"), looks := false }, kinds := [], alts := [], laidByText := true, laidKinds := [.data, .data], laidTests := true, laidLooks := .later }
def SealTurnedUptoCardSaid : Prop := Claim7.holds Tryd.pinned (.plain (OpenSpec.upto sealTurnedSpec)) sealTurnedUptoCard

/-- THE SECOND FORM's CARD OF 'gangwaylaw06.SealFresh'. -/
def sealFreshUptoCard : Claim7 := { stood := { row := sealFreshUptoRow, standIns := [], harness := (true, "75e4adf9a455559aa1f642d6447609cf628c05023f0000c911b762677eb4b9c6"), looks := false }, kinds := [], alts := [], laidByText := true, laidKinds := [.data, .data], laidTests := true, laidLooks := .later }
def SealFreshUptoCardSaid : Prop := Claim7.holds Tryd.pinned (.plain (OpenSpec.upto sealFreshSpec)) sealFreshUptoCard
end Rows
end Go.Proofs.YticgfjalikmniaaDoor
