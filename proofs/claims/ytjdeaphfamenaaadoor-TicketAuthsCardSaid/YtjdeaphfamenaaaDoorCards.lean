/-
  DERIVED. GIVEN WITH THE SEED: THE CARDS: each row of YtjdeaphfamenaaaDoorRows.lean that lists a variable, with what it lists TIED to the program's text (the seventh form; the later family's looks); each row that meets fmt, with fmt's text TOLD by the authors' own Lean function (tested against real Go, not proved from fmt's source: count such statements apart). THE CARD IS WHAT COUNTS. Prove the row's statement (the work); the ties are given (YtjdeaphfamenaaaDoorTie.lean); close each card by the builder's one call (the guide's Derived/Test/ToyasCard.lean, 'card_holds'). Laid BY PROGRAM, IN A SANDBOX (cutbox-door.mjs). By AI agents, Wed Nov 11 2026. No macro, syntax, notation, axiom, sorry.
-/
import Derived.Test.YtjdeaphfamenaaaDoorRows
import GoSem.ClaimSeven
namespace Go.Proofs.YtjdeaphfamenaaaDoor
namespace Rows

/-- THE TIED CARD OF 'gangwaylaw02.NameLimits'. -/
def nameLimitsCard : Claim7 := { stood := { row := nameLimitsRow, standIns := [], harness := (true, "93ed7c99e33df42c1d4ba1afb795606ffafa856779d763c6dae3fe3ec251acbe"), looks := false }, kinds := [], alts := [], laidByText := true, laidKinds := [.data, .pinned], laidTests := true, laidLooks := .later }
def NameLimitsCardSaid : Prop := Claim7.holds Tryd.pinned (.plain (OpenSpec.ofChange nameLimitsSpec)) nameLimitsCard

/-- THE TIED CARD OF 'gangwaylaw07.TicketValid'. -/
def ticketValidCard : Claim7 := { stood := { row := ticketValidRow, standIns := [], harness := (true, "93ed7c99e33df42c1d4ba1afb795606ffafa856779d763c6dae3fe3ec251acbe"), looks := false }, kinds := [], alts := [], laidByText := true, laidKinds := [.data, .pinned], laidTests := true, laidLooks := .later }
def TicketValidCardSaid : Prop := Claim7.holds Tryd.pinned (.plain (OpenSpec.ofChange ticketValidSpec)) ticketValidCard

/-- THE TIED CARD OF 'gangwaylaw07.TicketLasts'. -/
def ticketLastsCard : Claim7 := { stood := { row := ticketLastsRow, standIns := [], harness := (true, "93ed7c99e33df42c1d4ba1afb795606ffafa856779d763c6dae3fe3ec251acbe"), looks := false }, kinds := [], alts := [], laidByText := true, laidKinds := [.data, .pinned], laidTests := true, laidLooks := .later }
def TicketLastsCardSaid : Prop := Claim7.holds Tryd.pinned (.plain (OpenSpec.ofChange ticketLastsSpec)) ticketLastsCard

/-- THE TIED CARD OF 'gangwaylaw02.NameTexts'. -/
def nameTextsCard : Claim7 := { stood := { row := nameTextsRow, standIns := [], harness := (true, "93ed7c99e33df42c1d4ba1afb795606ffafa856779d763c6dae3fe3ec251acbe"), looks := false }, kinds := [], alts := [], laidByText := true, laidKinds := [.data, .pinned], laidTests := true, laidLooks := .later }
def NameTextsCardSaid : Prop := Claim7.holds Tryd.pinned (.plain (OpenSpec.ofChange nameTextsSpec)) nameTextsCard

/-- THE TIED CARD OF 'gangwaylaw02.NameParses'. -/
def nameParsesCard : Claim7 := { stood := { row := nameParsesRow, standIns := [], harness := (true, "93ed7c99e33df42c1d4ba1afb795606ffafa856779d763c6dae3fe3ec251acbe"), looks := false }, kinds := [], alts := [], laidByText := true, laidKinds := [.data, .pinned], laidTests := true, laidLooks := .later }
def NameParsesCardSaid : Prop := Claim7.holds Tryd.pinned (.plain (OpenSpec.ofChange nameParsesSpec)) nameParsesCard

/-- THE TIED CARD OF 'gangwaylaw02.NameApart'. -/
def nameApartCard : Claim7 := { stood := { row := nameApartRow, standIns := [], harness := (true, "93ed7c99e33df42c1d4ba1afb795606ffafa856779d763c6dae3fe3ec251acbe"), looks := false }, kinds := [], alts := [], laidByText := true, laidKinds := [.data, .pinned], laidTests := true, laidLooks := .later }
def NameApartCardSaid : Prop := Claim7.holds Tryd.pinned (.plain (OpenSpec.ofChange nameApartSpec)) nameApartCard

/-- THE TIED CARD OF 'gangwaylaw02.NameSame'. -/
def nameSameCard : Claim7 := { stood := { row := nameSameRow, standIns := [], harness := (true, "93ed7c99e33df42c1d4ba1afb795606ffafa856779d763c6dae3fe3ec251acbe"), looks := false }, kinds := [], alts := [], laidByText := true, laidKinds := [.data, .pinned], laidTests := true, laidLooks := .later }
def NameSameCardSaid : Prop := Claim7.holds Tryd.pinned (.plain (OpenSpec.ofChange nameSameSpec)) nameSameCard

/-- THE TIED CARD OF 'gangwaylaw08.KrbNames'. -/
def krbNamesCard : Claim7 := { stood := { row := krbNamesRow, standIns := [], harness := (true, "93ed7c99e33df42c1d4ba1afb795606ffafa856779d763c6dae3fe3ec251acbe"), looks := false }, kinds := [], alts := [], laidByText := true, laidKinds := [.data, .pinned], laidTests := true, laidLooks := .later }
def KrbNamesCardSaid : Prop := Claim7.holds Tryd.pinned (.plain (OpenSpec.ofChange krbNamesSpec)) krbNamesCard

/-- THE TIED CARD OF 'gangwaylaw08.KrbApart'. -/
def krbApartCard : Claim7 := { stood := { row := krbApartRow, standIns := [], harness := (true, "93ed7c99e33df42c1d4ba1afb795606ffafa856779d763c6dae3fe3ec251acbe"), looks := false }, kinds := [], alts := [], laidByText := true, laidKinds := [.data, .pinned], laidTests := true, laidLooks := .later }
def KrbApartCardSaid : Prop := Claim7.holds Tryd.pinned (.plain (OpenSpec.ofChange krbApartSpec)) krbApartCard

/-- THE TIED CARD OF 'gangwaylaw08.KrbBare'. -/
def krbBareCard : Claim7 := { stood := { row := krbBareRow, standIns := [], harness := (true, "93ed7c99e33df42c1d4ba1afb795606ffafa856779d763c6dae3fe3ec251acbe"), looks := false }, kinds := [], alts := [], laidByText := true, laidKinds := [.data, .pinned], laidTests := true, laidLooks := .later }
def KrbBareCardSaid : Prop := Claim7.holds Tryd.pinned (.plain (OpenSpec.ofChange krbBareSpec)) krbBareCard

/-- THE TIED CARD OF 'gangwaylaw07.TicketAuths'. -/
def ticketAuthsCard : Claim7 := { stood := { row := ticketAuthsRow, standIns := [], harness := (true, "93ed7c99e33df42c1d4ba1afb795606ffafa856779d763c6dae3fe3ec251acbe"), looks := false }, kinds := [], alts := [], laidByText := true, laidKinds := [.data, .pinned], laidTests := true, laidLooks := .later }
def TicketAuthsCardSaid : Prop := Claim7.holds Tryd.pinned (.plain (OpenSpec.ofChange ticketAuthsSpec)) ticketAuthsCard

/-- THE TIED CARD OF 'gangwaylaw08.KrbReads'. -/
def krbReadsCard : Claim7 := { stood := { row := krbReadsRow, standIns := [], harness := (true, "93ed7c99e33df42c1d4ba1afb795606ffafa856779d763c6dae3fe3ec251acbe"), looks := false }, kinds := [], alts := [], laidByText := true, laidKinds := [.data, .pinned], laidTests := true, laidLooks := .later }
def KrbReadsCardSaid : Prop := Claim7.holds Tryd.pinned (.plain (OpenSpec.ofChange krbReadsSpec)) krbReadsCard

/-- THE TIED CARD OF 'gangwaylaw08.KrbCuts'. -/
def krbCutsCard : Claim7 := { stood := { row := krbCutsRow, standIns := [], harness := (true, "93ed7c99e33df42c1d4ba1afb795606ffafa856779d763c6dae3fe3ec251acbe"), looks := false }, kinds := [], alts := [], laidByText := true, laidKinds := [.data, .pinned], laidTests := true, laidLooks := .later }
def KrbCutsCardSaid : Prop := Claim7.holds Tryd.pinned (.plain (OpenSpec.ofChange krbCutsSpec)) krbCutsCard

/-- THE TIED CARD OF 'gangwaylaw08.KrbWrites'. -/
def krbWritesCard : Claim7 := { stood := { row := krbWritesRow, standIns := [], harness := (true, "93ed7c99e33df42c1d4ba1afb795606ffafa856779d763c6dae3fe3ec251acbe"), looks := false }, kinds := [], alts := [], laidByText := true, laidKinds := [.data, .pinned], laidTests := true, laidLooks := .later }
def KrbWritesCardSaid : Prop := Claim7.holds Tryd.pinned (.plain (OpenSpec.ofChange krbWritesSpec)) krbWritesCard

/-- THE SECOND FORM's CARD OF 'gangwaylaw02.NameLimits'. -/
def nameLimitsUptoCard : Claim7 := { stood := { row := nameLimitsUptoRow, standIns := [], harness := (true, "93ed7c99e33df42c1d4ba1afb795606ffafa856779d763c6dae3fe3ec251acbe"), looks := false }, kinds := [], alts := [], laidByText := true, laidKinds := [.data, .pinned], laidTests := true, laidLooks := .later }
def NameLimitsUptoCardSaid : Prop := Claim7.holds Tryd.pinned (.plain (OpenSpec.upto nameLimitsSpec)) nameLimitsUptoCard

/-- THE SECOND FORM's CARD OF 'gangwaylaw07.TicketValid'. -/
def ticketValidUptoCard : Claim7 := { stood := { row := ticketValidUptoRow, standIns := [], harness := (true, "93ed7c99e33df42c1d4ba1afb795606ffafa856779d763c6dae3fe3ec251acbe"), looks := false }, kinds := [], alts := [], laidByText := true, laidKinds := [.data, .pinned], laidTests := true, laidLooks := .later }
def TicketValidUptoCardSaid : Prop := Claim7.holds Tryd.pinned (.plain (OpenSpec.upto ticketValidSpec)) ticketValidUptoCard

/-- THE SECOND FORM's CARD OF 'gangwaylaw07.TicketLasts'. -/
def ticketLastsUptoCard : Claim7 := { stood := { row := ticketLastsUptoRow, standIns := [], harness := (true, "93ed7c99e33df42c1d4ba1afb795606ffafa856779d763c6dae3fe3ec251acbe"), looks := false }, kinds := [], alts := [], laidByText := true, laidKinds := [.data, .pinned], laidTests := true, laidLooks := .later }
def TicketLastsUptoCardSaid : Prop := Claim7.holds Tryd.pinned (.plain (OpenSpec.upto ticketLastsSpec)) ticketLastsUptoCard

/-- THE SECOND FORM's CARD OF 'gangwaylaw02.NameTexts'. -/
def nameTextsUptoCard : Claim7 := { stood := { row := nameTextsUptoRow, standIns := [], harness := (true, "93ed7c99e33df42c1d4ba1afb795606ffafa856779d763c6dae3fe3ec251acbe"), looks := false }, kinds := [], alts := [], laidByText := true, laidKinds := [.data, .pinned], laidTests := true, laidLooks := .later }
def NameTextsUptoCardSaid : Prop := Claim7.holds Tryd.pinned (.plain (OpenSpec.upto nameTextsSpec)) nameTextsUptoCard

/-- THE SECOND FORM's CARD OF 'gangwaylaw02.NameParses'. -/
def nameParsesUptoCard : Claim7 := { stood := { row := nameParsesUptoRow, standIns := [], harness := (true, "93ed7c99e33df42c1d4ba1afb795606ffafa856779d763c6dae3fe3ec251acbe"), looks := false }, kinds := [], alts := [], laidByText := true, laidKinds := [.data, .pinned], laidTests := true, laidLooks := .later }
def NameParsesUptoCardSaid : Prop := Claim7.holds Tryd.pinned (.plain (OpenSpec.upto nameParsesSpec)) nameParsesUptoCard

/-- THE SECOND FORM's CARD OF 'gangwaylaw02.NameApart'. -/
def nameApartUptoCard : Claim7 := { stood := { row := nameApartUptoRow, standIns := [], harness := (true, "93ed7c99e33df42c1d4ba1afb795606ffafa856779d763c6dae3fe3ec251acbe"), looks := false }, kinds := [], alts := [], laidByText := true, laidKinds := [.data, .pinned], laidTests := true, laidLooks := .later }
def NameApartUptoCardSaid : Prop := Claim7.holds Tryd.pinned (.plain (OpenSpec.upto nameApartSpec)) nameApartUptoCard

/-- THE SECOND FORM's CARD OF 'gangwaylaw02.NameSame'. -/
def nameSameUptoCard : Claim7 := { stood := { row := nameSameUptoRow, standIns := [], harness := (true, "93ed7c99e33df42c1d4ba1afb795606ffafa856779d763c6dae3fe3ec251acbe"), looks := false }, kinds := [], alts := [], laidByText := true, laidKinds := [.data, .pinned], laidTests := true, laidLooks := .later }
def NameSameUptoCardSaid : Prop := Claim7.holds Tryd.pinned (.plain (OpenSpec.upto nameSameSpec)) nameSameUptoCard

/-- THE SECOND FORM's CARD OF 'gangwaylaw08.KrbNames'. -/
def krbNamesUptoCard : Claim7 := { stood := { row := krbNamesUptoRow, standIns := [], harness := (true, "93ed7c99e33df42c1d4ba1afb795606ffafa856779d763c6dae3fe3ec251acbe"), looks := false }, kinds := [], alts := [], laidByText := true, laidKinds := [.data, .pinned], laidTests := true, laidLooks := .later }
def KrbNamesUptoCardSaid : Prop := Claim7.holds Tryd.pinned (.plain (OpenSpec.upto krbNamesSpec)) krbNamesUptoCard

/-- THE SECOND FORM's CARD OF 'gangwaylaw08.KrbApart'. -/
def krbApartUptoCard : Claim7 := { stood := { row := krbApartUptoRow, standIns := [], harness := (true, "93ed7c99e33df42c1d4ba1afb795606ffafa856779d763c6dae3fe3ec251acbe"), looks := false }, kinds := [], alts := [], laidByText := true, laidKinds := [.data, .pinned], laidTests := true, laidLooks := .later }
def KrbApartUptoCardSaid : Prop := Claim7.holds Tryd.pinned (.plain (OpenSpec.upto krbApartSpec)) krbApartUptoCard

/-- THE SECOND FORM's CARD OF 'gangwaylaw08.KrbBare'. -/
def krbBareUptoCard : Claim7 := { stood := { row := krbBareUptoRow, standIns := [], harness := (true, "93ed7c99e33df42c1d4ba1afb795606ffafa856779d763c6dae3fe3ec251acbe"), looks := false }, kinds := [], alts := [], laidByText := true, laidKinds := [.data, .pinned], laidTests := true, laidLooks := .later }
def KrbBareUptoCardSaid : Prop := Claim7.holds Tryd.pinned (.plain (OpenSpec.upto krbBareSpec)) krbBareUptoCard

/-- THE SECOND FORM's CARD OF 'gangwaylaw07.TicketAuths'. -/
def ticketAuthsUptoCard : Claim7 := { stood := { row := ticketAuthsUptoRow, standIns := [], harness := (true, "93ed7c99e33df42c1d4ba1afb795606ffafa856779d763c6dae3fe3ec251acbe"), looks := false }, kinds := [], alts := [], laidByText := true, laidKinds := [.data, .pinned], laidTests := true, laidLooks := .later }
def TicketAuthsUptoCardSaid : Prop := Claim7.holds Tryd.pinned (.plain (OpenSpec.upto ticketAuthsSpec)) ticketAuthsUptoCard

/-- THE SECOND FORM's CARD OF 'gangwaylaw08.KrbReads'. -/
def krbReadsUptoCard : Claim7 := { stood := { row := krbReadsUptoRow, standIns := [], harness := (true, "93ed7c99e33df42c1d4ba1afb795606ffafa856779d763c6dae3fe3ec251acbe"), looks := false }, kinds := [], alts := [], laidByText := true, laidKinds := [.data, .pinned], laidTests := true, laidLooks := .later }
def KrbReadsUptoCardSaid : Prop := Claim7.holds Tryd.pinned (.plain (OpenSpec.upto krbReadsSpec)) krbReadsUptoCard

/-- THE SECOND FORM's CARD OF 'gangwaylaw08.KrbCuts'. -/
def krbCutsUptoCard : Claim7 := { stood := { row := krbCutsUptoRow, standIns := [], harness := (true, "93ed7c99e33df42c1d4ba1afb795606ffafa856779d763c6dae3fe3ec251acbe"), looks := false }, kinds := [], alts := [], laidByText := true, laidKinds := [.data, .pinned], laidTests := true, laidLooks := .later }
def KrbCutsUptoCardSaid : Prop := Claim7.holds Tryd.pinned (.plain (OpenSpec.upto krbCutsSpec)) krbCutsUptoCard

/-- THE SECOND FORM's CARD OF 'gangwaylaw08.KrbWrites'. -/
def krbWritesUptoCard : Claim7 := { stood := { row := krbWritesUptoRow, standIns := [], harness := (true, "93ed7c99e33df42c1d4ba1afb795606ffafa856779d763c6dae3fe3ec251acbe"), looks := false }, kinds := [], alts := [], laidByText := true, laidKinds := [.data, .pinned], laidTests := true, laidLooks := .later }
def KrbWritesUptoCardSaid : Prop := Claim7.holds Tryd.pinned (.plain (OpenSpec.upto krbWritesSpec)) krbWritesUptoCard
end Rows
end Go.Proofs.YtjdeaphfamenaaaDoor
