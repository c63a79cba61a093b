/-
  DERIVED. GIVEN WITH THE SEED: THE CARDS: each row of YtlnkfdblkdhdgaaDoorRows.lean that lists a variable, with what it lists TIED to the program's text (the seventh form; the later family's looks); each row that meets fmt, with fmt's text TOLD by the authors' own Lean function (tested against real Go, not proved from fmt's source: count such statements apart). THE CARD IS WHAT COUNTS. Prove the row's statement (the work); the ties are given (YtlnkfdblkdhdgaaDoorTie.lean); close each card by the builder's one call (the guide's Derived/Test/ToyasCard.lean, 'card_holds'). Laid BY PROGRAM, IN A SANDBOX (cutbox-door.mjs). By AI agents, Wed Nov 11 2026. No macro, syntax, notation, axiom, sorry.
-/
import Derived.Test.YtlnkfdblkdhdgaaDoorRows
import GoSem.ClaimSeven
namespace Go.Proofs.YtlnkfdblkdhdgaaDoor
namespace Rows

/-- THE TIED CARD OF 'gangwaylaw14.PrivOrders'. -/
def privOrdersCard : Claim7 := { stood := { row := privOrdersRow, standIns := [], harness := (true, "331aed12f48e2bd2d7cf905e27e5e17738ff641a0847dd180be67f7166aa6866"), looks := true }, kinds := [], alts := [], laidByText := true, laidKinds := [.data, .data], laidTests := true, laidLooks := .later }
def PrivOrdersCardSaid : Prop := Claim7.holds Tryd.pinned (.plain (OpenSpec.ofChange privOrdersSpec)) privOrdersCard

/-- THE TIED CARD OF 'gangwaylaw14.PrivKeys'. -/
def privKeysCard : Claim7 := { stood := { row := privKeysRow, standIns := [], harness := (true, "331aed12f48e2bd2d7cf905e27e5e17738ff641a0847dd180be67f7166aa6866"), looks := true }, kinds := [], alts := [], laidByText := true, laidKinds := [.data, .data], laidTests := true, laidLooks := .later }
def PrivKeysCardSaid : Prop := Claim7.holds Tryd.pinned (.plain (OpenSpec.ofChange privKeysSpec)) privKeysCard

/-- THE TIED CARD OF 'gangwaylaw14.PrivRoom'. -/
def privRoomCard : Claim7 := { stood := { row := privRoomRow, standIns := [], harness := (true, "331aed12f48e2bd2d7cf905e27e5e17738ff641a0847dd180be67f7166aa6866"), looks := true }, kinds := [], alts := [], laidByText := true, laidKinds := [.data, .data], laidTests := true, laidLooks := .later }
def PrivRoomCardSaid : Prop := Claim7.holds Tryd.pinned (.plain (OpenSpec.ofChange privRoomSpec)) privRoomCard

/-- THE TIED CARD OF 'gangwaylaw14.PrivSafe'. -/
def privSafeCard : Claim7 := { stood := { row := privSafeRow, standIns := [], harness := (true, "331aed12f48e2bd2d7cf905e27e5e17738ff641a0847dd180be67f7166aa6866"), looks := true }, kinds := [], alts := [], laidByText := true, laidKinds := [.data, .data], laidTests := true, laidLooks := .later }
def PrivSafeCardSaid : Prop := Claim7.holds Tryd.pinned (.plain (OpenSpec.ofChange privSafeSpec)) privSafeCard

/-- THE TIED CARD OF 'gangwaylaw16.AuthzParses'. -/
def authzParsesCard : Claim7 := { stood := { row := authzParsesRow, standIns := [], harness := (true, "331aed12f48e2bd2d7cf905e27e5e17738ff641a0847dd180be67f7166aa6866"), looks := true }, kinds := [], alts := [], laidByText := true, laidKinds := [.data, .handle, .pinned], laidTests := true, laidLooks := .later }
def AuthzParsesCardSaid : Prop := Claim7.holds Tryd.pinned (.plain (OpenSpec.ofChange authzParsesSpec)) authzParsesCard

/-- THE TIED CARD OF 'gangwaylaw16.AuthzMaps'. -/
def authzMapsCard : Claim7 := { stood := { row := authzMapsRow, standIns := [], harness := (true, "331aed12f48e2bd2d7cf905e27e5e17738ff641a0847dd180be67f7166aa6866"), looks := true }, kinds := [], alts := [], laidByText := true, laidKinds := [.data, .handle, .pinned], laidTests := true, laidLooks := .later }
def AuthzMapsCardSaid : Prop := Claim7.holds Tryd.pinned (.plain (OpenSpec.ofChange authzMapsSpec)) authzMapsCard

/-- THE TIED CARD OF 'gangwaylaw16.AuthzFirst'. -/
def authzFirstCard : Claim7 := { stood := { row := authzFirstRow, standIns := [], harness := (true, "331aed12f48e2bd2d7cf905e27e5e17738ff641a0847dd180be67f7166aa6866"), looks := true }, kinds := [], alts := [], laidByText := true, laidKinds := [.data, .handle, .pinned], laidTests := true, laidLooks := .later }
def AuthzFirstCardSaid : Prop := Claim7.holds Tryd.pinned (.plain (OpenSpec.ofChange authzFirstSpec)) authzFirstCard

/-- THE TIED CARD OF 'gangwaylaw16.AuthzAllows'. -/
def authzAllowsCard : Claim7 := { stood := { row := authzAllowsRow, standIns := [], harness := (true, "331aed12f48e2bd2d7cf905e27e5e17738ff641a0847dd180be67f7166aa6866"), looks := true }, kinds := [], alts := [], laidByText := true, laidKinds := [.data, .handle, .pinned], laidTests := true, laidLooks := .later }
def AuthzAllowsCardSaid : Prop := Claim7.holds Tryd.pinned (.plain (OpenSpec.ofChange authzAllowsSpec)) authzAllowsCard

/-- THE TIED CARD OF 'gangwaylaw16.AuthzLogin'. -/
def authzLoginCard : Claim7 := { stood := { row := authzLoginRow, standIns := [], harness := (true, "331aed12f48e2bd2d7cf905e27e5e17738ff641a0847dd180be67f7166aa6866"), looks := true }, kinds := [], alts := [], laidByText := true, laidKinds := [.data, .handle, .pinned], laidTests := true, laidLooks := .later }
def AuthzLoginCardSaid : Prop := Claim7.holds Tryd.pinned (.plain (OpenSpec.ofChange authzLoginSpec)) authzLoginCard

/-- THE TIED CARD OF 'gangwaylaw16.AuthzDefault'. -/
def authzDefaultCard : Claim7 := { stood := { row := authzDefaultRow, standIns := [], harness := (true, "331aed12f48e2bd2d7cf905e27e5e17738ff641a0847dd180be67f7166aa6866"), looks := true }, kinds := [], alts := [], laidByText := true, laidKinds := [.data, .handle, .pinned], laidTests := true, laidLooks := .later }
def AuthzDefaultCardSaid : Prop := Claim7.holds Tryd.pinned (.plain (OpenSpec.ofChange authzDefaultSpec)) authzDefaultCard

/-- THE SECOND FORM's CARD OF 'gangwaylaw14.PrivOrders'. -/
def privOrdersUptoCard : Claim7 := { stood := { row := privOrdersUptoRow, standIns := [], harness := (true, "331aed12f48e2bd2d7cf905e27e5e17738ff641a0847dd180be67f7166aa6866"), looks := true }, kinds := [], alts := [], laidByText := true, laidKinds := [.data, .data], laidTests := true, laidLooks := .later }
def PrivOrdersUptoCardSaid : Prop := Claim7.holds Tryd.pinned (.plain (OpenSpec.upto privOrdersSpec)) privOrdersUptoCard

/-- THE SECOND FORM's CARD OF 'gangwaylaw14.PrivKeys'. -/
def privKeysUptoCard : Claim7 := { stood := { row := privKeysUptoRow, standIns := [], harness := (true, "331aed12f48e2bd2d7cf905e27e5e17738ff641a0847dd180be67f7166aa6866"), looks := true }, kinds := [], alts := [], laidByText := true, laidKinds := [.data, .data], laidTests := true, laidLooks := .later }
def PrivKeysUptoCardSaid : Prop := Claim7.holds Tryd.pinned (.plain (OpenSpec.upto privKeysSpec)) privKeysUptoCard

/-- THE SECOND FORM's CARD OF 'gangwaylaw14.PrivRoom'. -/
def privRoomUptoCard : Claim7 := { stood := { row := privRoomUptoRow, standIns := [], harness := (true, "331aed12f48e2bd2d7cf905e27e5e17738ff641a0847dd180be67f7166aa6866"), looks := true }, kinds := [], alts := [], laidByText := true, laidKinds := [.data, .data], laidTests := true, laidLooks := .later }
def PrivRoomUptoCardSaid : Prop := Claim7.holds Tryd.pinned (.plain (OpenSpec.upto privRoomSpec)) privRoomUptoCard

/-- THE SECOND FORM's CARD OF 'gangwaylaw14.PrivSafe'. -/
def privSafeUptoCard : Claim7 := { stood := { row := privSafeUptoRow, standIns := [], harness := (true, "331aed12f48e2bd2d7cf905e27e5e17738ff641a0847dd180be67f7166aa6866"), looks := true }, kinds := [], alts := [], laidByText := true, laidKinds := [.data, .data], laidTests := true, laidLooks := .later }
def PrivSafeUptoCardSaid : Prop := Claim7.holds Tryd.pinned (.plain (OpenSpec.upto privSafeSpec)) privSafeUptoCard

/-- THE SECOND FORM's CARD OF 'gangwaylaw16.AuthzParses'. -/
def authzParsesUptoCard : Claim7 := { stood := { row := authzParsesUptoRow, standIns := [], harness := (true, "331aed12f48e2bd2d7cf905e27e5e17738ff641a0847dd180be67f7166aa6866"), looks := true }, kinds := [], alts := [], laidByText := true, laidKinds := [.data, .handle, .pinned], laidTests := true, laidLooks := .later }
def AuthzParsesUptoCardSaid : Prop := Claim7.holds Tryd.pinned (.plain (OpenSpec.upto authzParsesSpec)) authzParsesUptoCard

/-- THE SECOND FORM's CARD OF 'gangwaylaw16.AuthzMaps'. -/
def authzMapsUptoCard : Claim7 := { stood := { row := authzMapsUptoRow, standIns := [], harness := (true, "331aed12f48e2bd2d7cf905e27e5e17738ff641a0847dd180be67f7166aa6866"), looks := true }, kinds := [], alts := [], laidByText := true, laidKinds := [.data, .handle, .pinned], laidTests := true, laidLooks := .later }
def AuthzMapsUptoCardSaid : Prop := Claim7.holds Tryd.pinned (.plain (OpenSpec.upto authzMapsSpec)) authzMapsUptoCard

/-- THE SECOND FORM's CARD OF 'gangwaylaw16.AuthzFirst'. -/
def authzFirstUptoCard : Claim7 := { stood := { row := authzFirstUptoRow, standIns := [], harness := (true, "331aed12f48e2bd2d7cf905e27e5e17738ff641a0847dd180be67f7166aa6866"), looks := true }, kinds := [], alts := [], laidByText := true, laidKinds := [.data, .handle, .pinned], laidTests := true, laidLooks := .later }
def AuthzFirstUptoCardSaid : Prop := Claim7.holds Tryd.pinned (.plain (OpenSpec.upto authzFirstSpec)) authzFirstUptoCard

/-- THE SECOND FORM's CARD OF 'gangwaylaw16.AuthzAllows'. -/
def authzAllowsUptoCard : Claim7 := { stood := { row := authzAllowsUptoRow, standIns := [], harness := (true, "331aed12f48e2bd2d7cf905e27e5e17738ff641a0847dd180be67f7166aa6866"), looks := true }, kinds := [], alts := [], laidByText := true, laidKinds := [.data, .handle, .pinned], laidTests := true, laidLooks := .later }
def AuthzAllowsUptoCardSaid : Prop := Claim7.holds Tryd.pinned (.plain (OpenSpec.upto authzAllowsSpec)) authzAllowsUptoCard

/-- THE SECOND FORM's CARD OF 'gangwaylaw16.AuthzLogin'. -/
def authzLoginUptoCard : Claim7 := { stood := { row := authzLoginUptoRow, standIns := [], harness := (true, "331aed12f48e2bd2d7cf905e27e5e17738ff641a0847dd180be67f7166aa6866"), looks := true }, kinds := [], alts := [], laidByText := true, laidKinds := [.data, .handle, .pinned], laidTests := true, laidLooks := .later }
def AuthzLoginUptoCardSaid : Prop := Claim7.holds Tryd.pinned (.plain (OpenSpec.upto authzLoginSpec)) authzLoginUptoCard

/-- THE SECOND FORM's CARD OF 'gangwaylaw16.AuthzDefault'. -/
def authzDefaultUptoCard : Claim7 := { stood := { row := authzDefaultUptoRow, standIns := [], harness := (true, "331aed12f48e2bd2d7cf905e27e5e17738ff641a0847dd180be67f7166aa6866"), looks := true }, kinds := [], alts := [], laidByText := true, laidKinds := [.data, .handle, .pinned], laidTests := true, laidLooks := .later }
def AuthzDefaultUptoCardSaid : Prop := Claim7.holds Tryd.pinned (.plain (OpenSpec.upto authzDefaultSpec)) authzDefaultUptoCard
end Rows
end Go.Proofs.YtlnkfdblkdhdgaaDoor
