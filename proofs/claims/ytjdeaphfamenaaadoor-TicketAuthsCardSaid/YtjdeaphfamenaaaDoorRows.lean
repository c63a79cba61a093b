/-
  NARROWER THAN 'FOR EVERY INPUT', by the rows' own cells (each row's printed sentence says how): NameLimits: laid · TicketValid: laid · TicketLasts: laid · NameTexts: laid · NameParses: laid · NameApart: laid · NameSame: laid · KrbNames: laid · KrbApart: laid · KrbBare: laid · TicketAuths: laid · KrbReads: laid · KrbCuts: laid · KrbWrites: laid.
  DERIVED. THE GIVEN ROWS OF THIS SEAT. 14 by the template 'for every input the law returns true; each argument reads behind the call as it read before'; 0 by the template 'total and deterministic' (their statements: YtjdeaphfamenaaaDoorTotals.lean).
  GIVEN WITH THE SEED: the statements are not yours to turn. If you find one false, say at which input.
  Laid BY PROGRAM, IN A SANDBOX (cutbox-rows.mjs): the forced cells as the released guide's own fill.sh prints them over the translation c383837a25c752f0… (all of the seat's roots in one cut). By AI agents, Wed Nov 11 2026. No macro, syntax, notation, axiom, sorry.
-/
import Derived.Test.YtjdeaphfamenaaaDoorChecked
import GoSem.PinnedTables
import GoSem.Claim
import GoSem.ClaimJoined
import GoSem.ClaimMapViews
import Derived.JoinedTies
import Derived.KernelRfl
namespace Go.Proofs.YtjdeaphfamenaaaDoor
/- THE CELL 'sum', in the pinned program and in every row, IS THE sha256 OF THE DUMP (.gsa) THAT YtjdeaphfamenaaaDoorProg.lean LOADS. Nothing in Lean hashes anything: it is a label: what it is worth is what the hold of that sum in a sandbox is worth. -/
noncomputable def Tryd.pinned : Pinned := { name := "ytjdeaphfamenaaadoor", sum := "c383837a25c752f0fb5cf7e72d5b18bd49de08b545d27fb3164657a1aabb3899", checked := Tryd.checked }
namespace Rows
def none {H : Type} : Left H := { results := [], args := [] }

/- WHAT THE LISTED PACKAGE-LEVEL VARIABLES READ AS WHEN THE CALL BEGINS. Each datum BY PROGRAM (the guide's laid-datum.mjs) off the statement by which the dump's own 'gosem.cut.vars' lays the variable. In a bare row this is a premise. The card (YtjdeaphfamenaaaDoorCards.lean) ties it to the program's text. -/
def laid_unicode_utf8_acceptRanges {H : Type} : DataW H := .agg [.agg [.lit (.int .u8 128), .lit (.int .u8 191)], .agg [.lit (.int .u8 160), .lit (.int .u8 191)], .agg [.lit (.int .u8 128), .lit (.int .u8 159)], .agg [.lit (.int .u8 144), .lit (.int .u8 191)], .agg [.lit (.int .u8 128), .lit (.int .u8 143)], .agg [.lit (.int .u8 0), .lit (.int .u8 0)], .agg [.lit (.int .u8 0), .lit (.int .u8 0)], .agg [.lit (.int .u8 0), .lit (.int .u8 0)], .agg [.lit (.int .u8 0), .lit (.int .u8 0)], .agg [.lit (.int .u8 0), .lit (.int .u8 0)], .agg [.lit (.int .u8 0), .lit (.int .u8 0)], .agg [.lit (.int .u8 0), .lit (.int .u8 0)], .agg [.lit (.int .u8 0), .lit (.int .u8 0)], .agg [.lit (.int .u8 0), .lit (.int .u8 0)], .agg [.lit (.int .u8 0), .lit (.int .u8 0)], .agg [.lit (.int .u8 0), .lit (.int .u8 0)]]
/-- One of Go's own tables, pinned by name: the form's constant. -/
def laid_unicode_utf8_first : DataW Unit := Go.Pinned.utf8First

/-- 'gangwaylaw02.NameLimits': WHATEVER THE INPUT: true; the input reads as it did. -/
def nameLimitsSpec : ChangeSpec := { name := "nameLimits", fn := fun _ => fun
  | [d1, d2] => { results := [.lit (.bool true)], args := [d1, d2] }
  | _ => none }
def nameLimitsRow : OpenClaim := { program := "ytjdeaphfamenaaadoor", sum := "c383837a25c752f0fb5cf7e72d5b18bd49de08b545d27fb3164657a1aabb3899", func := "gangway/gangwaylaw02.NameLimits", spec := "nameLimits", inPlace := ["internal/bytealg.IndexByteString", "internal/bytealg.IndexString", "internal/bytealg.CountString"], unfollowed := true, recurses := true, named := ["internal/bytealg.MaxLen", "unicode/utf8.first", "unicode/utf8.acceptRanges"], apart := false, laid := [("unicode/utf8.acceptRanges", laid_unicode_utf8_acceptRanges), ("unicode/utf8.first", laid_unicode_utf8_first)] }
def NameLimitsSaid : Prop := nameLimitsRow.holds Tryd.pinned (OpenSpec.ofChange nameLimitsSpec)

/-- ITS FALSE NEIGHBOUR: 'it returns false'. Refute it at one input. -/
def nameLimitsWrong : ChangeSpec := { name := "nameLimits", fn := fun _ => fun
  | [d1, d2] => { results := [.lit (.bool false)], args := [d1, d2] }
  | _ => none }
def NameLimitsWrongFalsely : Prop := nameLimitsRow.holds Tryd.pinned (OpenSpec.ofChange nameLimitsWrong)

/-- 'gangwaylaw07.TicketValid': WHATEVER THE INPUT: true; the input reads as it did. -/
def ticketValidSpec : ChangeSpec := { name := "ticketValid", fn := fun _ => fun
  | [d1, d2, d3] => { results := [.lit (.bool true)], args := [d1, d2, d3] }
  | _ => none }
def ticketValidRow : OpenClaim := { program := "ytjdeaphfamenaaadoor", sum := "c383837a25c752f0fb5cf7e72d5b18bd49de08b545d27fb3164657a1aabb3899", func := "gangway/gangwaylaw07.TicketValid", spec := "ticketValid", inPlace := ["internal/bytealg.IndexByteString", "internal/bytealg.IndexString", "internal/bytealg.CountString"], unfollowed := true, recurses := true, named := ["internal/bytealg.MaxLen", "unicode/utf8.first", "unicode/utf8.acceptRanges"], apart := false, laid := [("unicode/utf8.acceptRanges", laid_unicode_utf8_acceptRanges), ("unicode/utf8.first", laid_unicode_utf8_first)] }
def TicketValidSaid : Prop := ticketValidRow.holds Tryd.pinned (OpenSpec.ofChange ticketValidSpec)

/-- ITS FALSE NEIGHBOUR: 'it returns false'. Refute it at one input. -/
def ticketValidWrong : ChangeSpec := { name := "ticketValid", fn := fun _ => fun
  | [d1, d2, d3] => { results := [.lit (.bool false)], args := [d1, d2, d3] }
  | _ => none }
def TicketValidWrongFalsely : Prop := ticketValidRow.holds Tryd.pinned (OpenSpec.ofChange ticketValidWrong)

/-- 'gangwaylaw07.TicketLasts': WHATEVER THE INPUT: true; the input reads as it did. -/
def ticketLastsSpec : ChangeSpec := { name := "ticketLasts", fn := fun _ => fun
  | [d1, d2, d3] => { results := [.lit (.bool true)], args := [d1, d2, d3] }
  | _ => none }
def ticketLastsRow : OpenClaim := { program := "ytjdeaphfamenaaadoor", sum := "c383837a25c752f0fb5cf7e72d5b18bd49de08b545d27fb3164657a1aabb3899", func := "gangway/gangwaylaw07.TicketLasts", spec := "ticketLasts", inPlace := ["internal/bytealg.IndexByteString", "internal/bytealg.IndexString", "internal/bytealg.CountString"], unfollowed := true, recurses := true, named := ["internal/bytealg.MaxLen", "unicode/utf8.first", "unicode/utf8.acceptRanges"], apart := false, laid := [("unicode/utf8.acceptRanges", laid_unicode_utf8_acceptRanges), ("unicode/utf8.first", laid_unicode_utf8_first)] }
def TicketLastsSaid : Prop := ticketLastsRow.holds Tryd.pinned (OpenSpec.ofChange ticketLastsSpec)

/-- ITS FALSE NEIGHBOUR: 'it returns false'. Refute it at one input. -/
def ticketLastsWrong : ChangeSpec := { name := "ticketLasts", fn := fun _ => fun
  | [d1, d2, d3] => { results := [.lit (.bool false)], args := [d1, d2, d3] }
  | _ => none }
def TicketLastsWrongFalsely : Prop := ticketLastsRow.holds Tryd.pinned (OpenSpec.ofChange ticketLastsWrong)

/-- 'gangwaylaw02.NameTexts': WHATEVER THE INPUT: true; the input reads as it did. -/
def nameTextsSpec : ChangeSpec := { name := "nameTexts", fn := fun _ => fun
  | [d] => { results := [.lit (.bool true)], args := [d] }
  | _ => none }
def nameTextsRow : OpenClaim := { program := "ytjdeaphfamenaaadoor", sum := "c383837a25c752f0fb5cf7e72d5b18bd49de08b545d27fb3164657a1aabb3899", func := "gangway/gangwaylaw02.NameTexts", spec := "nameTexts", inPlace := ["internal/bytealg.IndexByteString", "internal/bytealg.IndexString", "internal/bytealg.CountString", "internal/abi.NoEscape", "internal/bytealg.MakeNoZero"], unfollowed := true, recurses := true, named := ["internal/bytealg.MaxLen", "unicode/utf8.first", "unicode/utf8.acceptRanges"], apart := false, laid := [("unicode/utf8.acceptRanges", laid_unicode_utf8_acceptRanges), ("unicode/utf8.first", laid_unicode_utf8_first)] }
def NameTextsSaid : Prop := nameTextsRow.holds Tryd.pinned (OpenSpec.ofChange nameTextsSpec)

/-- ITS FALSE NEIGHBOUR: 'it returns false'. Refute it at one input. -/
def nameTextsWrong : ChangeSpec := { name := "nameTexts", fn := fun _ => fun
  | [d] => { results := [.lit (.bool false)], args := [d] }
  | _ => none }
def NameTextsWrongFalsely : Prop := nameTextsRow.holds Tryd.pinned (OpenSpec.ofChange nameTextsWrong)

/-- 'gangwaylaw02.NameParses': WHATEVER THE INPUT: true; the input reads as it did. -/
def nameParsesSpec : ChangeSpec := { name := "nameParses", fn := fun _ => fun
  | [d] => { results := [.lit (.bool true)], args := [d] }
  | _ => none }
def nameParsesRow : OpenClaim := { program := "ytjdeaphfamenaaadoor", sum := "c383837a25c752f0fb5cf7e72d5b18bd49de08b545d27fb3164657a1aabb3899", func := "gangway/gangwaylaw02.NameParses", spec := "nameParses", inPlace := ["internal/bytealg.IndexByteString", "internal/bytealg.IndexString", "internal/bytealg.CountString", "internal/abi.NoEscape", "internal/bytealg.MakeNoZero"], unfollowed := true, recurses := true, named := ["internal/bytealg.MaxLen", "unicode/utf8.first", "unicode/utf8.acceptRanges"], apart := false, laid := [("unicode/utf8.acceptRanges", laid_unicode_utf8_acceptRanges), ("unicode/utf8.first", laid_unicode_utf8_first)] }
def NameParsesSaid : Prop := nameParsesRow.holds Tryd.pinned (OpenSpec.ofChange nameParsesSpec)

/-- ITS FALSE NEIGHBOUR: 'it returns false'. Refute it at one input. -/
def nameParsesWrong : ChangeSpec := { name := "nameParses", fn := fun _ => fun
  | [d] => { results := [.lit (.bool false)], args := [d] }
  | _ => none }
def NameParsesWrongFalsely : Prop := nameParsesRow.holds Tryd.pinned (OpenSpec.ofChange nameParsesWrong)

/-- 'gangwaylaw02.NameApart': WHATEVER THE INPUT: true; the input reads as it did. -/
def nameApartSpec : ChangeSpec := { name := "nameApart", fn := fun _ => fun
  | [d] => { results := [.lit (.bool true)], args := [d] }
  | _ => none }
def nameApartRow : OpenClaim := { program := "ytjdeaphfamenaaadoor", sum := "c383837a25c752f0fb5cf7e72d5b18bd49de08b545d27fb3164657a1aabb3899", func := "gangway/gangwaylaw02.NameApart", spec := "nameApart", inPlace := ["internal/bytealg.IndexByteString", "internal/bytealg.IndexString", "internal/bytealg.CountString", "internal/abi.NoEscape", "internal/bytealg.MakeNoZero"], unfollowed := true, recurses := true, named := ["internal/bytealg.MaxLen", "unicode/utf8.first", "unicode/utf8.acceptRanges"], apart := false, laid := [("unicode/utf8.acceptRanges", laid_unicode_utf8_acceptRanges), ("unicode/utf8.first", laid_unicode_utf8_first)] }
def NameApartSaid : Prop := nameApartRow.holds Tryd.pinned (OpenSpec.ofChange nameApartSpec)

/-- ITS FALSE NEIGHBOUR: 'it returns false'. Refute it at one input. -/
def nameApartWrong : ChangeSpec := { name := "nameApart", fn := fun _ => fun
  | [d] => { results := [.lit (.bool false)], args := [d] }
  | _ => none }
def NameApartWrongFalsely : Prop := nameApartRow.holds Tryd.pinned (OpenSpec.ofChange nameApartWrong)

/-- 'gangwaylaw02.NameSame': WHATEVER THE INPUT: true; the input reads as it did. -/
def nameSameSpec : ChangeSpec := { name := "nameSame", fn := fun _ => fun
  | [d1, d2] => { results := [.lit (.bool true)], args := [d1, d2] }
  | _ => none }
def nameSameRow : OpenClaim := { program := "ytjdeaphfamenaaadoor", sum := "c383837a25c752f0fb5cf7e72d5b18bd49de08b545d27fb3164657a1aabb3899", func := "gangway/gangwaylaw02.NameSame", spec := "nameSame", inPlace := ["internal/bytealg.IndexByteString", "internal/bytealg.IndexString", "internal/bytealg.CountString", "internal/abi.NoEscape", "internal/bytealg.MakeNoZero"], unfollowed := true, recurses := true, named := ["internal/bytealg.MaxLen", "unicode/utf8.first", "unicode/utf8.acceptRanges"], apart := false, laid := [("unicode/utf8.acceptRanges", laid_unicode_utf8_acceptRanges), ("unicode/utf8.first", laid_unicode_utf8_first)] }
def NameSameSaid : Prop := nameSameRow.holds Tryd.pinned (OpenSpec.ofChange nameSameSpec)

/-- ITS FALSE NEIGHBOUR: 'it returns false'. Refute it at one input. -/
def nameSameWrong : ChangeSpec := { name := "nameSame", fn := fun _ => fun
  | [d1, d2] => { results := [.lit (.bool false)], args := [d1, d2] }
  | _ => none }
def NameSameWrongFalsely : Prop := nameSameRow.holds Tryd.pinned (OpenSpec.ofChange nameSameWrong)

/-- 'gangwaylaw08.KrbNames': WHATEVER THE INPUT: true; the input reads as it did. -/
def krbNamesSpec : ChangeSpec := { name := "krbNames", fn := fun _ => fun
  | [] => { results := [.lit (.bool true)], args := [] }
  | _ => none }
def krbNamesRow : OpenClaim := { program := "ytjdeaphfamenaaadoor", sum := "c383837a25c752f0fb5cf7e72d5b18bd49de08b545d27fb3164657a1aabb3899", func := "gangway/gangwaylaw08.KrbNames", spec := "krbNames", inPlace := ["internal/bytealg.IndexByteString", "internal/bytealg.IndexString", "internal/bytealg.CountString"], unfollowed := true, recurses := true, named := ["internal/bytealg.MaxLen", "unicode/utf8.first", "unicode/utf8.acceptRanges"], apart := false, laid := [("unicode/utf8.acceptRanges", laid_unicode_utf8_acceptRanges), ("unicode/utf8.first", laid_unicode_utf8_first)] }
def KrbNamesSaid : Prop := krbNamesRow.holds Tryd.pinned (OpenSpec.ofChange krbNamesSpec)

/-- ITS FALSE NEIGHBOUR: 'it returns false'. Refute it at one input. -/
def krbNamesWrong : ChangeSpec := { name := "krbNames", fn := fun _ => fun
  | [] => { results := [.lit (.bool false)], args := [] }
  | _ => none }
def KrbNamesWrongFalsely : Prop := krbNamesRow.holds Tryd.pinned (OpenSpec.ofChange krbNamesWrong)

/-- 'gangwaylaw08.KrbApart': WHATEVER THE INPUT: true; the input reads as it did. -/
def krbApartSpec : ChangeSpec := { name := "krbApart", fn := fun _ => fun
  | [d1, d2] => { results := [.lit (.bool true)], args := [d1, d2] }
  | _ => none }
def krbApartRow : OpenClaim := { program := "ytjdeaphfamenaaadoor", sum := "c383837a25c752f0fb5cf7e72d5b18bd49de08b545d27fb3164657a1aabb3899", func := "gangway/gangwaylaw08.KrbApart", spec := "krbApart", inPlace := ["internal/bytealg.IndexByteString", "internal/bytealg.IndexString", "internal/bytealg.CountString"], unfollowed := true, recurses := true, named := ["internal/bytealg.MaxLen", "unicode/utf8.first", "unicode/utf8.acceptRanges"], apart := false, laid := [("unicode/utf8.acceptRanges", laid_unicode_utf8_acceptRanges), ("unicode/utf8.first", laid_unicode_utf8_first)] }
def KrbApartSaid : Prop := krbApartRow.holds Tryd.pinned (OpenSpec.ofChange krbApartSpec)

/-- ITS FALSE NEIGHBOUR: 'it returns false'. Refute it at one input. -/
def krbApartWrong : ChangeSpec := { name := "krbApart", fn := fun _ => fun
  | [d1, d2] => { results := [.lit (.bool false)], args := [d1, d2] }
  | _ => none }
def KrbApartWrongFalsely : Prop := krbApartRow.holds Tryd.pinned (OpenSpec.ofChange krbApartWrong)

/-- 'gangwaylaw08.KrbBare': WHATEVER THE INPUT: true; the input reads as it did. -/
def krbBareSpec : ChangeSpec := { name := "krbBare", fn := fun _ => fun
  | [d1, d2] => { results := [.lit (.bool true)], args := [d1, d2] }
  | _ => none }
def krbBareRow : OpenClaim := { program := "ytjdeaphfamenaaadoor", sum := "c383837a25c752f0fb5cf7e72d5b18bd49de08b545d27fb3164657a1aabb3899", func := "gangway/gangwaylaw08.KrbBare", spec := "krbBare", inPlace := ["internal/bytealg.IndexByteString", "internal/bytealg.IndexString", "internal/bytealg.CountString"], unfollowed := true, recurses := true, named := ["internal/bytealg.MaxLen", "unicode/utf8.first", "unicode/utf8.acceptRanges"], apart := false, laid := [("unicode/utf8.acceptRanges", laid_unicode_utf8_acceptRanges), ("unicode/utf8.first", laid_unicode_utf8_first)] }
def KrbBareSaid : Prop := krbBareRow.holds Tryd.pinned (OpenSpec.ofChange krbBareSpec)

/-- ITS FALSE NEIGHBOUR: 'it returns false'. Refute it at one input. -/
def krbBareWrong : ChangeSpec := { name := "krbBare", fn := fun _ => fun
  | [d1, d2] => { results := [.lit (.bool false)], args := [d1, d2] }
  | _ => none }
def KrbBareWrongFalsely : Prop := krbBareRow.holds Tryd.pinned (OpenSpec.ofChange krbBareWrong)

/-- 'gangwaylaw07.TicketAuths': WHATEVER THE INPUT: true; the input reads as it did. -/
def ticketAuthsSpec : ChangeSpec := { name := "ticketAuths", fn := fun _ => fun
  | [d1, d2] => { results := [.lit (.bool true)], args := [d1, d2] }
  | _ => none }
def ticketAuthsRow : OpenClaim := { program := "ytjdeaphfamenaaadoor", sum := "c383837a25c752f0fb5cf7e72d5b18bd49de08b545d27fb3164657a1aabb3899", func := "gangway/gangwaylaw07.TicketAuths", spec := "ticketAuths", inPlace := ["internal/bytealg.IndexByteString", "internal/bytealg.IndexString", "internal/bytealg.CountString"], unfollowed := true, recurses := true, named := ["internal/bytealg.MaxLen", "unicode/utf8.first", "unicode/utf8.acceptRanges"], apart := false, laid := [("unicode/utf8.acceptRanges", laid_unicode_utf8_acceptRanges), ("unicode/utf8.first", laid_unicode_utf8_first)] }
def TicketAuthsSaid : Prop := ticketAuthsRow.holds Tryd.pinned (OpenSpec.ofChange ticketAuthsSpec)

/-- ITS FALSE NEIGHBOUR: 'it returns false'. Refute it at one input. -/
def ticketAuthsWrong : ChangeSpec := { name := "ticketAuths", fn := fun _ => fun
  | [d1, d2] => { results := [.lit (.bool false)], args := [d1, d2] }
  | _ => none }
def TicketAuthsWrongFalsely : Prop := ticketAuthsRow.holds Tryd.pinned (OpenSpec.ofChange ticketAuthsWrong)

/-- 'gangwaylaw08.KrbReads': WHATEVER THE INPUT: true; the input reads as it did. -/
def krbReadsSpec : ChangeSpec := { name := "krbReads", fn := fun _ => fun
  | [d] => { results := [.lit (.bool true)], args := [d] }
  | _ => none }
def krbReadsRow : OpenClaim := { program := "ytjdeaphfamenaaadoor", sum := "c383837a25c752f0fb5cf7e72d5b18bd49de08b545d27fb3164657a1aabb3899", func := "gangway/gangwaylaw08.KrbReads", spec := "krbReads", inPlace := ["internal/bytealg.IndexByteString", "internal/bytealg.IndexString", "internal/bytealg.CountString"], unfollowed := true, recurses := true, named := ["internal/bytealg.MaxLen", "unicode/utf8.first", "unicode/utf8.acceptRanges"], apart := false, laid := [("unicode/utf8.acceptRanges", laid_unicode_utf8_acceptRanges), ("unicode/utf8.first", laid_unicode_utf8_first)] }
def KrbReadsSaid : Prop := krbReadsRow.holds Tryd.pinned (OpenSpec.ofChange krbReadsSpec)

/-- ITS FALSE NEIGHBOUR: 'it returns false'. Refute it at one input. -/
def krbReadsWrong : ChangeSpec := { name := "krbReads", fn := fun _ => fun
  | [d] => { results := [.lit (.bool false)], args := [d] }
  | _ => none }
def KrbReadsWrongFalsely : Prop := krbReadsRow.holds Tryd.pinned (OpenSpec.ofChange krbReadsWrong)

/-- 'gangwaylaw08.KrbCuts': WHATEVER THE INPUT: true; the input reads as it did. -/
def krbCutsSpec : ChangeSpec := { name := "krbCuts", fn := fun _ => fun
  | [d1, d2, d3] => { results := [.lit (.bool true)], args := [d1, d2, d3] }
  | _ => none }
def krbCutsRow : OpenClaim := { program := "ytjdeaphfamenaaadoor", sum := "c383837a25c752f0fb5cf7e72d5b18bd49de08b545d27fb3164657a1aabb3899", func := "gangway/gangwaylaw08.KrbCuts", spec := "krbCuts", inPlace := ["internal/bytealg.IndexByteString", "internal/bytealg.IndexString", "internal/bytealg.CountString"], unfollowed := true, recurses := true, named := ["internal/bytealg.MaxLen", "unicode/utf8.first", "unicode/utf8.acceptRanges"], apart := false, laid := [("unicode/utf8.acceptRanges", laid_unicode_utf8_acceptRanges), ("unicode/utf8.first", laid_unicode_utf8_first)] }
def KrbCutsSaid : Prop := krbCutsRow.holds Tryd.pinned (OpenSpec.ofChange krbCutsSpec)

/-- ITS FALSE NEIGHBOUR: 'it returns false'. Refute it at one input. -/
def krbCutsWrong : ChangeSpec := { name := "krbCuts", fn := fun _ => fun
  | [d1, d2, d3] => { results := [.lit (.bool false)], args := [d1, d2, d3] }
  | _ => none }
def KrbCutsWrongFalsely : Prop := krbCutsRow.holds Tryd.pinned (OpenSpec.ofChange krbCutsWrong)

/-- 'gangwaylaw08.KrbWrites': WHATEVER THE INPUT: true; the input reads as it did. -/
def krbWritesSpec : ChangeSpec := { name := "krbWrites", fn := fun _ => fun
  | [d] => { results := [.lit (.bool true)], args := [d] }
  | _ => none }
def krbWritesRow : OpenClaim := { program := "ytjdeaphfamenaaadoor", sum := "c383837a25c752f0fb5cf7e72d5b18bd49de08b545d27fb3164657a1aabb3899", func := "gangway/gangwaylaw08.KrbWrites", spec := "krbWrites", inPlace := ["internal/bytealg.IndexByteString", "internal/bytealg.IndexString", "internal/bytealg.CountString"], unfollowed := true, recurses := true, named := ["internal/bytealg.MaxLen", "unicode/utf8.first", "unicode/utf8.acceptRanges"], apart := false, laid := [("unicode/utf8.acceptRanges", laid_unicode_utf8_acceptRanges), ("unicode/utf8.first", laid_unicode_utf8_first)] }
def KrbWritesSaid : Prop := krbWritesRow.holds Tryd.pinned (OpenSpec.ofChange krbWritesSpec)

/-- ITS FALSE NEIGHBOUR: 'it returns false'. Refute it at one input. -/
def krbWritesWrong : ChangeSpec := { name := "krbWrites", fn := fun _ => fun
  | [d] => { results := [.lit (.bool false)], args := [d] }
  | _ => none }
def KrbWritesWrongFalsely : Prop := krbWritesRow.holds Tryd.pinned (OpenSpec.ofChange krbWritesWrong)

/- THE SECOND FORM. 'bulk': how many values and letters a reading holds, each counted each time it is reached (what is shared counts as often as it is met; a slice's spare places count too). A statement '..UptoSaid' is the law's where the arguments, and the package variables that the reading takes, are together of bulk at most 1048576: NARROWER than '..Said'. Prove '..Said' where nothing that the law and all that it calls make is longer than what came in: it says more and counts as full. Else prove '..UptoSaid'. A law counts once. -/
mutual
def uptoBulk {H : Type} : DataW H → Nat
  | .lit (.string bytes) => bytes.length + 1
  | .lit _ => 1
  | .nil => 1
  | .ptr d => uptoBulk d + 1
  | .slice elems spare => uptoBulkAll elems + uptoBulkAll spare + 1
  | .agg parts => uptoBulkAll parts + 1
  | .iface _ d => uptoBulk d + 1
  | .map entries => uptoBulkEntries entries + 1
  | .held _ => 1
def uptoBulkAll {H : Type} : List (DataW H) → Nat
  | [] => 0
  | d :: r => uptoBulk d + uptoBulkAll r
def uptoBulkEntries {H : Type} : List (Lit × DataW H) → Nat
  | [] => 0
  | x :: r => uptoBulkEntry x + uptoBulkEntries r
def uptoBulkEntry {H : Type} : Lit × DataW H → Nat
  | (.string bytes, d) => bytes.length + uptoBulk d + 1
  | (_, d) => uptoBulk d + 1
 end
def uptoSmall : (H : Type) → List (DataW H) → Bool := fun _ ds => decide (uptoBulkAll ds ≤ 1048576)
def OpenSpec.upto (s : _root_.Go.ChangeSpec) : _root_.Go.OpenSpec := { _root_.Go.OpenSpec.ofChange s with cond := some uptoSmall }

/-- 'gangwaylaw02.NameLimits', WHERE WHAT IT READS IS OF BULK AT MOST 1048576: true; the input reads as it did. -/
def nameLimitsUptoRow : OpenClaim := { program := "ytjdeaphfamenaaadoor", sum := "c383837a25c752f0fb5cf7e72d5b18bd49de08b545d27fb3164657a1aabb3899", func := "gangway/gangwaylaw02.NameLimits", spec := "nameLimits", inPlace := ["internal/bytealg.IndexByteString", "internal/bytealg.IndexString", "internal/bytealg.CountString"], unfollowed := true, recurses := true, named := ["internal/bytealg.MaxLen", "unicode/utf8.first", "unicode/utf8.acceptRanges"], apart := false, laid := [("unicode/utf8.acceptRanges", laid_unicode_utf8_acceptRanges), ("unicode/utf8.first", laid_unicode_utf8_first)], narrowed := true }
def NameLimitsUptoSaid : Prop := nameLimitsUptoRow.holds Tryd.pinned (OpenSpec.upto nameLimitsSpec)

/-- 'gangwaylaw07.TicketValid', WHERE WHAT IT READS IS OF BULK AT MOST 1048576: true; the input reads as it did. -/
def ticketValidUptoRow : OpenClaim := { program := "ytjdeaphfamenaaadoor", sum := "c383837a25c752f0fb5cf7e72d5b18bd49de08b545d27fb3164657a1aabb3899", func := "gangway/gangwaylaw07.TicketValid", spec := "ticketValid", inPlace := ["internal/bytealg.IndexByteString", "internal/bytealg.IndexString", "internal/bytealg.CountString"], unfollowed := true, recurses := true, named := ["internal/bytealg.MaxLen", "unicode/utf8.first", "unicode/utf8.acceptRanges"], apart := false, laid := [("unicode/utf8.acceptRanges", laid_unicode_utf8_acceptRanges), ("unicode/utf8.first", laid_unicode_utf8_first)], narrowed := true }
def TicketValidUptoSaid : Prop := ticketValidUptoRow.holds Tryd.pinned (OpenSpec.upto ticketValidSpec)

/-- 'gangwaylaw07.TicketLasts', WHERE WHAT IT READS IS OF BULK AT MOST 1048576: true; the input reads as it did. -/
def ticketLastsUptoRow : OpenClaim := { program := "ytjdeaphfamenaaadoor", sum := "c383837a25c752f0fb5cf7e72d5b18bd49de08b545d27fb3164657a1aabb3899", func := "gangway/gangwaylaw07.TicketLasts", spec := "ticketLasts", inPlace := ["internal/bytealg.IndexByteString", "internal/bytealg.IndexString", "internal/bytealg.CountString"], unfollowed := true, recurses := true, named := ["internal/bytealg.MaxLen", "unicode/utf8.first", "unicode/utf8.acceptRanges"], apart := false, laid := [("unicode/utf8.acceptRanges", laid_unicode_utf8_acceptRanges), ("unicode/utf8.first", laid_unicode_utf8_first)], narrowed := true }
def TicketLastsUptoSaid : Prop := ticketLastsUptoRow.holds Tryd.pinned (OpenSpec.upto ticketLastsSpec)

/-- 'gangwaylaw02.NameTexts', WHERE WHAT IT READS IS OF BULK AT MOST 1048576: true; the input reads as it did. -/
def nameTextsUptoRow : OpenClaim := { program := "ytjdeaphfamenaaadoor", sum := "c383837a25c752f0fb5cf7e72d5b18bd49de08b545d27fb3164657a1aabb3899", func := "gangway/gangwaylaw02.NameTexts", spec := "nameTexts", inPlace := ["internal/bytealg.IndexByteString", "internal/bytealg.IndexString", "internal/bytealg.CountString", "internal/abi.NoEscape", "internal/bytealg.MakeNoZero"], unfollowed := true, recurses := true, named := ["internal/bytealg.MaxLen", "unicode/utf8.first", "unicode/utf8.acceptRanges"], apart := false, laid := [("unicode/utf8.acceptRanges", laid_unicode_utf8_acceptRanges), ("unicode/utf8.first", laid_unicode_utf8_first)], narrowed := true }
def NameTextsUptoSaid : Prop := nameTextsUptoRow.holds Tryd.pinned (OpenSpec.upto nameTextsSpec)

/-- 'gangwaylaw02.NameParses', WHERE WHAT IT READS IS OF BULK AT MOST 1048576: true; the input reads as it did. -/
def nameParsesUptoRow : OpenClaim := { program := "ytjdeaphfamenaaadoor", sum := "c383837a25c752f0fb5cf7e72d5b18bd49de08b545d27fb3164657a1aabb3899", func := "gangway/gangwaylaw02.NameParses", spec := "nameParses", inPlace := ["internal/bytealg.IndexByteString", "internal/bytealg.IndexString", "internal/bytealg.CountString", "internal/abi.NoEscape", "internal/bytealg.MakeNoZero"], unfollowed := true, recurses := true, named := ["internal/bytealg.MaxLen", "unicode/utf8.first", "unicode/utf8.acceptRanges"], apart := false, laid := [("unicode/utf8.acceptRanges", laid_unicode_utf8_acceptRanges), ("unicode/utf8.first", laid_unicode_utf8_first)], narrowed := true }
def NameParsesUptoSaid : Prop := nameParsesUptoRow.holds Tryd.pinned (OpenSpec.upto nameParsesSpec)

/-- 'gangwaylaw02.NameApart', WHERE WHAT IT READS IS OF BULK AT MOST 1048576: true; the input reads as it did. -/
def nameApartUptoRow : OpenClaim := { program := "ytjdeaphfamenaaadoor", sum := "c383837a25c752f0fb5cf7e72d5b18bd49de08b545d27fb3164657a1aabb3899", func := "gangway/gangwaylaw02.NameApart", spec := "nameApart", inPlace := ["internal/bytealg.IndexByteString", "internal/bytealg.IndexString", "internal/bytealg.CountString", "internal/abi.NoEscape", "internal/bytealg.MakeNoZero"], unfollowed := true, recurses := true, named := ["internal/bytealg.MaxLen", "unicode/utf8.first", "unicode/utf8.acceptRanges"], apart := false, laid := [("unicode/utf8.acceptRanges", laid_unicode_utf8_acceptRanges), ("unicode/utf8.first", laid_unicode_utf8_first)], narrowed := true }
def NameApartUptoSaid : Prop := nameApartUptoRow.holds Tryd.pinned (OpenSpec.upto nameApartSpec)

/-- 'gangwaylaw02.NameSame', WHERE WHAT IT READS IS OF BULK AT MOST 1048576: true; the input reads as it did. -/
def nameSameUptoRow : OpenClaim := { program := "ytjdeaphfamenaaadoor", sum := "c383837a25c752f0fb5cf7e72d5b18bd49de08b545d27fb3164657a1aabb3899", func := "gangway/gangwaylaw02.NameSame", spec := "nameSame", inPlace := ["internal/bytealg.IndexByteString", "internal/bytealg.IndexString", "internal/bytealg.CountString", "internal/abi.NoEscape", "internal/bytealg.MakeNoZero"], unfollowed := true, recurses := true, named := ["internal/bytealg.MaxLen", "unicode/utf8.first", "unicode/utf8.acceptRanges"], apart := false, laid := [("unicode/utf8.acceptRanges", laid_unicode_utf8_acceptRanges), ("unicode/utf8.first", laid_unicode_utf8_first)], narrowed := true }
def NameSameUptoSaid : Prop := nameSameUptoRow.holds Tryd.pinned (OpenSpec.upto nameSameSpec)

/-- 'gangwaylaw08.KrbNames', WHERE WHAT IT READS IS OF BULK AT MOST 1048576: true; the input reads as it did. -/
def krbNamesUptoRow : OpenClaim := { program := "ytjdeaphfamenaaadoor", sum := "c383837a25c752f0fb5cf7e72d5b18bd49de08b545d27fb3164657a1aabb3899", func := "gangway/gangwaylaw08.KrbNames", spec := "krbNames", inPlace := ["internal/bytealg.IndexByteString", "internal/bytealg.IndexString", "internal/bytealg.CountString"], unfollowed := true, recurses := true, named := ["internal/bytealg.MaxLen", "unicode/utf8.first", "unicode/utf8.acceptRanges"], apart := false, laid := [("unicode/utf8.acceptRanges", laid_unicode_utf8_acceptRanges), ("unicode/utf8.first", laid_unicode_utf8_first)], narrowed := true }
def KrbNamesUptoSaid : Prop := krbNamesUptoRow.holds Tryd.pinned (OpenSpec.upto krbNamesSpec)

/-- 'gangwaylaw08.KrbApart', WHERE WHAT IT READS IS OF BULK AT MOST 1048576: true; the input reads as it did. -/
def krbApartUptoRow : OpenClaim := { program := "ytjdeaphfamenaaadoor", sum := "c383837a25c752f0fb5cf7e72d5b18bd49de08b545d27fb3164657a1aabb3899", func := "gangway/gangwaylaw08.KrbApart", spec := "krbApart", inPlace := ["internal/bytealg.IndexByteString", "internal/bytealg.IndexString", "internal/bytealg.CountString"], unfollowed := true, recurses := true, named := ["internal/bytealg.MaxLen", "unicode/utf8.first", "unicode/utf8.acceptRanges"], apart := false, laid := [("unicode/utf8.acceptRanges", laid_unicode_utf8_acceptRanges), ("unicode/utf8.first", laid_unicode_utf8_first)], narrowed := true }
def KrbApartUptoSaid : Prop := krbApartUptoRow.holds Tryd.pinned (OpenSpec.upto krbApartSpec)

/-- 'gangwaylaw08.KrbBare', WHERE WHAT IT READS IS OF BULK AT MOST 1048576: true; the input reads as it did. -/
def krbBareUptoRow : OpenClaim := { program := "ytjdeaphfamenaaadoor", sum := "c383837a25c752f0fb5cf7e72d5b18bd49de08b545d27fb3164657a1aabb3899", func := "gangway/gangwaylaw08.KrbBare", spec := "krbBare", inPlace := ["internal/bytealg.IndexByteString", "internal/bytealg.IndexString", "internal/bytealg.CountString"], unfollowed := true, recurses := true, named := ["internal/bytealg.MaxLen", "unicode/utf8.first", "unicode/utf8.acceptRanges"], apart := false, laid := [("unicode/utf8.acceptRanges", laid_unicode_utf8_acceptRanges), ("unicode/utf8.first", laid_unicode_utf8_first)], narrowed := true }
def KrbBareUptoSaid : Prop := krbBareUptoRow.holds Tryd.pinned (OpenSpec.upto krbBareSpec)

/-- 'gangwaylaw07.TicketAuths', WHERE WHAT IT READS IS OF BULK AT MOST 1048576: true; the input reads as it did. -/
def ticketAuthsUptoRow : OpenClaim := { program := "ytjdeaphfamenaaadoor", sum := "c383837a25c752f0fb5cf7e72d5b18bd49de08b545d27fb3164657a1aabb3899", func := "gangway/gangwaylaw07.TicketAuths", spec := "ticketAuths", inPlace := ["internal/bytealg.IndexByteString", "internal/bytealg.IndexString", "internal/bytealg.CountString"], unfollowed := true, recurses := true, named := ["internal/bytealg.MaxLen", "unicode/utf8.first", "unicode/utf8.acceptRanges"], apart := false, laid := [("unicode/utf8.acceptRanges", laid_unicode_utf8_acceptRanges), ("unicode/utf8.first", laid_unicode_utf8_first)], narrowed := true }
def TicketAuthsUptoSaid : Prop := ticketAuthsUptoRow.holds Tryd.pinned (OpenSpec.upto ticketAuthsSpec)

/-- 'gangwaylaw08.KrbReads', WHERE WHAT IT READS IS OF BULK AT MOST 1048576: true; the input reads as it did. -/
def krbReadsUptoRow : OpenClaim := { program := "ytjdeaphfamenaaadoor", sum := "c383837a25c752f0fb5cf7e72d5b18bd49de08b545d27fb3164657a1aabb3899", func := "gangway/gangwaylaw08.KrbReads", spec := "krbReads", inPlace := ["internal/bytealg.IndexByteString", "internal/bytealg.IndexString", "internal/bytealg.CountString"], unfollowed := true, recurses := true, named := ["internal/bytealg.MaxLen", "unicode/utf8.first", "unicode/utf8.acceptRanges"], apart := false, laid := [("unicode/utf8.acceptRanges", laid_unicode_utf8_acceptRanges), ("unicode/utf8.first", laid_unicode_utf8_first)], narrowed := true }
def KrbReadsUptoSaid : Prop := krbReadsUptoRow.holds Tryd.pinned (OpenSpec.upto krbReadsSpec)

/-- 'gangwaylaw08.KrbCuts', WHERE WHAT IT READS IS OF BULK AT MOST 1048576: true; the input reads as it did. -/
def krbCutsUptoRow : OpenClaim := { program := "ytjdeaphfamenaaadoor", sum := "c383837a25c752f0fb5cf7e72d5b18bd49de08b545d27fb3164657a1aabb3899", func := "gangway/gangwaylaw08.KrbCuts", spec := "krbCuts", inPlace := ["internal/bytealg.IndexByteString", "internal/bytealg.IndexString", "internal/bytealg.CountString"], unfollowed := true, recurses := true, named := ["internal/bytealg.MaxLen", "unicode/utf8.first", "unicode/utf8.acceptRanges"], apart := false, laid := [("unicode/utf8.acceptRanges", laid_unicode_utf8_acceptRanges), ("unicode/utf8.first", laid_unicode_utf8_first)], narrowed := true }
def KrbCutsUptoSaid : Prop := krbCutsUptoRow.holds Tryd.pinned (OpenSpec.upto krbCutsSpec)

/-- 'gangwaylaw08.KrbWrites', WHERE WHAT IT READS IS OF BULK AT MOST 1048576: true; the input reads as it did. -/
def krbWritesUptoRow : OpenClaim := { program := "ytjdeaphfamenaaadoor", sum := "c383837a25c752f0fb5cf7e72d5b18bd49de08b545d27fb3164657a1aabb3899", func := "gangway/gangwaylaw08.KrbWrites", spec := "krbWrites", inPlace := ["internal/bytealg.IndexByteString", "internal/bytealg.IndexString", "internal/bytealg.CountString"], unfollowed := true, recurses := true, named := ["internal/bytealg.MaxLen", "unicode/utf8.first", "unicode/utf8.acceptRanges"], apart := false, laid := [("unicode/utf8.acceptRanges", laid_unicode_utf8_acceptRanges), ("unicode/utf8.first", laid_unicode_utf8_first)], narrowed := true }
def KrbWritesUptoSaid : Prop := krbWritesUptoRow.holds Tryd.pinned (OpenSpec.upto krbWritesSpec)

end Rows
end Go.Proofs.YtjdeaphfamenaaaDoor
