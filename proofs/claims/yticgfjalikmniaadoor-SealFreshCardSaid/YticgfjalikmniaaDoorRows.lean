/-
  NARROWER THAN 'FOR EVERY INPUT', by the rows' own cells (each row's printed sentence says how): ShaSums: laid · ShaPieces: laid · ShaApart: laid · ShaNothing: laid · MacSums: laid · MacNoughts: laid · MacEqual: laid · MacLabels: laid · MacDerives: laid · SealBack: laid · SealNobody: laid · SealNumbers: laid · SealTurned: laid · SealFresh: laid.
  DERIVED. THE GIVEN ROWS OF THIS SEAT. 14 by the template 'for every input the law returns true; each argument reads behind the call as it read before'; 0 by the template 'total and deterministic' (their statements: YticgfjalikmniaaDoorTotals.lean).
  GIVEN WITH THE SEED: the statements are not yours to turn. If you find one false, say at which input.
  Laid BY PROGRAM, IN A SANDBOX (cutbox-rows.mjs): the forced cells as the released guide's own fill.sh prints them over the translation 14734e98194751c4… (all of the seat's roots in one cut). By AI agents, Wed Nov 11 2026. No macro, syntax, notation, axiom, sorry.
-/
import Derived.Test.YticgfjalikmniaaDoorChecked
import GoSem.Claim
import GoSem.ClaimJoined
import GoSem.ClaimMapViews
import Derived.JoinedTies
import Derived.KernelRfl
namespace Go.Proofs.YticgfjalikmniaaDoor
/- THE CELL 'sum', in the pinned program and in every row, IS THE sha256 OF THE DUMP (.gsa) THAT YticgfjalikmniaaDoorProg.lean LOADS. Nothing in Lean hashes anything: it is a label: what it is worth is what the hold of that sum in a sandbox is worth. -/
noncomputable def Tryd.pinned : Pinned := { name := "yticgfjalikmniaadoor", sum := "14734e98194751c48e4006be11a268795f0b477bebdcbccc2950834ce0c7e721", checked := Tryd.checked }
namespace Rows
def none {H : Type} : Left H := { results := [], args := [] }

/- WHAT THE LISTED PACKAGE-LEVEL VARIABLES READ AS WHEN THE CALL BEGINS. Each datum BY PROGRAM (the guide's laid-datum.mjs) off the statement by which the dump's own 'gosem.cut.vars' lays the variable. In a bare row this is a premise. The card (YticgfjalikmniaaDoorCards.lean) ties it to the program's text. -/
def laid_gangway_sha_rounds {H : Type} : DataW H := .agg [.lit (.int .u32 1116352408), .lit (.int .u32 1899447441), .lit (.int .u32 3049323471), .lit (.int .u32 3921009573), .lit (.int .u32 961987163), .lit (.int .u32 1508970993), .lit (.int .u32 2453635748), .lit (.int .u32 2870763221), .lit (.int .u32 3624381080), .lit (.int .u32 310598401), .lit (.int .u32 607225278), .lit (.int .u32 1426881987), .lit (.int .u32 1925078388), .lit (.int .u32 2162078206), .lit (.int .u32 2614888103), .lit (.int .u32 3248222580), .lit (.int .u32 3835390401), .lit (.int .u32 4022224774), .lit (.int .u32 264347078), .lit (.int .u32 604807628), .lit (.int .u32 770255983), .lit (.int .u32 1249150122), .lit (.int .u32 1555081692), .lit (.int .u32 1996064986), .lit (.int .u32 2554220882), .lit (.int .u32 2821834349), .lit (.int .u32 2952996808), .lit (.int .u32 3210313671), .lit (.int .u32 3336571891), .lit (.int .u32 3584528711), .lit (.int .u32 113926993), .lit (.int .u32 338241895), .lit (.int .u32 666307205), .lit (.int .u32 773529912), .lit (.int .u32 1294757372), .lit (.int .u32 1396182291), .lit (.int .u32 1695183700), .lit (.int .u32 1986661051), .lit (.int .u32 2177026350), .lit (.int .u32 2456956037), .lit (.int .u32 2730485921), .lit (.int .u32 2820302411), .lit (.int .u32 3259730800), .lit (.int .u32 3345764771), .lit (.int .u32 3516065817), .lit (.int .u32 3600352804), .lit (.int .u32 4094571909), .lit (.int .u32 275423344), .lit (.int .u32 430227734), .lit (.int .u32 506948616), .lit (.int .u32 659060556), .lit (.int .u32 883997877), .lit (.int .u32 958139571), .lit (.int .u32 1322822218), .lit (.int .u32 1537002063), .lit (.int .u32 1747873779), .lit (.int .u32 1955562222), .lit (.int .u32 2024104815), .lit (.int .u32 2227730452), .lit (.int .u32 2361852424), .lit (.int .u32 2428436474), .lit (.int .u32 2756734187), .lit (.int .u32 3204031479), .lit (.int .u32 3329325298)]
def laid_gangway_sha_start {H : Type} : DataW H := .agg [.lit (.int .u32 1779033703), .lit (.int .u32 3144134277), .lit (.int .u32 1013904242), .lit (.int .u32 2773480762), .lit (.int .u32 1359893119), .lit (.int .u32 2600822924), .lit (.int .u32 528734635), .lit (.int .u32 1541459225)]

/-- 'gangwaylaw03.ShaSums': WHATEVER THE INPUT: true; the input reads as it did. -/
def shaSumsSpec : ChangeSpec := { name := "shaSums", fn := fun _ => fun
  | [d] => { results := [.lit (.bool true)], args := [d] }
  | _ => none }
def shaSumsRow : OpenClaim := { program := "yticgfjalikmniaadoor", sum := "14734e98194751c48e4006be11a268795f0b477bebdcbccc2950834ce0c7e721", func := "gangway/gangwaylaw03.ShaSums", spec := "shaSums", named := ["gangway/sha.start", "gangway/sha.rounds"], plainKeys := false, apart := false, laid := [("gangway/sha.rounds", laid_gangway_sha_rounds), ("gangway/sha.start", laid_gangway_sha_start)] }
def ShaSumsSaid : Prop := shaSumsRow.holds Tryd.pinned (OpenSpec.ofChange shaSumsSpec)

/-- ITS FALSE NEIGHBOUR: 'it returns false'. Refute it at one input. -/
def shaSumsWrong : ChangeSpec := { name := "shaSums", fn := fun _ => fun
  | [d] => { results := [.lit (.bool false)], args := [d] }
  | _ => none }
def ShaSumsWrongFalsely : Prop := shaSumsRow.holds Tryd.pinned (OpenSpec.ofChange shaSumsWrong)

/-- 'gangwaylaw03.ShaPieces': WHATEVER THE INPUT: true; the input reads as it did. -/
def shaPiecesSpec : ChangeSpec := { name := "shaPieces", fn := fun _ => fun
  | [d] => { results := [.lit (.bool true)], args := [d] }
  | _ => none }
def shaPiecesRow : OpenClaim := { program := "yticgfjalikmniaadoor", sum := "14734e98194751c48e4006be11a268795f0b477bebdcbccc2950834ce0c7e721", func := "gangway/gangwaylaw03.ShaPieces", spec := "shaPieces", named := ["gangway/sha.start", "gangway/sha.rounds"], plainKeys := false, apart := false, laid := [("gangway/sha.rounds", laid_gangway_sha_rounds), ("gangway/sha.start", laid_gangway_sha_start)] }
def ShaPiecesSaid : Prop := shaPiecesRow.holds Tryd.pinned (OpenSpec.ofChange shaPiecesSpec)

/-- ITS FALSE NEIGHBOUR: 'it returns false'. Refute it at one input. -/
def shaPiecesWrong : ChangeSpec := { name := "shaPieces", fn := fun _ => fun
  | [d] => { results := [.lit (.bool false)], args := [d] }
  | _ => none }
def ShaPiecesWrongFalsely : Prop := shaPiecesRow.holds Tryd.pinned (OpenSpec.ofChange shaPiecesWrong)

/-- 'gangwaylaw03.ShaApart': WHATEVER THE INPUT: true; the input reads as it did. -/
def shaApartSpec : ChangeSpec := { name := "shaApart", fn := fun _ => fun
  | [d1, d2] => { results := [.lit (.bool true)], args := [d1, d2] }
  | _ => none }
def shaApartRow : OpenClaim := { program := "yticgfjalikmniaadoor", sum := "14734e98194751c48e4006be11a268795f0b477bebdcbccc2950834ce0c7e721", func := "gangway/gangwaylaw03.ShaApart", spec := "shaApart", named := ["gangway/sha.start", "gangway/sha.rounds"], plainKeys := false, apart := false, laid := [("gangway/sha.rounds", laid_gangway_sha_rounds), ("gangway/sha.start", laid_gangway_sha_start)] }
def ShaApartSaid : Prop := shaApartRow.holds Tryd.pinned (OpenSpec.ofChange shaApartSpec)

/-- ITS FALSE NEIGHBOUR: 'it returns false'. Refute it at one input. -/
def shaApartWrong : ChangeSpec := { name := "shaApart", fn := fun _ => fun
  | [d1, d2] => { results := [.lit (.bool false)], args := [d1, d2] }
  | _ => none }
def ShaApartWrongFalsely : Prop := shaApartRow.holds Tryd.pinned (OpenSpec.ofChange shaApartWrong)

/-- 'gangwaylaw03.ShaNothing': WHATEVER THE INPUT: true; the input reads as it did. -/
def shaNothingSpec : ChangeSpec := { name := "shaNothing", fn := fun _ => fun
  | [d1, d2] => { results := [.lit (.bool true)], args := [d1, d2] }
  | _ => none }
def shaNothingRow : OpenClaim := { program := "yticgfjalikmniaadoor", sum := "14734e98194751c48e4006be11a268795f0b477bebdcbccc2950834ce0c7e721", func := "gangway/gangwaylaw03.ShaNothing", spec := "shaNothing", named := ["gangway/sha.start", "gangway/sha.rounds"], plainKeys := false, apart := false, laid := [("gangway/sha.rounds", laid_gangway_sha_rounds), ("gangway/sha.start", laid_gangway_sha_start)] }
def ShaNothingSaid : Prop := shaNothingRow.holds Tryd.pinned (OpenSpec.ofChange shaNothingSpec)

/-- ITS FALSE NEIGHBOUR: 'it returns false'. Refute it at one input. -/
def shaNothingWrong : ChangeSpec := { name := "shaNothing", fn := fun _ => fun
  | [d1, d2] => { results := [.lit (.bool false)], args := [d1, d2] }
  | _ => none }
def ShaNothingWrongFalsely : Prop := shaNothingRow.holds Tryd.pinned (OpenSpec.ofChange shaNothingWrong)

/-- 'gangwaylaw04.MacSums': WHATEVER THE INPUT: true; the input reads as it did. -/
def macSumsSpec : ChangeSpec := { name := "macSums", fn := fun _ => fun
  | [d1, d2] => { results := [.lit (.bool true)], args := [d1, d2] }
  | _ => none }
def macSumsRow : OpenClaim := { program := "yticgfjalikmniaadoor", sum := "14734e98194751c48e4006be11a268795f0b477bebdcbccc2950834ce0c7e721", func := "gangway/gangwaylaw04.MacSums", spec := "macSums", unfollowed := true, recurses := true, named := ["gangway/sha.start", "gangway/sha.rounds"], plainKeys := false, apart := false, laid := [("gangway/sha.rounds", laid_gangway_sha_rounds), ("gangway/sha.start", laid_gangway_sha_start)] }
def MacSumsSaid : Prop := macSumsRow.holds Tryd.pinned (OpenSpec.ofChange macSumsSpec)

/-- ITS FALSE NEIGHBOUR: 'it returns false'. Refute it at one input. -/
def macSumsWrong : ChangeSpec := { name := "macSums", fn := fun _ => fun
  | [d1, d2] => { results := [.lit (.bool false)], args := [d1, d2] }
  | _ => none }
def MacSumsWrongFalsely : Prop := macSumsRow.holds Tryd.pinned (OpenSpec.ofChange macSumsWrong)

/-- 'gangwaylaw04.MacNoughts': WHATEVER THE INPUT: true; the input reads as it did. -/
def macNoughtsSpec : ChangeSpec := { name := "macNoughts", fn := fun _ => fun
  | [d1, d2, d3] => { results := [.lit (.bool true)], args := [d1, d2, d3] }
  | _ => none }
def macNoughtsRow : OpenClaim := { program := "yticgfjalikmniaadoor", sum := "14734e98194751c48e4006be11a268795f0b477bebdcbccc2950834ce0c7e721", func := "gangway/gangwaylaw04.MacNoughts", spec := "macNoughts", unfollowed := true, recurses := true, named := ["gangway/sha.start", "gangway/sha.rounds"], plainKeys := false, apart := false, laid := [("gangway/sha.rounds", laid_gangway_sha_rounds), ("gangway/sha.start", laid_gangway_sha_start)] }
def MacNoughtsSaid : Prop := macNoughtsRow.holds Tryd.pinned (OpenSpec.ofChange macNoughtsSpec)

/-- ITS FALSE NEIGHBOUR: 'it returns false'. Refute it at one input. -/
def macNoughtsWrong : ChangeSpec := { name := "macNoughts", fn := fun _ => fun
  | [d1, d2, d3] => { results := [.lit (.bool false)], args := [d1, d2, d3] }
  | _ => none }
def MacNoughtsWrongFalsely : Prop := macNoughtsRow.holds Tryd.pinned (OpenSpec.ofChange macNoughtsWrong)

/-- 'gangwaylaw04.MacEqual': WHATEVER THE INPUT: true; the input reads as it did. -/
def macEqualSpec : ChangeSpec := { name := "macEqual", fn := fun _ => fun
  | [d1, d2] => { results := [.lit (.bool true)], args := [d1, d2] }
  | _ => none }
def macEqualRow : OpenClaim := { program := "yticgfjalikmniaadoor", sum := "14734e98194751c48e4006be11a268795f0b477bebdcbccc2950834ce0c7e721", func := "gangway/gangwaylaw04.MacEqual", spec := "macEqual", unfollowed := true, recurses := true, named := ["gangway/sha.start", "gangway/sha.rounds"], plainKeys := false, apart := false, laid := [("gangway/sha.rounds", laid_gangway_sha_rounds), ("gangway/sha.start", laid_gangway_sha_start)] }
def MacEqualSaid : Prop := macEqualRow.holds Tryd.pinned (OpenSpec.ofChange macEqualSpec)

/-- ITS FALSE NEIGHBOUR: 'it returns false'. Refute it at one input. -/
def macEqualWrong : ChangeSpec := { name := "macEqual", fn := fun _ => fun
  | [d1, d2] => { results := [.lit (.bool false)], args := [d1, d2] }
  | _ => none }
def MacEqualWrongFalsely : Prop := macEqualRow.holds Tryd.pinned (OpenSpec.ofChange macEqualWrong)

/-- 'gangwaylaw04.MacLabels': WHATEVER THE INPUT: true; the input reads as it did. -/
def macLabelsSpec : ChangeSpec := { name := "macLabels", fn := fun _ => fun
  | [d1, d2, d3] => { results := [.lit (.bool true)], args := [d1, d2, d3] }
  | _ => none }
def macLabelsRow : OpenClaim := { program := "yticgfjalikmniaadoor", sum := "14734e98194751c48e4006be11a268795f0b477bebdcbccc2950834ce0c7e721", func := "gangway/gangwaylaw04.MacLabels", spec := "macLabels", unfollowed := true, recurses := true, named := ["gangway/sha.start", "gangway/sha.rounds"], plainKeys := false, apart := false, laid := [("gangway/sha.rounds", laid_gangway_sha_rounds), ("gangway/sha.start", laid_gangway_sha_start)] }
def MacLabelsSaid : Prop := macLabelsRow.holds Tryd.pinned (OpenSpec.ofChange macLabelsSpec)

/-- ITS FALSE NEIGHBOUR: 'it returns false'. Refute it at one input. -/
def macLabelsWrong : ChangeSpec := { name := "macLabels", fn := fun _ => fun
  | [d1, d2, d3] => { results := [.lit (.bool false)], args := [d1, d2, d3] }
  | _ => none }
def MacLabelsWrongFalsely : Prop := macLabelsRow.holds Tryd.pinned (OpenSpec.ofChange macLabelsWrong)

/-- 'gangwaylaw04.MacDerives': WHATEVER THE INPUT: true; the input reads as it did. -/
def macDerivesSpec : ChangeSpec := { name := "macDerives", fn := fun _ => fun
  | [d1, d2, d3] => { results := [.lit (.bool true)], args := [d1, d2, d3] }
  | _ => none }
def macDerivesRow : OpenClaim := { program := "yticgfjalikmniaadoor", sum := "14734e98194751c48e4006be11a268795f0b477bebdcbccc2950834ce0c7e721", func := "gangway/gangwaylaw04.MacDerives", spec := "macDerives", unfollowed := true, recurses := true, named := ["gangway/sha.start", "gangway/sha.rounds"], plainKeys := false, apart := false, laid := [("gangway/sha.rounds", laid_gangway_sha_rounds), ("gangway/sha.start", laid_gangway_sha_start)] }
def MacDerivesSaid : Prop := macDerivesRow.holds Tryd.pinned (OpenSpec.ofChange macDerivesSpec)

/-- ITS FALSE NEIGHBOUR: 'it returns false'. Refute it at one input. -/
def macDerivesWrong : ChangeSpec := { name := "macDerives", fn := fun _ => fun
  | [d1, d2, d3] => { results := [.lit (.bool false)], args := [d1, d2, d3] }
  | _ => none }
def MacDerivesWrongFalsely : Prop := macDerivesRow.holds Tryd.pinned (OpenSpec.ofChange macDerivesWrong)

/-- 'gangwaylaw06.SealBack': WHATEVER THE INPUT: true; the input reads as it did. -/
def sealBackSpec : ChangeSpec := { name := "sealBack", fn := fun _ => fun
  | [d1, d2, d3] => { results := [.lit (.bool true)], args := [d1, d2, d3] }
  | _ => none }
def sealBackRow : OpenClaim := { program := "yticgfjalikmniaadoor", sum := "14734e98194751c48e4006be11a268795f0b477bebdcbccc2950834ce0c7e721", func := "gangway/gangwaylaw06.SealBack", spec := "sealBack", unfollowed := true, recurses := true, named := ["gangway/sha.start", "gangway/sha.rounds"], plainKeys := false, apart := false, laid := [("gangway/sha.rounds", laid_gangway_sha_rounds), ("gangway/sha.start", laid_gangway_sha_start)] }
def SealBackSaid : Prop := sealBackRow.holds Tryd.pinned (OpenSpec.ofChange sealBackSpec)

/-- ITS FALSE NEIGHBOUR: 'it returns false'. Refute it at one input. -/
def sealBackWrong : ChangeSpec := { name := "sealBack", fn := fun _ => fun
  | [d1, d2, d3] => { results := [.lit (.bool false)], args := [d1, d2, d3] }
  | _ => none }
def SealBackWrongFalsely : Prop := sealBackRow.holds Tryd.pinned (OpenSpec.ofChange sealBackWrong)

/-- 'gangwaylaw06.SealNobody': WHATEVER THE INPUT: true; the input reads as it did. -/
def sealNobodySpec : ChangeSpec := { name := "sealNobody", fn := fun _ => fun
  | [d1, d2, d3] => { results := [.lit (.bool true)], args := [d1, d2, d3] }
  | _ => none }
def sealNobodyRow : OpenClaim := { program := "yticgfjalikmniaadoor", sum := "14734e98194751c48e4006be11a268795f0b477bebdcbccc2950834ce0c7e721", func := "gangway/gangwaylaw06.SealNobody", spec := "sealNobody", unfollowed := true, recurses := true, named := ["gangway/sha.start", "gangway/sha.rounds"], plainKeys := false, apart := false, laid := [("gangway/sha.rounds", laid_gangway_sha_rounds), ("gangway/sha.start", laid_gangway_sha_start)] }
def SealNobodySaid : Prop := sealNobodyRow.holds Tryd.pinned (OpenSpec.ofChange sealNobodySpec)

/-- ITS FALSE NEIGHBOUR: 'it returns false'. Refute it at one input. -/
def sealNobodyWrong : ChangeSpec := { name := "sealNobody", fn := fun _ => fun
  | [d1, d2, d3] => { results := [.lit (.bool false)], args := [d1, d2, d3] }
  | _ => none }
def SealNobodyWrongFalsely : Prop := sealNobodyRow.holds Tryd.pinned (OpenSpec.ofChange sealNobodyWrong)

/-- 'gangwaylaw06.SealNumbers': WHATEVER THE INPUT: true; the input reads as it did. -/
def sealNumbersSpec : ChangeSpec := { name := "sealNumbers", fn := fun _ => fun
  | [d1, d2, d3] => { results := [.lit (.bool true)], args := [d1, d2, d3] }
  | _ => none }
def sealNumbersRow : OpenClaim := { program := "yticgfjalikmniaadoor", sum := "14734e98194751c48e4006be11a268795f0b477bebdcbccc2950834ce0c7e721", func := "gangway/gangwaylaw06.SealNumbers", spec := "sealNumbers", unfollowed := true, recurses := true, named := ["gangway/sha.start", "gangway/sha.rounds"], plainKeys := false, apart := false, laid := [("gangway/sha.rounds", laid_gangway_sha_rounds), ("gangway/sha.start", laid_gangway_sha_start)] }
def SealNumbersSaid : Prop := sealNumbersRow.holds Tryd.pinned (OpenSpec.ofChange sealNumbersSpec)

/-- ITS FALSE NEIGHBOUR: 'it returns false'. Refute it at one input. -/
def sealNumbersWrong : ChangeSpec := { name := "sealNumbers", fn := fun _ => fun
  | [d1, d2, d3] => { results := [.lit (.bool false)], args := [d1, d2, d3] }
  | _ => none }
def SealNumbersWrongFalsely : Prop := sealNumbersRow.holds Tryd.pinned (OpenSpec.ofChange sealNumbersWrong)

/-- 'gangwaylaw06.SealTurned': WHATEVER THE INPUT: true; the input reads as it did. -/
def sealTurnedSpec : ChangeSpec := { name := "sealTurned", fn := fun _ => fun
  | [d1, d2, d3] => { results := [.lit (.bool true)], args := [d1, d2, d3] }
  | _ => none }
def sealTurnedRow : OpenClaim := { program := "yticgfjalikmniaadoor", sum := "14734e98194751c48e4006be11a268795f0b477bebdcbccc2950834ce0c7e721", func := "gangway/gangwaylaw06.SealTurned", spec := "sealTurned", unfollowed := true, recurses := true, named := ["gangway/sha.start", "gangway/sha.rounds"], plainKeys := false, apart := false, laid := [("gangway/sha.rounds", laid_gangway_sha_rounds), ("gangway/sha.start", laid_gangway_sha_start)] }
def SealTurnedSaid : Prop := sealTurnedRow.holds Tryd.pinned (OpenSpec.ofChange sealTurnedSpec)

/-- ITS FALSE NEIGHBOUR: 'it returns false'. Refute it at one input. -/
def sealTurnedWrong : ChangeSpec := { name := "sealTurned", fn := fun _ => fun
  | [d1, d2, d3] => { results := [.lit (.bool false)], args := [d1, d2, d3] }
  | _ => none }
def SealTurnedWrongFalsely : Prop := sealTurnedRow.holds Tryd.pinned (OpenSpec.ofChange sealTurnedWrong)

/-- 'gangwaylaw06.SealFresh': WHATEVER THE INPUT: true; the input reads as it did. -/
def sealFreshSpec : ChangeSpec := { name := "sealFresh", fn := fun _ => fun
  | [d1, d2] => { results := [.lit (.bool true)], args := [d1, d2] }
  | _ => none }
def sealFreshRow : OpenClaim := { program := "yticgfjalikmniaadoor", sum := "14734e98194751c48e4006be11a268795f0b477bebdcbccc2950834ce0c7e721", func := "gangway/gangwaylaw06.SealFresh", spec := "sealFresh", unfollowed := true, recurses := true, named := ["gangway/sha.start", "gangway/sha.rounds"], plainKeys := false, apart := false, laid := [("gangway/sha.rounds", laid_gangway_sha_rounds), ("gangway/sha.start", laid_gangway_sha_start)] }
def SealFreshSaid : Prop := sealFreshRow.holds Tryd.pinned (OpenSpec.ofChange sealFreshSpec)

/-- ITS FALSE NEIGHBOUR: 'it returns false'. Refute it at one input. -/
def sealFreshWrong : ChangeSpec := { name := "sealFresh", fn := fun _ => fun
  | [d1, d2] => { results := [.lit (.bool false)], args := [d1, d2] }
  | _ => none }
def SealFreshWrongFalsely : Prop := sealFreshRow.holds Tryd.pinned (OpenSpec.ofChange sealFreshWrong)

/- THE SECOND FORM. 'bulk': how many values and letters a reading holds, each counted each time it is reached (what is shared counts as often as it is met; a slice's spare places count too). A statement '..UptoSaid' is the law's where the arguments, and the package variables that the reading takes, are together of bulk at most 1048576: NARROWER than '..Said'. Prove '..Said' where nothing that the law and all that it calls make is longer than what came in: it says more and counts as full. Else prove '..UptoSaid'. A law counts once. -/
mutual
def uptoBulk {H : Type} : DataW H → Nat
  | .lit (.string bytes) => bytes.length + 1
  | .lit _ => 1
  | .nil => 1
  | .ptr d => uptoBulk d + 1
  | .slice elems spare => uptoBulkAll elems + uptoBulkAll spare + 1
  | .agg parts => uptoBulkAll parts + 1
  | .iface _ d => uptoBulk d + 1
  | .map entries => uptoBulkEntries entries + 1
  | .held _ => 1
def uptoBulkAll {H : Type} : List (DataW H) → Nat
  | [] => 0
  | d :: r => uptoBulk d + uptoBulkAll r
def uptoBulkEntries {H : Type} : List (Lit × DataW H) → Nat
  | [] => 0
  | x :: r => uptoBulkEntry x + uptoBulkEntries r
def uptoBulkEntry {H : Type} : Lit × DataW H → Nat
  | (.string bytes, d) => bytes.length + uptoBulk d + 1
  | (_, d) => uptoBulk d + 1
 end
def uptoSmall : (H : Type) → List (DataW H) → Bool := fun _ ds => decide (uptoBulkAll ds ≤ 1048576)
def OpenSpec.upto (s : _root_.Go.ChangeSpec) : _root_.Go.OpenSpec := { _root_.Go.OpenSpec.ofChange s with cond := some uptoSmall }

/-- 'gangwaylaw03.ShaSums', WHERE WHAT IT READS IS OF BULK AT MOST 1048576: true; the input reads as it did. -/
def shaSumsUptoRow : OpenClaim := { program := "yticgfjalikmniaadoor", sum := "14734e98194751c48e4006be11a268795f0b477bebdcbccc2950834ce0c7e721", func := "gangway/gangwaylaw03.ShaSums", spec := "shaSums", named := ["gangway/sha.start", "gangway/sha.rounds"], plainKeys := false, apart := false, laid := [("gangway/sha.rounds", laid_gangway_sha_rounds), ("gangway/sha.start", laid_gangway_sha_start)], narrowed := true }
def ShaSumsUptoSaid : Prop := shaSumsUptoRow.holds Tryd.pinned (OpenSpec.upto shaSumsSpec)

/-- 'gangwaylaw03.ShaPieces', WHERE WHAT IT READS IS OF BULK AT MOST 1048576: true; the input reads as it did. -/
def shaPiecesUptoRow : OpenClaim := { program := "yticgfjalikmniaadoor", sum := "14734e98194751c48e4006be11a268795f0b477bebdcbccc2950834ce0c7e721", func := "gangway/gangwaylaw03.ShaPieces", spec := "shaPieces", named := ["gangway/sha.start", "gangway/sha.rounds"], plainKeys := false, apart := false, laid := [("gangway/sha.rounds", laid_gangway_sha_rounds), ("gangway/sha.start", laid_gangway_sha_start)], narrowed := true }
def ShaPiecesUptoSaid : Prop := shaPiecesUptoRow.holds Tryd.pinned (OpenSpec.upto shaPiecesSpec)

/-- 'gangwaylaw03.ShaApart', WHERE WHAT IT READS IS OF BULK AT MOST 1048576: true; the input reads as it did. -/
def shaApartUptoRow : OpenClaim := { program := "yticgfjalikmniaadoor", sum := "14734e98194751c48e4006be11a268795f0b477bebdcbccc2950834ce0c7e721", func := "gangway/gangwaylaw03.ShaApart", spec := "shaApart", named := ["gangway/sha.start", "gangway/sha.rounds"], plainKeys := false, apart := false, laid := [("gangway/sha.rounds", laid_gangway_sha_rounds), ("gangway/sha.start", laid_gangway_sha_start)], narrowed := true }
def ShaApartUptoSaid : Prop := shaApartUptoRow.holds Tryd.pinned (OpenSpec.upto shaApartSpec)

/-- 'gangwaylaw03.ShaNothing', WHERE WHAT IT READS IS OF BULK AT MOST 1048576: true; the input reads as it did. -/
def shaNothingUptoRow : OpenClaim := { program := "yticgfjalikmniaadoor", sum := "14734e98194751c48e4006be11a268795f0b477bebdcbccc2950834ce0c7e721", func := "gangway/gangwaylaw03.ShaNothing", spec := "shaNothing", named := ["gangway/sha.start", "gangway/sha.rounds"], plainKeys := false, apart := false, laid := [("gangway/sha.rounds", laid_gangway_sha_rounds), ("gangway/sha.start", laid_gangway_sha_start)], narrowed := true }
def ShaNothingUptoSaid : Prop := shaNothingUptoRow.holds Tryd.pinned (OpenSpec.upto shaNothingSpec)

/-- 'gangwaylaw04.MacSums', WHERE WHAT IT READS IS OF BULK AT MOST 1048576: true; the input reads as it did. -/
def macSumsUptoRow : OpenClaim := { program := "yticgfjalikmniaadoor", sum := "14734e98194751c48e4006be11a268795f0b477bebdcbccc2950834ce0c7e721", func := "gangway/gangwaylaw04.MacSums", spec := "macSums", unfollowed := true, recurses := true, named := ["gangway/sha.start", "gangway/sha.rounds"], plainKeys := false, apart := false, laid := [("gangway/sha.rounds", laid_gangway_sha_rounds), ("gangway/sha.start", laid_gangway_sha_start)], narrowed := true }
def MacSumsUptoSaid : Prop := macSumsUptoRow.holds Tryd.pinned (OpenSpec.upto macSumsSpec)

/-- 'gangwaylaw04.MacNoughts', WHERE WHAT IT READS IS OF BULK AT MOST 1048576: true; the input reads as it did. -/
def macNoughtsUptoRow : OpenClaim := { program := "yticgfjalikmniaadoor", sum := "14734e98194751c48e4006be11a268795f0b477bebdcbccc2950834ce0c7e721", func := "gangway/gangwaylaw04.MacNoughts", spec := "macNoughts", unfollowed := true, recurses := true, named := ["gangway/sha.start", "gangway/sha.rounds"], plainKeys := false, apart := false, laid := [("gangway/sha.rounds", laid_gangway_sha_rounds), ("gangway/sha.start", laid_gangway_sha_start)], narrowed := true }
def MacNoughtsUptoSaid : Prop := macNoughtsUptoRow.holds Tryd.pinned (OpenSpec.upto macNoughtsSpec)

/-- 'gangwaylaw04.MacEqual', WHERE WHAT IT READS IS OF BULK AT MOST 1048576: true; the input reads as it did. -/
def macEqualUptoRow : OpenClaim := { program := "yticgfjalikmniaadoor", sum := "14734e98194751c48e4006be11a268795f0b477bebdcbccc2950834ce0c7e721", func := "gangway/gangwaylaw04.MacEqual", spec := "macEqual", unfollowed := true, recurses := true, named := ["gangway/sha.start", "gangway/sha.rounds"], plainKeys := false, apart := false, laid := [("gangway/sha.rounds", laid_gangway_sha_rounds), ("gangway/sha.start", laid_gangway_sha_start)], narrowed := true }
def MacEqualUptoSaid : Prop := macEqualUptoRow.holds Tryd.pinned (OpenSpec.upto macEqualSpec)

/-- 'gangwaylaw04.MacLabels', WHERE WHAT IT READS IS OF BULK AT MOST 1048576: true; the input reads as it did. -/
def macLabelsUptoRow : OpenClaim := { program := "yticgfjalikmniaadoor", sum := "14734e98194751c48e4006be11a268795f0b477bebdcbccc2950834ce0c7e721", func := "gangway/gangwaylaw04.MacLabels", spec := "macLabels", unfollowed := true, recurses := true, named := ["gangway/sha.start", "gangway/sha.rounds"], plainKeys := false, apart := false, laid := [("gangway/sha.rounds", laid_gangway_sha_rounds), ("gangway/sha.start", laid_gangway_sha_start)], narrowed := true }
def MacLabelsUptoSaid : Prop := macLabelsUptoRow.holds Tryd.pinned (OpenSpec.upto macLabelsSpec)

/-- 'gangwaylaw04.MacDerives', WHERE WHAT IT READS IS OF BULK AT MOST 1048576: true; the input reads as it did. -/
def macDerivesUptoRow : OpenClaim := { program := "yticgfjalikmniaadoor", sum := "14734e98194751c48e4006be11a268795f0b477bebdcbccc2950834ce0c7e721", func := "gangway/gangwaylaw04.MacDerives", spec := "macDerives", unfollowed := true, recurses := true, named := ["gangway/sha.start", "gangway/sha.rounds"], plainKeys := false, apart := false, laid := [("gangway/sha.rounds", laid_gangway_sha_rounds), ("gangway/sha.start", laid_gangway_sha_start)], narrowed := true }
def MacDerivesUptoSaid : Prop := macDerivesUptoRow.holds Tryd.pinned (OpenSpec.upto macDerivesSpec)

/-- 'gangwaylaw06.SealBack', WHERE WHAT IT READS IS OF BULK AT MOST 1048576: true; the input reads as it did. -/
def sealBackUptoRow : OpenClaim := { program := "yticgfjalikmniaadoor", sum := "14734e98194751c48e4006be11a268795f0b477bebdcbccc2950834ce0c7e721", func := "gangway/gangwaylaw06.SealBack", spec := "sealBack", unfollowed := true, recurses := true, named := ["gangway/sha.start", "gangway/sha.rounds"], plainKeys := false, apart := false, laid := [("gangway/sha.rounds", laid_gangway_sha_rounds), ("gangway/sha.start", laid_gangway_sha_start)], narrowed := true }
def SealBackUptoSaid : Prop := sealBackUptoRow.holds Tryd.pinned (OpenSpec.upto sealBackSpec)

/-- 'gangwaylaw06.SealNobody', WHERE WHAT IT READS IS OF BULK AT MOST 1048576: true; the input reads as it did. -/
def sealNobodyUptoRow : OpenClaim := { program := "yticgfjalikmniaadoor", sum := "14734e98194751c48e4006be11a268795f0b477bebdcbccc2950834ce0c7e721", func := "gangway/gangwaylaw06.SealNobody", spec := "sealNobody", unfollowed := true, recurses := true, named := ["gangway/sha.start", "gangway/sha.rounds"], plainKeys := false, apart := false, laid := [("gangway/sha.rounds", laid_gangway_sha_rounds), ("gangway/sha.start", laid_gangway_sha_start)], narrowed := true }
def SealNobodyUptoSaid : Prop := sealNobodyUptoRow.holds Tryd.pinned (OpenSpec.upto sealNobodySpec)

/-- 'gangwaylaw06.SealNumbers', WHERE WHAT IT READS IS OF BULK AT MOST 1048576: true; the input reads as it did. -/
def sealNumbersUptoRow : OpenClaim := { program := "yticgfjalikmniaadoor", sum := "14734e98194751c48e4006be11a268795f0b477bebdcbccc2950834ce0c7e721", func := "gangway/gangwaylaw06.SealNumbers", spec := "sealNumbers", unfollowed := true, recurses := true, named := ["gangway/sha.start", "gangway/sha.rounds"], plainKeys := false, apart := false, laid := [("gangway/sha.rounds", laid_gangway_sha_rounds), ("gangway/sha.start", laid_gangway_sha_start)], narrowed := true }
def SealNumbersUptoSaid : Prop := sealNumbersUptoRow.holds Tryd.pinned (OpenSpec.upto sealNumbersSpec)

/-- 'gangwaylaw06.SealTurned', WHERE WHAT IT READS IS OF BULK AT MOST 1048576: true; the input reads as it did. -/
def sealTurnedUptoRow : OpenClaim := { program := "yticgfjalikmniaadoor", sum := "14734e98194751c48e4006be11a268795f0b477bebdcbccc2950834ce0c7e721", func := "gangway/gangwaylaw06.SealTurned", spec := "sealTurned", unfollowed := true, recurses := true, named := ["gangway/sha.start", "gangway/sha.rounds"], plainKeys := false, apart := false, laid := [("gangway/sha.rounds", laid_gangway_sha_rounds), ("gangway/sha.start", laid_gangway_sha_start)], narrowed := true }
def SealTurnedUptoSaid : Prop := sealTurnedUptoRow.holds Tryd.pinned (OpenSpec.upto sealTurnedSpec)

/-- 'gangwaylaw06.SealFresh', WHERE WHAT IT READS IS OF BULK AT MOST 1048576: true; the input reads as it did. -/
def sealFreshUptoRow : OpenClaim := { program := "yticgfjalikmniaadoor", sum := "14734e98194751c48e4006be11a268795f0b477bebdcbccc2950834ce0c7e721", func := "gangway/gangwaylaw06.SealFresh", spec := "sealFresh", unfollowed := true, recurses := true, named := ["gangway/sha.start", "gangway/sha.rounds"], plainKeys := false, apart := false, laid := [("gangway/sha.rounds", laid_gangway_sha_rounds), ("gangway/sha.start", laid_gangway_sha_start)], narrowed := true }
def SealFreshUptoSaid : Prop := sealFreshUptoRow.holds Tryd.pinned (OpenSpec.upto sealFreshSpec)

end Rows
end Go.Proofs.YticgfjalikmniaaDoor
