/-
  NARROWER THAN 'FOR EVERY INPUT', by the rows' own cells (each row's printed sentence says how): PrivOrders: laid · PrivKeys: laid · PrivRoom: laid · PrivSafe: laid · AuthzParses: laid · AuthzMaps: laid · AuthzFirst: laid · AuthzAllows: laid · AuthzLogin: laid · AuthzDefault: laid.
  DERIVED. THE GIVEN ROWS OF THIS SEAT. 10 by the template 'for every input the law returns true; each argument reads behind the call as it read before'; 0 by the template 'total and deterministic' (their statements: YtlnkfdblkdhdgaaDoorTotals.lean).
  GIVEN WITH THE SEED: the statements are not yours to turn. If you find one false, say at which input.
  Laid BY PROGRAM, IN A SANDBOX (cutbox-rows.mjs): the forced cells as the released guide's own fill.sh prints them over the translation ddf89348954c3ba0… (all of the seat's roots in one cut). By AI agents, Wed Nov 11 2026. No macro, syntax, notation, axiom, sorry.
-/
import Derived.Test.YtlnkfdblkdhdgaaDoorChecked
import GoSem.PinnedTables
import GoSem.Claim
import GoSem.ClaimJoined
import GoSem.ClaimMapViews
import Derived.JoinedTies
import Derived.KernelRfl
namespace Go.Proofs.YtlnkfdblkdhdgaaDoor
/- THE CELL 'sum', in the pinned program and in every row, IS THE sha256 OF THE DUMP (.gsa) THAT YtlnkfdblkdhdgaaDoorProg.lean LOADS. Nothing in Lean hashes anything: it is a label: what it is worth is what the hold of that sum in a sandbox is worth. -/
noncomputable def Tryd.pinned : Pinned := { name := "ytlnkfdblkdhdgaadoor", sum := "ddf89348954c3ba0e79161cf46ac57f27c7d0478106ac5d322ca480b90aa2d55", checked := Tryd.checked }
namespace Rows
def none {H : Type} : Left H := { results := [], args := [] }

/- WHAT THE LISTED PACKAGE-LEVEL VARIABLES READ AS WHEN THE CALL BEGINS. Each datum BY PROGRAM (the guide's laid-datum.mjs) off the statement by which the dump's own 'gosem.cut.vars' lays the variable. In a bare row this is a premise. The card (YtlnkfdblkdhdgaaDoorCards.lean) ties it to the program's text. -/
def laid_gangway_sha_rounds {H : Type} : DataW H := .agg [.lit (.int .u32 1116352408), .lit (.int .u32 1899447441), .lit (.int .u32 3049323471), .lit (.int .u32 3921009573), .lit (.int .u32 961987163), .lit (.int .u32 1508970993), .lit (.int .u32 2453635748), .lit (.int .u32 2870763221), .lit (.int .u32 3624381080), .lit (.int .u32 310598401), .lit (.int .u32 607225278), .lit (.int .u32 1426881987), .lit (.int .u32 1925078388), .lit (.int .u32 2162078206), .lit (.int .u32 2614888103), .lit (.int .u32 3248222580), .lit (.int .u32 3835390401), .lit (.int .u32 4022224774), .lit (.int .u32 264347078), .lit (.int .u32 604807628), .lit (.int .u32 770255983), .lit (.int .u32 1249150122), .lit (.int .u32 1555081692), .lit (.int .u32 1996064986), .lit (.int .u32 2554220882), .lit (.int .u32 2821834349), .lit (.int .u32 2952996808), .lit (.int .u32 3210313671), .lit (.int .u32 3336571891), .lit (.int .u32 3584528711), .lit (.int .u32 113926993), .lit (.int .u32 338241895), .lit (.int .u32 666307205), .lit (.int .u32 773529912), .lit (.int .u32 1294757372), .lit (.int .u32 1396182291), .lit (.int .u32 1695183700), .lit (.int .u32 1986661051), .lit (.int .u32 2177026350), .lit (.int .u32 2456956037), .lit (.int .u32 2730485921), .lit (.int .u32 2820302411), .lit (.int .u32 3259730800), .lit (.int .u32 3345764771), .lit (.int .u32 3516065817), .lit (.int .u32 3600352804), .lit (.int .u32 4094571909), .lit (.int .u32 275423344), .lit (.int .u32 430227734), .lit (.int .u32 506948616), .lit (.int .u32 659060556), .lit (.int .u32 883997877), .lit (.int .u32 958139571), .lit (.int .u32 1322822218), .lit (.int .u32 1537002063), .lit (.int .u32 1747873779), .lit (.int .u32 1955562222), .lit (.int .u32 2024104815), .lit (.int .u32 2227730452), .lit (.int .u32 2361852424), .lit (.int .u32 2428436474), .lit (.int .u32 2756734187), .lit (.int .u32 3204031479), .lit (.int .u32 3329325298)]
def laid_gangway_sha_start {H : Type} : DataW H := .agg [.lit (.int .u32 1779033703), .lit (.int .u32 3144134277), .lit (.int .u32 1013904242), .lit (.int .u32 2773480762), .lit (.int .u32 1359893119), .lit (.int .u32 2600822924), .lit (.int .u32 528734635), .lit (.int .u32 1541459225)]
def laid_unicode_utf8_acceptRanges {H : Type} : DataW H := .agg [.agg [.lit (.int .u8 128), .lit (.int .u8 191)], .agg [.lit (.int .u8 160), .lit (.int .u8 191)], .agg [.lit (.int .u8 128), .lit (.int .u8 159)], .agg [.lit (.int .u8 144), .lit (.int .u8 191)], .agg [.lit (.int .u8 128), .lit (.int .u8 143)], .agg [.lit (.int .u8 0), .lit (.int .u8 0)], .agg [.lit (.int .u8 0), .lit (.int .u8 0)], .agg [.lit (.int .u8 0), .lit (.int .u8 0)], .agg [.lit (.int .u8 0), .lit (.int .u8 0)], .agg [.lit (.int .u8 0), .lit (.int .u8 0)], .agg [.lit (.int .u8 0), .lit (.int .u8 0)], .agg [.lit (.int .u8 0), .lit (.int .u8 0)], .agg [.lit (.int .u8 0), .lit (.int .u8 0)], .agg [.lit (.int .u8 0), .lit (.int .u8 0)], .agg [.lit (.int .u8 0), .lit (.int .u8 0)], .agg [.lit (.int .u8 0), .lit (.int .u8 0)]]
def laid_errors_errorType {H : Type} : DataW H := .iface "internal/reflectlite.rtype" (.agg [.ptr (.lit (.string [101, 114, 114, 111, 114]))])
/-- One of Go's own tables, pinned by name: the form's constant. -/
def laid_unicode_utf8_first : DataW Unit := Go.Pinned.utf8First

/-- 'gangwaylaw14.PrivOrders': WHATEVER THE INPUT: true; the input reads as it did. -/
def privOrdersSpec : ChangeSpec := { name := "privOrders", fn := fun _ => fun
  | [d1, d2] => { results := [.lit (.bool true)], args := [d1, d2] }
  | _ => none }
def privOrdersRow : OpenClaim := { program := "ytlnkfdblkdhdgaadoor", sum := "ddf89348954c3ba0e79161cf46ac57f27c7d0478106ac5d322ca480b90aa2d55", func := "gangway/gangwaylaw14.PrivOrders", spec := "privOrders", unfollowed := true, recurses := true, named := ["gangway/sha.start", "gangway/sha.rounds"], apart := false, laid := [("gangway/sha.rounds", laid_gangway_sha_rounds), ("gangway/sha.start", laid_gangway_sha_start)] }
def PrivOrdersSaid : Prop := privOrdersRow.holds Tryd.pinned (OpenSpec.ofChange privOrdersSpec)

/-- ITS FALSE NEIGHBOUR: 'it returns false'. Refute it at one input. -/
def privOrdersWrong : ChangeSpec := { name := "privOrders", fn := fun _ => fun
  | [d1, d2] => { results := [.lit (.bool false)], args := [d1, d2] }
  | _ => none }
def PrivOrdersWrongFalsely : Prop := privOrdersRow.holds Tryd.pinned (OpenSpec.ofChange privOrdersWrong)

/-- 'gangwaylaw14.PrivKeys': WHATEVER THE INPUT: true; the input reads as it did. -/
def privKeysSpec : ChangeSpec := { name := "privKeys", fn := fun _ => fun
  | [d1, d2, d3] => { results := [.lit (.bool true)], args := [d1, d2, d3] }
  | _ => none }
def privKeysRow : OpenClaim := { program := "ytlnkfdblkdhdgaadoor", sum := "ddf89348954c3ba0e79161cf46ac57f27c7d0478106ac5d322ca480b90aa2d55", func := "gangway/gangwaylaw14.PrivKeys", spec := "privKeys", unfollowed := true, recurses := true, named := ["gangway/sha.start", "gangway/sha.rounds"], apart := false, laid := [("gangway/sha.rounds", laid_gangway_sha_rounds), ("gangway/sha.start", laid_gangway_sha_start)] }
def PrivKeysSaid : Prop := privKeysRow.holds Tryd.pinned (OpenSpec.ofChange privKeysSpec)

/-- ITS FALSE NEIGHBOUR: 'it returns false'. Refute it at one input. -/
def privKeysWrong : ChangeSpec := { name := "privKeys", fn := fun _ => fun
  | [d1, d2, d3] => { results := [.lit (.bool false)], args := [d1, d2, d3] }
  | _ => none }
def PrivKeysWrongFalsely : Prop := privKeysRow.holds Tryd.pinned (OpenSpec.ofChange privKeysWrong)

/-- 'gangwaylaw14.PrivRoom': WHATEVER THE INPUT: true; the input reads as it did. -/
def privRoomSpec : ChangeSpec := { name := "privRoom", fn := fun _ => fun
  | [d1, d2] => { results := [.lit (.bool true)], args := [d1, d2] }
  | _ => none }
def privRoomRow : OpenClaim := { program := "ytlnkfdblkdhdgaadoor", sum := "ddf89348954c3ba0e79161cf46ac57f27c7d0478106ac5d322ca480b90aa2d55", func := "gangway/gangwaylaw14.PrivRoom", spec := "privRoom", unfollowed := true, recurses := true, named := ["gangway/sha.start", "gangway/sha.rounds"], apart := false, laid := [("gangway/sha.rounds", laid_gangway_sha_rounds), ("gangway/sha.start", laid_gangway_sha_start)] }
def PrivRoomSaid : Prop := privRoomRow.holds Tryd.pinned (OpenSpec.ofChange privRoomSpec)

/-- ITS FALSE NEIGHBOUR: 'it returns false'. Refute it at one input. -/
def privRoomWrong : ChangeSpec := { name := "privRoom", fn := fun _ => fun
  | [d1, d2] => { results := [.lit (.bool false)], args := [d1, d2] }
  | _ => none }
def PrivRoomWrongFalsely : Prop := privRoomRow.holds Tryd.pinned (OpenSpec.ofChange privRoomWrong)

/-- 'gangwaylaw14.PrivSafe': WHATEVER THE INPUT: true; the input reads as it did. -/
def privSafeSpec : ChangeSpec := { name := "privSafe", fn := fun _ => fun
  | [d1, d2, d3] => { results := [.lit (.bool true)], args := [d1, d2, d3] }
  | _ => none }
def privSafeRow : OpenClaim := { program := "ytlnkfdblkdhdgaadoor", sum := "ddf89348954c3ba0e79161cf46ac57f27c7d0478106ac5d322ca480b90aa2d55", func := "gangway/gangwaylaw14.PrivSafe", spec := "privSafe", unfollowed := true, recurses := true, named := ["gangway/sha.start", "gangway/sha.rounds"], apart := false, laid := [("gangway/sha.rounds", laid_gangway_sha_rounds), ("gangway/sha.start", laid_gangway_sha_start)] }
def PrivSafeSaid : Prop := privSafeRow.holds Tryd.pinned (OpenSpec.ofChange privSafeSpec)

/-- ITS FALSE NEIGHBOUR: 'it returns false'. Refute it at one input. -/
def privSafeWrong : ChangeSpec := { name := "privSafe", fn := fun _ => fun
  | [d1, d2, d3] => { results := [.lit (.bool false)], args := [d1, d2, d3] }
  | _ => none }
def PrivSafeWrongFalsely : Prop := privSafeRow.holds Tryd.pinned (OpenSpec.ofChange privSafeWrong)

/-- 'gangwaylaw16.AuthzParses': WHATEVER THE INPUT: true; the input reads as it did. -/
def authzParsesSpec : ChangeSpec := { name := "authzParses", fn := fun _ => fun
  | [d1, d2] => { results := [.lit (.bool true)], args := [d1, d2] }
  | _ => none }
def authzParsesRow : OpenClaim := { program := "ytlnkfdblkdhdgaadoor", sum := "ddf89348954c3ba0e79161cf46ac57f27c7d0478106ac5d322ca480b90aa2d55", func := "gangway/gangwaylaw16.AuthzParses", spec := "authzParses", inPlace := ["internal/bytealg.IndexByteString", "internal/bytealg.IndexString", "internal/bytealg.CountString", "internal/abi.NoEscape", "internal/bytealg.MakeNoZero", "internal/reflectlite.ValueOf", "(internal/reflectlite.Value).Type", "(internal/reflectlite.Value).IsNil", "internal/reflectlite.TypeOf", "(internal/reflectlite.Value).Elem", "(internal/reflectlite.Value).Set"], unfollowed := true, recurses := true, named := ["unicode/utf8.first", "unicode/utf8.acceptRanges", "internal/bytealg.MaxLen", "errors.errorType"], apart := false, laid := [("unicode/utf8.acceptRanges", laid_unicode_utf8_acceptRanges), ("errors.errorType", laid_errors_errorType), ("unicode/utf8.first", laid_unicode_utf8_first)] }
def AuthzParsesSaid : Prop := authzParsesRow.holds Tryd.pinned (OpenSpec.ofChange authzParsesSpec)

/-- ITS FALSE NEIGHBOUR: 'it returns false'. Refute it at one input. -/
def authzParsesWrong : ChangeSpec := { name := "authzParses", fn := fun _ => fun
  | [d1, d2] => { results := [.lit (.bool false)], args := [d1, d2] }
  | _ => none }
def AuthzParsesWrongFalsely : Prop := authzParsesRow.holds Tryd.pinned (OpenSpec.ofChange authzParsesWrong)

/-- 'gangwaylaw16.AuthzMaps': WHATEVER THE INPUT: true; the input reads as it did. -/
def authzMapsSpec : ChangeSpec := { name := "authzMaps", fn := fun _ => fun
  | [d1, d2, d3] => { results := [.lit (.bool true)], args := [d1, d2, d3] }
  | _ => none }
def authzMapsRow : OpenClaim := { program := "ytlnkfdblkdhdgaadoor", sum := "ddf89348954c3ba0e79161cf46ac57f27c7d0478106ac5d322ca480b90aa2d55", func := "gangway/gangwaylaw16.AuthzMaps", spec := "authzMaps", inPlace := ["internal/bytealg.IndexByteString", "internal/bytealg.IndexString", "internal/bytealg.CountString", "internal/abi.NoEscape", "internal/bytealg.MakeNoZero", "internal/reflectlite.ValueOf", "(internal/reflectlite.Value).Type", "(internal/reflectlite.Value).IsNil", "internal/reflectlite.TypeOf", "(internal/reflectlite.Value).Elem", "(internal/reflectlite.Value).Set"], unfollowed := true, recurses := true, named := ["unicode/utf8.first", "unicode/utf8.acceptRanges", "internal/bytealg.MaxLen", "errors.errorType"], apart := false, laid := [("unicode/utf8.acceptRanges", laid_unicode_utf8_acceptRanges), ("errors.errorType", laid_errors_errorType), ("unicode/utf8.first", laid_unicode_utf8_first)] }
def AuthzMapsSaid : Prop := authzMapsRow.holds Tryd.pinned (OpenSpec.ofChange authzMapsSpec)

/-- ITS FALSE NEIGHBOUR: 'it returns false'. Refute it at one input. -/
def authzMapsWrong : ChangeSpec := { name := "authzMaps", fn := fun _ => fun
  | [d1, d2, d3] => { results := [.lit (.bool false)], args := [d1, d2, d3] }
  | _ => none }
def AuthzMapsWrongFalsely : Prop := authzMapsRow.holds Tryd.pinned (OpenSpec.ofChange authzMapsWrong)

/-- 'gangwaylaw16.AuthzFirst': WHATEVER THE INPUT: true; the input reads as it did. -/
def authzFirstSpec : ChangeSpec := { name := "authzFirst", fn := fun _ => fun
  | [d1, d2, d3] => { results := [.lit (.bool true)], args := [d1, d2, d3] }
  | _ => none }
def authzFirstRow : OpenClaim := { program := "ytlnkfdblkdhdgaadoor", sum := "ddf89348954c3ba0e79161cf46ac57f27c7d0478106ac5d322ca480b90aa2d55", func := "gangway/gangwaylaw16.AuthzFirst", spec := "authzFirst", inPlace := ["internal/bytealg.IndexByteString", "internal/bytealg.IndexString", "internal/bytealg.CountString", "internal/abi.NoEscape", "internal/bytealg.MakeNoZero", "internal/reflectlite.ValueOf", "(internal/reflectlite.Value).Type", "(internal/reflectlite.Value).IsNil", "internal/reflectlite.TypeOf", "(internal/reflectlite.Value).Elem", "(internal/reflectlite.Value).Set"], unfollowed := true, recurses := true, named := ["unicode/utf8.first", "unicode/utf8.acceptRanges", "internal/bytealg.MaxLen", "errors.errorType"], apart := false, laid := [("unicode/utf8.acceptRanges", laid_unicode_utf8_acceptRanges), ("errors.errorType", laid_errors_errorType), ("unicode/utf8.first", laid_unicode_utf8_first)] }
def AuthzFirstSaid : Prop := authzFirstRow.holds Tryd.pinned (OpenSpec.ofChange authzFirstSpec)

/-- ITS FALSE NEIGHBOUR: 'it returns false'. Refute it at one input. -/
def authzFirstWrong : ChangeSpec := { name := "authzFirst", fn := fun _ => fun
  | [d1, d2, d3] => { results := [.lit (.bool false)], args := [d1, d2, d3] }
  | _ => none }
def AuthzFirstWrongFalsely : Prop := authzFirstRow.holds Tryd.pinned (OpenSpec.ofChange authzFirstWrong)

/-- 'gangwaylaw16.AuthzAllows': WHATEVER THE INPUT: true; the input reads as it did. -/
def authzAllowsSpec : ChangeSpec := { name := "authzAllows", fn := fun _ => fun
  | [d] => { results := [.lit (.bool true)], args := [d] }
  | _ => none }
def authzAllowsRow : OpenClaim := { program := "ytlnkfdblkdhdgaadoor", sum := "ddf89348954c3ba0e79161cf46ac57f27c7d0478106ac5d322ca480b90aa2d55", func := "gangway/gangwaylaw16.AuthzAllows", spec := "authzAllows", inPlace := ["internal/bytealg.IndexByteString", "internal/bytealg.IndexString", "internal/bytealg.CountString", "internal/abi.NoEscape", "internal/bytealg.MakeNoZero", "internal/reflectlite.ValueOf", "(internal/reflectlite.Value).Type", "(internal/reflectlite.Value).IsNil", "internal/reflectlite.TypeOf", "(internal/reflectlite.Value).Elem", "(internal/reflectlite.Value).Set"], unfollowed := true, recurses := true, named := ["unicode/utf8.first", "unicode/utf8.acceptRanges", "internal/bytealg.MaxLen", "errors.errorType"], apart := false, laid := [("unicode/utf8.acceptRanges", laid_unicode_utf8_acceptRanges), ("errors.errorType", laid_errors_errorType), ("unicode/utf8.first", laid_unicode_utf8_first)] }
def AuthzAllowsSaid : Prop := authzAllowsRow.holds Tryd.pinned (OpenSpec.ofChange authzAllowsSpec)

/-- ITS FALSE NEIGHBOUR: 'it returns false'. Refute it at one input. -/
def authzAllowsWrong : ChangeSpec := { name := "authzAllows", fn := fun _ => fun
  | [d] => { results := [.lit (.bool false)], args := [d] }
  | _ => none }
def AuthzAllowsWrongFalsely : Prop := authzAllowsRow.holds Tryd.pinned (OpenSpec.ofChange authzAllowsWrong)

/-- 'gangwaylaw16.AuthzLogin': WHATEVER THE INPUT: true; the input reads as it did. -/
def authzLoginSpec : ChangeSpec := { name := "authzLogin", fn := fun _ => fun
  | [d1, d2, d3] => { results := [.lit (.bool true)], args := [d1, d2, d3] }
  | _ => none }
def authzLoginRow : OpenClaim := { program := "ytlnkfdblkdhdgaadoor", sum := "ddf89348954c3ba0e79161cf46ac57f27c7d0478106ac5d322ca480b90aa2d55", func := "gangway/gangwaylaw16.AuthzLogin", spec := "authzLogin", inPlace := ["internal/bytealg.IndexByteString", "internal/bytealg.IndexString", "internal/bytealg.CountString", "internal/abi.NoEscape", "internal/bytealg.MakeNoZero", "internal/reflectlite.ValueOf", "(internal/reflectlite.Value).Type", "(internal/reflectlite.Value).IsNil", "internal/reflectlite.TypeOf", "(internal/reflectlite.Value).Elem", "(internal/reflectlite.Value).Set"], unfollowed := true, recurses := true, named := ["unicode/utf8.first", "unicode/utf8.acceptRanges", "internal/bytealg.MaxLen", "errors.errorType"], apart := false, laid := [("unicode/utf8.acceptRanges", laid_unicode_utf8_acceptRanges), ("errors.errorType", laid_errors_errorType), ("unicode/utf8.first", laid_unicode_utf8_first)] }
def AuthzLoginSaid : Prop := authzLoginRow.holds Tryd.pinned (OpenSpec.ofChange authzLoginSpec)

/-- ITS FALSE NEIGHBOUR: 'it returns false'. Refute it at one input. -/
def authzLoginWrong : ChangeSpec := { name := "authzLogin", fn := fun _ => fun
  | [d1, d2, d3] => { results := [.lit (.bool false)], args := [d1, d2, d3] }
  | _ => none }
def AuthzLoginWrongFalsely : Prop := authzLoginRow.holds Tryd.pinned (OpenSpec.ofChange authzLoginWrong)

/-- 'gangwaylaw16.AuthzDefault': WHATEVER THE INPUT: true; the input reads as it did. -/
def authzDefaultSpec : ChangeSpec := { name := "authzDefault", fn := fun _ => fun
  | [d1, d2] => { results := [.lit (.bool true)], args := [d1, d2] }
  | _ => none }
def authzDefaultRow : OpenClaim := { program := "ytlnkfdblkdhdgaadoor", sum := "ddf89348954c3ba0e79161cf46ac57f27c7d0478106ac5d322ca480b90aa2d55", func := "gangway/gangwaylaw16.AuthzDefault", spec := "authzDefault", inPlace := ["internal/bytealg.IndexByteString", "internal/bytealg.IndexString", "internal/bytealg.CountString", "internal/abi.NoEscape", "internal/bytealg.MakeNoZero", "internal/reflectlite.ValueOf", "(internal/reflectlite.Value).Type", "(internal/reflectlite.Value).IsNil", "internal/reflectlite.TypeOf", "(internal/reflectlite.Value).Elem", "(internal/reflectlite.Value).Set"], unfollowed := true, recurses := true, named := ["unicode/utf8.first", "unicode/utf8.acceptRanges", "internal/bytealg.MaxLen", "errors.errorType"], apart := false, laid := [("unicode/utf8.acceptRanges", laid_unicode_utf8_acceptRanges), ("errors.errorType", laid_errors_errorType), ("unicode/utf8.first", laid_unicode_utf8_first)] }
def AuthzDefaultSaid : Prop := authzDefaultRow.holds Tryd.pinned (OpenSpec.ofChange authzDefaultSpec)

/-- ITS FALSE NEIGHBOUR: 'it returns false'. Refute it at one input. -/
def authzDefaultWrong : ChangeSpec := { name := "authzDefault", fn := fun _ => fun
  | [d1, d2] => { results := [.lit (.bool false)], args := [d1, d2] }
  | _ => none }
def AuthzDefaultWrongFalsely : Prop := authzDefaultRow.holds Tryd.pinned (OpenSpec.ofChange authzDefaultWrong)

/- THE SECOND FORM. 'bulk': how many values and letters a reading holds, each counted each time it is reached (what is shared counts as often as it is met; a slice's spare places count too). A statement '..UptoSaid' is the law's where the arguments, and the package variables that the reading takes, are together of bulk at most 1048576: NARROWER than '..Said'. Prove '..Said' where nothing that the law and all that it calls make is longer than what came in: it says more and counts as full. Else prove '..UptoSaid'. A law counts once. -/
mutual
def uptoBulk {H : Type} : DataW H → Nat
  | .lit (.string bytes) => bytes.length + 1
  | .lit _ => 1
  | .nil => 1
  | .ptr d => uptoBulk d + 1
  | .slice elems spare => uptoBulkAll elems + uptoBulkAll spare + 1
  | .agg parts => uptoBulkAll parts + 1
  | .iface _ d => uptoBulk d + 1
  | .map entries => uptoBulkEntries entries + 1
  | .held _ => 1
def uptoBulkAll {H : Type} : List (DataW H) → Nat
  | [] => 0
  | d :: r => uptoBulk d + uptoBulkAll r
def uptoBulkEntries {H : Type} : List (Lit × DataW H) → Nat
  | [] => 0
  | x :: r => uptoBulkEntry x + uptoBulkEntries r
def uptoBulkEntry {H : Type} : Lit × DataW H → Nat
  | (.string bytes, d) => bytes.length + uptoBulk d + 1
  | (_, d) => uptoBulk d + 1
 end
def uptoSmall : (H : Type) → List (DataW H) → Bool := fun _ ds => decide (uptoBulkAll ds ≤ 1048576)
def OpenSpec.upto (s : _root_.Go.ChangeSpec) : _root_.Go.OpenSpec := { _root_.Go.OpenSpec.ofChange s with cond := some uptoSmall }

/-- 'gangwaylaw14.PrivOrders', WHERE WHAT IT READS IS OF BULK AT MOST 1048576: true; the input reads as it did. -/
def privOrdersUptoRow : OpenClaim := { program := "ytlnkfdblkdhdgaadoor", sum := "ddf89348954c3ba0e79161cf46ac57f27c7d0478106ac5d322ca480b90aa2d55", func := "gangway/gangwaylaw14.PrivOrders", spec := "privOrders", unfollowed := true, recurses := true, named := ["gangway/sha.start", "gangway/sha.rounds"], apart := false, laid := [("gangway/sha.rounds", laid_gangway_sha_rounds), ("gangway/sha.start", laid_gangway_sha_start)], narrowed := true }
def PrivOrdersUptoSaid : Prop := privOrdersUptoRow.holds Tryd.pinned (OpenSpec.upto privOrdersSpec)

/-- 'gangwaylaw14.PrivKeys', WHERE WHAT IT READS IS OF BULK AT MOST 1048576: true; the input reads as it did. -/
def privKeysUptoRow : OpenClaim := { program := "ytlnkfdblkdhdgaadoor", sum := "ddf89348954c3ba0e79161cf46ac57f27c7d0478106ac5d322ca480b90aa2d55", func := "gangway/gangwaylaw14.PrivKeys", spec := "privKeys", unfollowed := true, recurses := true, named := ["gangway/sha.start", "gangway/sha.rounds"], apart := false, laid := [("gangway/sha.rounds", laid_gangway_sha_rounds), ("gangway/sha.start", laid_gangway_sha_start)], narrowed := true }
def PrivKeysUptoSaid : Prop := privKeysUptoRow.holds Tryd.pinned (OpenSpec.upto privKeysSpec)

/-- 'gangwaylaw14.PrivRoom', WHERE WHAT IT READS IS OF BULK AT MOST 1048576: true; the input reads as it did. -/
def privRoomUptoRow : OpenClaim := { program := "ytlnkfdblkdhdgaadoor", sum := "ddf89348954c3ba0e79161cf46ac57f27c7d0478106ac5d322ca480b90aa2d55", func := "gangway/gangwaylaw14.PrivRoom", spec := "privRoom", unfollowed := true, recurses := true, named := ["gangway/sha.start", "gangway/sha.rounds"], apart := false, laid := [("gangway/sha.rounds", laid_gangway_sha_rounds), ("gangway/sha.start", laid_gangway_sha_start)], narrowed := true }
def PrivRoomUptoSaid : Prop := privRoomUptoRow.holds Tryd.pinned (OpenSpec.upto privRoomSpec)

/-- 'gangwaylaw14.PrivSafe', WHERE WHAT IT READS IS OF BULK AT MOST 1048576: true; the input reads as it did. -/
def privSafeUptoRow : OpenClaim := { program := "ytlnkfdblkdhdgaadoor", sum := "ddf89348954c3ba0e79161cf46ac57f27c7d0478106ac5d322ca480b90aa2d55", func := "gangway/gangwaylaw14.PrivSafe", spec := "privSafe", unfollowed := true, recurses := true, named := ["gangway/sha.start", "gangway/sha.rounds"], apart := false, laid := [("gangway/sha.rounds", laid_gangway_sha_rounds), ("gangway/sha.start", laid_gangway_sha_start)], narrowed := true }
def PrivSafeUptoSaid : Prop := privSafeUptoRow.holds Tryd.pinned (OpenSpec.upto privSafeSpec)

/-- 'gangwaylaw16.AuthzParses', WHERE WHAT IT READS IS OF BULK AT MOST 1048576: true; the input reads as it did. -/
def authzParsesUptoRow : OpenClaim := { program := "ytlnkfdblkdhdgaadoor", sum := "ddf89348954c3ba0e79161cf46ac57f27c7d0478106ac5d322ca480b90aa2d55", func := "gangway/gangwaylaw16.AuthzParses", spec := "authzParses", inPlace := ["internal/bytealg.IndexByteString", "internal/bytealg.IndexString", "internal/bytealg.CountString", "internal/abi.NoEscape", "internal/bytealg.MakeNoZero", "internal/reflectlite.ValueOf", "(internal/reflectlite.Value).Type", "(internal/reflectlite.Value).IsNil", "internal/reflectlite.TypeOf", "(internal/reflectlite.Value).Elem", "(internal/reflectlite.Value).Set"], unfollowed := true, recurses := true, named := ["unicode/utf8.first", "unicode/utf8.acceptRanges", "internal/bytealg.MaxLen", "errors.errorType"], apart := false, laid := [("unicode/utf8.acceptRanges", laid_unicode_utf8_acceptRanges), ("errors.errorType", laid_errors_errorType), ("unicode/utf8.first", laid_unicode_utf8_first)], narrowed := true }
def AuthzParsesUptoSaid : Prop := authzParsesUptoRow.holds Tryd.pinned (OpenSpec.upto authzParsesSpec)

/-- 'gangwaylaw16.AuthzMaps', WHERE WHAT IT READS IS OF BULK AT MOST 1048576: true; the input reads as it did. -/
def authzMapsUptoRow : OpenClaim := { program := "ytlnkfdblkdhdgaadoor", sum := "ddf89348954c3ba0e79161cf46ac57f27c7d0478106ac5d322ca480b90aa2d55", func := "gangway/gangwaylaw16.AuthzMaps", spec := "authzMaps", inPlace := ["internal/bytealg.IndexByteString", "internal/bytealg.IndexString", "internal/bytealg.CountString", "internal/abi.NoEscape", "internal/bytealg.MakeNoZero", "internal/reflectlite.ValueOf", "(internal/reflectlite.Value).Type", "(internal/reflectlite.Value).IsNil", "internal/reflectlite.TypeOf", "(internal/reflectlite.Value).Elem", "(internal/reflectlite.Value).Set"], unfollowed := true, recurses := true, named := ["unicode/utf8.first", "unicode/utf8.acceptRanges", "internal/bytealg.MaxLen", "errors.errorType"], apart := false, laid := [("unicode/utf8.acceptRanges", laid_unicode_utf8_acceptRanges), ("errors.errorType", laid_errors_errorType), ("unicode/utf8.first", laid_unicode_utf8_first)], narrowed := true }
def AuthzMapsUptoSaid : Prop := authzMapsUptoRow.holds Tryd.pinned (OpenSpec.upto authzMapsSpec)

/-- 'gangwaylaw16.AuthzFirst', WHERE WHAT IT READS IS OF BULK AT MOST 1048576: true; the input reads as it did. -/
def authzFirstUptoRow : OpenClaim := { program := "ytlnkfdblkdhdgaadoor", sum := "ddf89348954c3ba0e79161cf46ac57f27c7d0478106ac5d322ca480b90aa2d55", func := "gangway/gangwaylaw16.AuthzFirst", spec := "authzFirst", inPlace := ["internal/bytealg.IndexByteString", "internal/bytealg.IndexString", "internal/bytealg.CountString", "internal/abi.NoEscape", "internal/bytealg.MakeNoZero", "internal/reflectlite.ValueOf", "(internal/reflectlite.Value).Type", "(internal/reflectlite.Value).IsNil", "internal/reflectlite.TypeOf", "(internal/reflectlite.Value).Elem", "(internal/reflectlite.Value).Set"], unfollowed := true, recurses := true, named := ["unicode/utf8.first", "unicode/utf8.acceptRanges", "internal/bytealg.MaxLen", "errors.errorType"], apart := false, laid := [("unicode/utf8.acceptRanges", laid_unicode_utf8_acceptRanges), ("errors.errorType", laid_errors_errorType), ("unicode/utf8.first", laid_unicode_utf8_first)], narrowed := true }
def AuthzFirstUptoSaid : Prop := authzFirstUptoRow.holds Tryd.pinned (OpenSpec.upto authzFirstSpec)

/-- 'gangwaylaw16.AuthzAllows', WHERE WHAT IT READS IS OF BULK AT MOST 1048576: true; the input reads as it did. -/
def authzAllowsUptoRow : OpenClaim := { program := "ytlnkfdblkdhdgaadoor", sum := "ddf89348954c3ba0e79161cf46ac57f27c7d0478106ac5d322ca480b90aa2d55", func := "gangway/gangwaylaw16.AuthzAllows", spec := "authzAllows", inPlace := ["internal/bytealg.IndexByteString", "internal/bytealg.IndexString", "internal/bytealg.CountString", "internal/abi.NoEscape", "internal/bytealg.MakeNoZero", "internal/reflectlite.ValueOf", "(internal/reflectlite.Value).Type", "(internal/reflectlite.Value).IsNil", "internal/reflectlite.TypeOf", "(internal/reflectlite.Value).Elem", "(internal/reflectlite.Value).Set"], unfollowed := true, recurses := true, named := ["unicode/utf8.first", "unicode/utf8.acceptRanges", "internal/bytealg.MaxLen", "errors.errorType"], apart := false, laid := [("unicode/utf8.acceptRanges", laid_unicode_utf8_acceptRanges), ("errors.errorType", laid_errors_errorType), ("unicode/utf8.first", laid_unicode_utf8_first)], narrowed := true }
def AuthzAllowsUptoSaid : Prop := authzAllowsUptoRow.holds Tryd.pinned (OpenSpec.upto authzAllowsSpec)

/-- 'gangwaylaw16.AuthzLogin', WHERE WHAT IT READS IS OF BULK AT MOST 1048576: true; the input reads as it did. -/
def authzLoginUptoRow : OpenClaim := { program := "ytlnkfdblkdhdgaadoor", sum := "ddf89348954c3ba0e79161cf46ac57f27c7d0478106ac5d322ca480b90aa2d55", func := "gangway/gangwaylaw16.AuthzLogin", spec := "authzLogin", inPlace := ["internal/bytealg.IndexByteString", "internal/bytealg.IndexString", "internal/bytealg.CountString", "internal/abi.NoEscape", "internal/bytealg.MakeNoZero", "internal/reflectlite.ValueOf", "(internal/reflectlite.Value).Type", "(internal/reflectlite.Value).IsNil", "internal/reflectlite.TypeOf", "(internal/reflectlite.Value).Elem", "(internal/reflectlite.Value).Set"], unfollowed := true, recurses := true, named := ["unicode/utf8.first", "unicode/utf8.acceptRanges", "internal/bytealg.MaxLen", "errors.errorType"], apart := false, laid := [("unicode/utf8.acceptRanges", laid_unicode_utf8_acceptRanges), ("errors.errorType", laid_errors_errorType), ("unicode/utf8.first", laid_unicode_utf8_first)], narrowed := true }
def AuthzLoginUptoSaid : Prop := authzLoginUptoRow.holds Tryd.pinned (OpenSpec.upto authzLoginSpec)

/-- 'gangwaylaw16.AuthzDefault', WHERE WHAT IT READS IS OF BULK AT MOST 1048576: true; the input reads as it did. -/
def authzDefaultUptoRow : OpenClaim := { program := "ytlnkfdblkdhdgaadoor", sum := "ddf89348954c3ba0e79161cf46ac57f27c7d0478106ac5d322ca480b90aa2d55", func := "gangway/gangwaylaw16.AuthzDefault", spec := "authzDefault", inPlace := ["internal/bytealg.IndexByteString", "internal/bytealg.IndexString", "internal/bytealg.CountString", "internal/abi.NoEscape", "internal/bytealg.MakeNoZero", "internal/reflectlite.ValueOf", "(internal/reflectlite.Value).Type", "(internal/reflectlite.Value).IsNil", "internal/reflectlite.TypeOf", "(internal/reflectlite.Value).Elem", "(internal/reflectlite.Value).Set"], unfollowed := true, recurses := true, named := ["unicode/utf8.first", "unicode/utf8.acceptRanges", "internal/bytealg.MaxLen", "errors.errorType"], apart := false, laid := [("unicode/utf8.acceptRanges", laid_unicode_utf8_acceptRanges), ("errors.errorType", laid_errors_errorType), ("unicode/utf8.first", laid_unicode_utf8_first)], narrowed := true }
def AuthzDefaultUptoSaid : Prop := authzDefaultUptoRow.holds Tryd.pinned (OpenSpec.upto authzDefaultSpec)

end Rows
end Go.Proofs.YtlnkfdblkdhdgaaDoor
