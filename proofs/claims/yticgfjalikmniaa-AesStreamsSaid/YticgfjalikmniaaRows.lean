/-
  No cell of these rows narrows 'for every input' (looked for: loops, veiled, ifaces, maps, wideKeys, modest, calm, conditions, laid).
  DERIVED. THE GIVEN ROWS OF THIS SEAT. 5 by the template 'for every input the law returns true; each argument reads behind the call as it read before'; 0 by the template 'total and deterministic' (their statements: YticgfjalikmniaaTotals.lean).
  GIVEN WITH THE SEED: the statements are not yours to turn. If you find one false, say at which input.
  Laid BY PROGRAM, IN A SANDBOX (cutbox-rows.mjs): the forced cells as the released guide's own fill.sh prints them over the translation 6ba104869408c036… (all of the seat's roots in one cut). By AI agents, Wed Nov 11 2026. No macro, syntax, notation, axiom, sorry.
-/
import Derived.Test.YticgfjalikmniaaChecked
import GoSem.Claim
import GoSem.ClaimJoined
import GoSem.ClaimMapViews
import Derived.JoinedTies
import Derived.KernelRfl
namespace Go.Proofs.Yticgfjalikmniaa
/- THE CELL 'sum', in the pinned program and in every row, IS THE sha256 OF THE DUMP (.gsa) THAT YticgfjalikmniaaProg.lean LOADS. Nothing in Lean hashes anything: it is a label: what it is worth is what the hold of that sum in a sandbox is worth. -/
noncomputable def Try.pinned : Pinned := { name := "yticgfjalikmniaa", sum := "6ba104869408c036f506702314412e8d41dc3d7ab5292d59afe83139b05cf166", checked := Try.checked }
namespace Rows
def none {H : Type} : Left H := { results := [], args := [] }

/-- 'gangwaylaw05.AesBlocks': WHATEVER THE INPUT: true; the input reads as it did. -/
def aesBlocksSpec : ChangeSpec := { name := "aesBlocks", fn := fun _ => fun
  | [d1, d2] => { results := [.lit (.bool true)], args := [d1, d2] }
  | _ => none }
def aesBlocksRow : OpenClaim := { program := "yticgfjalikmniaa", sum := "6ba104869408c036f506702314412e8d41dc3d7ab5292d59afe83139b05cf166", func := "gangway/gangwaylaw05.AesBlocks", spec := "aesBlocks", apart := false }
def AesBlocksSaid : Prop := aesBlocksRow.holds Try.pinned (OpenSpec.ofChange aesBlocksSpec)

/-- ITS FALSE NEIGHBOUR: 'it returns false'. Refute it at one input. -/
def aesBlocksWrong : ChangeSpec := { name := "aesBlocks", fn := fun _ => fun
  | [d1, d2] => { results := [.lit (.bool false)], args := [d1, d2] }
  | _ => none }
def AesBlocksWrongFalsely : Prop := aesBlocksRow.holds Try.pinned (OpenSpec.ofChange aesBlocksWrong)

/-- 'gangwaylaw05.AesApart': WHATEVER THE INPUT: true; the input reads as it did. -/
def aesApartSpec : ChangeSpec := { name := "aesApart", fn := fun _ => fun
  | [d1, d2, d3] => { results := [.lit (.bool true)], args := [d1, d2, d3] }
  | _ => none }
def aesApartRow : OpenClaim := { program := "yticgfjalikmniaa", sum := "6ba104869408c036f506702314412e8d41dc3d7ab5292d59afe83139b05cf166", func := "gangway/gangwaylaw05.AesApart", spec := "aesApart", apart := false }
def AesApartSaid : Prop := aesApartRow.holds Try.pinned (OpenSpec.ofChange aesApartSpec)

/-- ITS FALSE NEIGHBOUR: 'it returns false'. Refute it at one input. -/
def aesApartWrong : ChangeSpec := { name := "aesApart", fn := fun _ => fun
  | [d1, d2, d3] => { results := [.lit (.bool false)], args := [d1, d2, d3] }
  | _ => none }
def AesApartWrongFalsely : Prop := aesApartRow.holds Try.pinned (OpenSpec.ofChange aesApartWrong)

/-- 'gangwaylaw05.AesStreams': WHATEVER THE INPUT: true; the input reads as it did. -/
def aesStreamsSpec : ChangeSpec := { name := "aesStreams", fn := fun _ => fun
  | [d1, d2, d3] => { results := [.lit (.bool true)], args := [d1, d2, d3] }
  | _ => none }
def aesStreamsRow : OpenClaim := { program := "yticgfjalikmniaa", sum := "6ba104869408c036f506702314412e8d41dc3d7ab5292d59afe83139b05cf166", func := "gangway/gangwaylaw05.AesStreams", spec := "aesStreams", apart := false }
def AesStreamsSaid : Prop := aesStreamsRow.holds Try.pinned (OpenSpec.ofChange aesStreamsSpec)

/-- ITS FALSE NEIGHBOUR: 'it returns false'. Refute it at one input. -/
def aesStreamsWrong : ChangeSpec := { name := "aesStreams", fn := fun _ => fun
  | [d1, d2, d3] => { results := [.lit (.bool false)], args := [d1, d2, d3] }
  | _ => none }
def AesStreamsWrongFalsely : Prop := aesStreamsRow.holds Try.pinned (OpenSpec.ofChange aesStreamsWrong)

/-- 'gangwaylaw05.AesTwice': WHATEVER THE INPUT: true; the input reads as it did. -/
def aesTwiceSpec : ChangeSpec := { name := "aesTwice", fn := fun _ => fun
  | [d1, d2, d3] => { results := [.lit (.bool true)], args := [d1, d2, d3] }
  | _ => none }
def aesTwiceRow : OpenClaim := { program := "yticgfjalikmniaa", sum := "6ba104869408c036f506702314412e8d41dc3d7ab5292d59afe83139b05cf166", func := "gangway/gangwaylaw05.AesTwice", spec := "aesTwice", apart := false }
def AesTwiceSaid : Prop := aesTwiceRow.holds Try.pinned (OpenSpec.ofChange aesTwiceSpec)

/-- ITS FALSE NEIGHBOUR: 'it returns false'. Refute it at one input. -/
def aesTwiceWrong : ChangeSpec := { name := "aesTwice", fn := fun _ => fun
  | [d1, d2, d3] => { results := [.lit (.bool false)], args := [d1, d2, d3] }
  | _ => none }
def AesTwiceWrongFalsely : Prop := aesTwiceRow.holds Try.pinned (OpenSpec.ofChange aesTwiceWrong)

/-- 'gangwaylaw05.AesKeys': WHATEVER THE INPUT: true; the input reads as it did. -/
def aesKeysSpec : ChangeSpec := { name := "aesKeys", fn := fun _ => fun
  | [d1, d2, d3] => { results := [.lit (.bool true)], args := [d1, d2, d3] }
  | _ => none }
def aesKeysRow : OpenClaim := { program := "yticgfjalikmniaa", sum := "6ba104869408c036f506702314412e8d41dc3d7ab5292d59afe83139b05cf166", func := "gangway/gangwaylaw05.AesKeys", spec := "aesKeys", apart := false }
def AesKeysSaid : Prop := aesKeysRow.holds Try.pinned (OpenSpec.ofChange aesKeysSpec)

/-- ITS FALSE NEIGHBOUR: 'it returns false'. Refute it at one input. -/
def aesKeysWrong : ChangeSpec := { name := "aesKeys", fn := fun _ => fun
  | [d1, d2, d3] => { results := [.lit (.bool false)], args := [d1, d2, d3] }
  | _ => none }
def AesKeysWrongFalsely : Prop := aesKeysRow.holds Try.pinned (OpenSpec.ofChange aesKeysWrong)

/- THE SECOND FORM. 'bulk': how many values and letters a reading holds, each counted each time it is reached (what is shared counts as often as it is met; a slice's spare places count too). A statement '..UptoSaid' is the law's where the arguments, and the package variables that the reading takes, are together of bulk at most 1048576: NARROWER than '..Said'. Prove '..Said' where nothing that the law and all that it calls make is longer than what came in: it says more and counts as full. Else prove '..UptoSaid'. A law counts once. -/
mutual
def uptoBulk {H : Type} : DataW H → Nat
  | .lit (.string bytes) => bytes.length + 1
  | .lit _ => 1
  | .nil => 1
  | .ptr d => uptoBulk d + 1
  | .slice elems spare => uptoBulkAll elems + uptoBulkAll spare + 1
  | .agg parts => uptoBulkAll parts + 1
  | .iface _ d => uptoBulk d + 1
  | .map entries => uptoBulkEntries entries + 1
  | .held _ => 1
def uptoBulkAll {H : Type} : List (DataW H) → Nat
  | [] => 0
  | d :: r => uptoBulk d + uptoBulkAll r
def uptoBulkEntries {H : Type} : List (Lit × DataW H) → Nat
  | [] => 0
  | x :: r => uptoBulkEntry x + uptoBulkEntries r
def uptoBulkEntry {H : Type} : Lit × DataW H → Nat
  | (.string bytes, d) => bytes.length + uptoBulk d + 1
  | (_, d) => uptoBulk d + 1
 end
def uptoSmall : (H : Type) → List (DataW H) → Bool := fun _ ds => decide (uptoBulkAll ds ≤ 1048576)
def OpenSpec.upto (s : _root_.Go.ChangeSpec) : _root_.Go.OpenSpec := { _root_.Go.OpenSpec.ofChange s with cond := some uptoSmall }

/-- 'gangwaylaw05.AesBlocks', WHERE WHAT IT READS IS OF BULK AT MOST 1048576: true; the input reads as it did. -/
def aesBlocksUptoRow : OpenClaim := { program := "yticgfjalikmniaa", sum := "6ba104869408c036f506702314412e8d41dc3d7ab5292d59afe83139b05cf166", func := "gangway/gangwaylaw05.AesBlocks", spec := "aesBlocks", apart := false, narrowed := true }
def AesBlocksUptoSaid : Prop := aesBlocksUptoRow.holds Try.pinned (OpenSpec.upto aesBlocksSpec)

/-- 'gangwaylaw05.AesApart', WHERE WHAT IT READS IS OF BULK AT MOST 1048576: true; the input reads as it did. -/
def aesApartUptoRow : OpenClaim := { program := "yticgfjalikmniaa", sum := "6ba104869408c036f506702314412e8d41dc3d7ab5292d59afe83139b05cf166", func := "gangway/gangwaylaw05.AesApart", spec := "aesApart", apart := false, narrowed := true }
def AesApartUptoSaid : Prop := aesApartUptoRow.holds Try.pinned (OpenSpec.upto aesApartSpec)

/-- 'gangwaylaw05.AesStreams', WHERE WHAT IT READS IS OF BULK AT MOST 1048576: true; the input reads as it did. -/
def aesStreamsUptoRow : OpenClaim := { program := "yticgfjalikmniaa", sum := "6ba104869408c036f506702314412e8d41dc3d7ab5292d59afe83139b05cf166", func := "gangway/gangwaylaw05.AesStreams", spec := "aesStreams", apart := false, narrowed := true }
def AesStreamsUptoSaid : Prop := aesStreamsUptoRow.holds Try.pinned (OpenSpec.upto aesStreamsSpec)

/-- 'gangwaylaw05.AesTwice', WHERE WHAT IT READS IS OF BULK AT MOST 1048576: true; the input reads as it did. -/
def aesTwiceUptoRow : OpenClaim := { program := "yticgfjalikmniaa", sum := "6ba104869408c036f506702314412e8d41dc3d7ab5292d59afe83139b05cf166", func := "gangway/gangwaylaw05.AesTwice", spec := "aesTwice", apart := false, narrowed := true }
def AesTwiceUptoSaid : Prop := aesTwiceUptoRow.holds Try.pinned (OpenSpec.upto aesTwiceSpec)

/-- 'gangwaylaw05.AesKeys', WHERE WHAT IT READS IS OF BULK AT MOST 1048576: true; the input reads as it did. -/
def aesKeysUptoRow : OpenClaim := { program := "yticgfjalikmniaa", sum := "6ba104869408c036f506702314412e8d41dc3d7ab5292d59afe83139b05cf166", func := "gangway/gangwaylaw05.AesKeys", spec := "aesKeys", apart := false, narrowed := true }
def AesKeysUptoSaid : Prop := aesKeysUptoRow.holds Try.pinned (OpenSpec.upto aesKeysSpec)

end Rows
end Go.Proofs.Yticgfjalikmniaa
