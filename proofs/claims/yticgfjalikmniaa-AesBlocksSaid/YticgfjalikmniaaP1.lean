/- Part of a proof: any block under any key is encrypted as the standard has it, as the document's answer tells (the law AesBlocks answers true at every input and leaves its arguments as they were). No further condition. -/
import Derived.Test.YticgfjalikmniaaVc2
import Derived.Test.YticgfjalikmniaaProg
namespace Go.Proofs.Yticgfjalikmniaa
set_option linter.unusedVariables false
set_option linter.unusedSimpArgs false
open Go.Vc Go.Proofs
abbrev u8K : Kd := .int .u8
abbrev a16 : Kd := .arr 16 (.int .u8)
abbrev a4 : Kd := .arr 4 (.int .u8)
abbrev a256 : Kd := .arr 256 (.int .u8)
abbrev a44 : Kd := .arr 44 a4
abbrev cipK : Kd := .st (.pair a256 (.pair a44 .unit))
def tyTab : TypeId → Option TyI
  | 3 => some (.kd1 (.int .i64) (.int .i64) 8)
  | 4 => some (.kd1 .bool .bool 1)
  | 5 => some (.kd1 (.int .u8) (.int .u8) 1)
  | 9 => some (.kd1 .str .str 16)
  | 22 => some (.kd1 (.arr 16 5) a16 16)
  | 23 => some (.kd1 (.arr 16 5) a16 16)
  | 25 => some (.ptr1 42)
  | 28 => some (.ptr1 50)
  | 32 => some (.kd1 (.int .u64) (.int .u64) 8)
  | 33 => some (.slice1 5)
  | 38 => some (.kd1 (.arr 256 5) a256 256)
  | 39 => some (.kd1 (.arr 4 5) a4 4)
  | 40 => some (.kd1 (.arr 44 39) a44 176)
  | 42 => some (.kd1 (.st [(38, 0, 256), (40, 256, 176)]) cipK 432)
  | 43 => some (.ptr1 39)
  | 46 => some (.ptr1 22)
  | 50 => some (.kd1 (.st [(38, 0, 256), (40, 256, 176)]) cipK 432)
  | 53 => some (.kd1 (.int .u64) (.int .u64) 8)
  | _ => none
theorem tysOK : TysOK Try.prog tyTab := by
  intro t i h
  unfold tyTab at h
  split at h <;> (try cases h)
  · exact TyOK.kd1 (td := .int .i64) Try.underlying3 (by kernel_rfl)
  · exact TyOK.kd1 (td := .bool) Try.underlying4 (by kernel_rfl)
  · exact TyOK.kd1 (td := .int .u8) Try.underlying5 (by kernel_rfl)
  · exact TyOK.kd1 (td := .str) Try.underlying9 (by kernel_rfl)
  · exact TyOK.kd1 (td := .arr 16 5) Try.underlying22 (by kernel_rfl)
  · exact TyOK.kd1 (td := .arr 16 5) Try.underlying23 (by kernel_rfl)
  · exact TyOK.ptr1 Try.underlying25 (by kernel_rfl)
  · exact TyOK.ptr1 Try.underlying28 (by kernel_rfl)
  · exact TyOK.kd1 (td := .int .u64) Try.underlying32 (by kernel_rfl)
  · exact TyOK.slice1 Try.underlying33 (by kernel_rfl)
  · exact TyOK.kd1 (td := .arr 256 5) Try.underlying38 (by kernel_rfl)
  · exact TyOK.kd1 (td := .arr 4 5) Try.underlying39 (by kernel_rfl)
  · exact TyOK.kd1 (td := .arr 44 39) Try.underlying40 (by kernel_rfl)
  · exact TyOK.kd1 (td := .st [(38, 0, 256), (40, 256, 176)]) ⟨_, Try.underlying42, by kernel_rfl, by kernel_rfl⟩ (by kernel_rfl)
  · exact TyOK.ptr1 Try.underlying43 (by kernel_rfl)
  · exact TyOK.ptr1 Try.underlying46 (by kernel_rfl)
  · exact TyOK.kd1 (td := .st [(38, 0, 256), (40, 256, 176)]) ⟨_, Try.underlying50, by kernel_rfl, by kernel_rfl⟩ (by kernel_rfl)
  · exact TyOK.kd1 (td := .int .u64) Try.underlying53 (by kernel_rfl)
end Go.Proofs.Yticgfjalikmniaa
