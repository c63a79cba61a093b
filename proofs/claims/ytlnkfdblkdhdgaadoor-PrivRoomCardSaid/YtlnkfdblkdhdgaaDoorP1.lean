/- Part of a proof: No more boxes are open than there is room for; what is acknowledged makes room for as many -/
import Derived.Test.YtlnkfdblkdhdgaaDoorVc3
import Derived.Test.YtlnkfdblkdhdgaaDoorProg
set_option linter.unusedVariables false
set_option linter.unusedSimpArgs false
set_option linter.unusedSectionVars false
namespace Go.Proofs.YtlnkfdblkdhdgaaDoor
open Go.Vc Go.Proofs
abbrev h32 : Kd := .arr 32 (.int .u8)
abbrev k16 : Kd := .arr 16 (.int .u8)
abbrev w64 : Kd := .arr 64 (.int .u32)
abbrev w8 : Kd := .arr 8 (.int .u32)
abbrev c64 : Kd := .arr 64 (.int .u8)
def hasT : TyI := ⟨.st [(163, 0, 8), (37, 8, 1), (83, 9, 1)], 10, 64, .agg [.pure w8 (Kd.dflt w8), .nilsl, .int .u64 0], none, false⟩
def tyTab : TypeId → Option TyI
  | 3 => some (.kd1 (.int .i64) (.int .i64) 8)
  | 4 => some (.kd1 .bool .bool 1)
  | 5 => some (.kd1 (.int .u8) (.int .u8) 1)
  | 9 => some (.kd1 .str .str 16)
  | 37 => some (.slice1 5)
  | 98 => some (.kd1 (.arr 32 5) h32 32)
  | 33 => some (.slice1 37)
  | 148 => some (.ptr1 204)
  | 28 => some (.kd1 (.arr 16 5) k16 16)
  | 83 => some (.kd1 (.int .u64) (.int .u64) 8)
  | 164 => some (.kd1 (.int .u64) (.int .u64) 8)
  | 160 => some (.kd1 (.int .u32) (.int .u32) 4)
  | 161 => some (.kd1 (.arr 64 160) w64 256)
  | 163 => some (.kd1 (.arr 8 160) w8 32)
  | 204 => some hasT
  | 206 => some (.kd1 (.arr 64 5) c64 64)
  | 256 => some (.slice1 160)
  | _ => none
theorem hasOK : TyOK Tryd.prog 204 hasT :=
  TyOK.of (td := .st [(163, 0, 8), (37, 8, 1), (83, 9, 1)]) (Z := .agg #[.int .u32 0, .int .u32 0, .int .u32 0, .int .u32 0, .int .u32 0, .int .u32 0, .int .u32 0, .int .u32 0, .slice none 0 0, .int .u64 0])
    ⟨_, Tryd.underlying204, by kernel_rfl, by kernel_rfl⟩ (by kernel_rfl)
    (fun c => .agg _ _ rfl (.agg _ _ (.cons (.pure w8 (Kd.dflt w8)) _ (List.replicate 8 (.int .u32 0)) [.slice none 0 0, .int .u64 0] (RC.ofKd (Kd.zero_reads w8)) (.cons .nilsl _ [.slice none 0 0] [.int .u64 0] .nilsl (.cons _ _ [.int .u64 0] [] (.int .u64 0) .nil)))))
    fun d hd => by cases hd
theorem tysOK : TysOK Tryd.prog tyTab := by
  intro t i h
  unfold tyTab at h
  split at h <;> (try cases h)
  · exact TyOK.kd1 (td := .int .i64) Tryd.underlying3 (by kernel_rfl)
  · exact TyOK.kd1 (td := .bool) Tryd.underlying4 (by kernel_rfl)
  · exact TyOK.kd1 (td := .int .u8) Tryd.underlying5 (by kernel_rfl)
  · exact TyOK.kd1 (td := .str) Tryd.underlying9 (by kernel_rfl)
  · exact TyOK.slice1 Tryd.underlying37 (by kernel_rfl)
  · exact TyOK.kd1 (td := .arr 32 5) Tryd.underlying98 (by kernel_rfl)
  · exact TyOK.slice1 Tryd.underlying33 (by kernel_rfl)
  · exact TyOK.ptr1 Tryd.underlying148 (by kernel_rfl)
  · exact TyOK.kd1 (td := .arr 16 5) Tryd.underlying28 (by kernel_rfl)
  · exact TyOK.kd1 (td := .int .u64) Tryd.underlying83 (by kernel_rfl)
  · exact TyOK.kd1 (td := .int .u64) Tryd.underlying164 (by kernel_rfl)
  · exact TyOK.kd1 (td := .int .u32) Tryd.underlying160 (by kernel_rfl)
  · exact TyOK.kd1 (td := .arr 64 160) Tryd.underlying161 (by kernel_rfl)
  · exact TyOK.kd1 (td := .arr 8 160) Tryd.underlying163 (by kernel_rfl)
  · exact hasOK
  · exact TyOK.kd1 (td := .arr 64 5) Tryd.underlying206 (by kernel_rfl)
  · exact TyOK.slice1 Tryd.underlying256 (by kernel_rfl)
theorem mixed : Tryd.prog.follows .mixedOrders = true := by kernel_rfl
def rnds : List UInt32 := [0x428a2f98, 0x71374491, 0xb5c0fbcf, 0xe9b5dba5, 0x3956c25b, 0x59f111f1, 0x923f82a4, 0xab1c5ed5,
  0xd807aa98, 0x12835b01, 0x243185be, 0x550c7dc3, 0x72be5d74, 0x80deb1fe, 0x9bdc06a7, 0xc19bf174,
  0xe49b69c1, 0xefbe4786, 0x0fc19dc6, 0x240ca1cc, 0x2de92c6f, 0x4a7484aa, 0x5cb0a9dc, 0x76f988da,
  0x983e5152, 0xa831c66d, 0xb00327c8, 0xbf597fc7, 0xc6e00bf3, 0xd5a79147, 0x06ca6351, 0x14292967,
  0x27b70a85, 0x2e1b2138, 0x4d2c6dfc, 0x53380d13, 0x650a7354, 0x766a0abb, 0x81c2c92e, 0x92722c85,
  0xa2bfe8a1, 0xa81a664b, 0xc24b8b70, 0xc76c51a3, 0xd192e819, 0xd6990624, 0xf40e3585, 0x106aa070,
  0x19a4c116, 0x1e376c08, 0x2748774c, 0x34b0bcb5, 0x391c0cb3, 0x4ed8aa4a, 0x5b9cca4f, 0x682e6ff3,
  0x748f82ee, 0x78a5636f, 0x84c87814, 0x8cc70208, 0x90befffa, 0xa4506ceb, 0xbef9a3f7, 0xc67178f2]
def stt0 : List UInt32 := [0x6a09e667, 0xbb67ae85, 0x3c6ef372, 0xa54ff53a, 0x510e527f, 0x9b05688c, 0x1f83d9ab, 0x5be0cd19]
def shaG : Nat → Option PD
  | 1 => some ⟨w8, stt0⟩
  | 2 => some ⟨w64, rnds⟩
  | _ => none
end Go.Proofs.YtlnkfdblkdhdgaaDoor
