/- Part of a proof: a statement about digests made piece by piece, or by two hashers -/
import Derived.Test.YticgfjalikmniaaDoorVc3
import Derived.Test.YticgfjalikmniaaDoorProg
namespace Go.Proofs.YticgfjalikmniaaDoor
set_option linter.unusedVariables false
set_option linter.unusedSimpArgs false
open Go.Vc Go.Proofs
abbrev h32 : Kd := .arr 32 (.int .u8)
abbrev w64 : Kd := .arr 64 (.int .u32)
abbrev w8 : Kd := .arr 8 (.int .u32)
abbrev c64 : Kd := .arr 64 (.int .u8)
/-- A hasher: its state, what is left, how many came. -/
def hasT : TyI := ⟨.st [(66, 0, 8), (22, 8, 1), (40, 9, 1)], 10, 64, .agg [.pure w8 (Kd.dflt w8), .nilsl, .int .u64 0], none⟩
def tyTab : TypeId → Option TyI
  | 3 => some (.kd1 (.int .i64) (.int .i64) 8)
  | 4 => some (.kd1 .bool .bool 1)
  | 5 => some (.kd1 (.int .u8) (.int .u8) 1)
  | 9 => some (.kd1 .str .str 16)
  | 22 => some (.slice1 5)
  | 25 => some (.kd1 (.arr 32 5) h32 32)
  | 28 => some (.slice1 22)
  | 29 => some (.ptr1 70)
  | 40 => some (.kd1 (.int .u64) (.int .u64) 8)
  | 57 => some (.kd1 (.int .u64) (.int .u64) 8)
  | 63 => some (.kd1 (.int .u32) (.int .u32) 4)
  | 64 => some (.kd1 (.arr 64 63) w64 256)
  | 66 => some (.kd1 (.arr 8 63) w8 32)
  | 70 => some hasT
  | 72 => some (.kd1 (.arr 64 5) c64 64)
  | 85 => some (.slice1 63)
  | _ => none
theorem hasOK : TyOK Tryd.prog 70 hasT :=
  TyOK.of (td := .st [(66, 0, 8), (22, 8, 1), (40, 9, 1)]) (Z := .agg #[.int .u32 0, .int .u32 0, .int .u32 0, .int .u32 0, .int .u32 0, .int .u32 0, .int .u32 0, .int .u32 0, .slice none 0 0, .int .u64 0])
    ⟨_, Tryd.underlying70, by kernel_rfl, by kernel_rfl⟩ (by kernel_rfl)
    (fun c => .agg _ _ rfl (.agg _ _ (.cons (.pure w8 (Kd.dflt w8)) _ (List.replicate 8 (.int .u32 0)) [.slice none 0 0, .int .u64 0] (RC.ofKd (Kd.zero_reads w8)) (.cons .nilsl _ [.slice none 0 0] [.int .u64 0] .nilsl (.cons _ _ [.int .u64 0] [] (.int .u64 0) .nil)))))
    fun d hd => by cases hd
theorem tysOK : TysOK Tryd.prog tyTab := by
  intro t i h
  unfold tyTab at h
  split at h <;> (try cases h)
  · exact TyOK.kd1 (td := .int .i64) Tryd.underlying3 (by kernel_rfl)
  · exact TyOK.kd1 (td := .bool) Tryd.underlying4 (by kernel_rfl)
  · exact TyOK.kd1 (td := .int .u8) Tryd.underlying5 (by kernel_rfl)
  · exact TyOK.kd1 (td := .str) Tryd.underlying9 (by kernel_rfl)
  · exact TyOK.slice1 Tryd.underlying22 (by kernel_rfl)
  · exact TyOK.kd1 (td := .arr 32 5) Tryd.underlying25 (by kernel_rfl)
  · exact TyOK.slice1 Tryd.underlying28 (by kernel_rfl)
  · exact TyOK.ptr1 Tryd.underlying29 (by kernel_rfl)
  · exact TyOK.kd1 (td := .int .u64) Tryd.underlying40 (by kernel_rfl)
  · exact TyOK.kd1 (td := .int .u64) Tryd.underlying57 (by kernel_rfl)
  · exact TyOK.kd1 (td := .int .u32) Tryd.underlying63 (by kernel_rfl)
  · exact TyOK.kd1 (td := .arr 64 63) Tryd.underlying64 (by kernel_rfl)
  · exact TyOK.kd1 (td := .arr 8 63) Tryd.underlying66 (by kernel_rfl)
  · exact hasOK
  · exact TyOK.kd1 (td := .arr 64 5) Tryd.underlying72 (by kernel_rfl)
  · exact TyOK.slice1 Tryd.underlying85 (by kernel_rfl)
theorem mixed : Tryd.prog.follows .mixedOrders = true := by kernel_rfl
/-- The numbers of the rounds, and a state at the start: package-level variables that are only read. -/
def rnds : List UInt32 := [0x428a2f98, 0x71374491, 0xb5c0fbcf, 0xe9b5dba5, 0x3956c25b, 0x59f111f1, 0x923f82a4, 0xab1c5ed5,
  0xd807aa98, 0x12835b01, 0x243185be, 0x550c7dc3, 0x72be5d74, 0x80deb1fe, 0x9bdc06a7, 0xc19bf174,
  0xe49b69c1, 0xefbe4786, 0x0fc19dc6, 0x240ca1cc, 0x2de92c6f, 0x4a7484aa, 0x5cb0a9dc, 0x76f988da,
  0x983e5152, 0xa831c66d, 0xb00327c8, 0xbf597fc7, 0xc6e00bf3, 0xd5a79147, 0x06ca6351, 0x14292967,
  0x27b70a85, 0x2e1b2138, 0x4d2c6dfc, 0x53380d13, 0x650a7354, 0x766a0abb, 0x81c2c92e, 0x92722c85,
  0xa2bfe8a1, 0xa81a664b, 0xc24b8b70, 0xc76c51a3, 0xd192e819, 0xd6990624, 0xf40e3585, 0x106aa070,
  0x19a4c116, 0x1e376c08, 0x2748774c, 0x34b0bcb5, 0x391c0cb3, 0x4ed8aa4a, 0x5b9cca4f, 0x682e6ff3,
  0x748f82ee, 0x78a5636f, 0x84c87814, 0x8cc70208, 0x90befffa, 0xa4506ceb, 0xbef9a3f7, 0xc67178f2]
def stt0 : List UInt32 := [0x6a09e667, 0xbb67ae85, 0x3c6ef372, 0xa54ff53a, 0x510e527f, 0x9b05688c, 0x1f83d9ab, 0x5be0cd19]
def shaG : Nat → Option PD
  | 0 => some ⟨w8, stt0⟩
  | 1 => some ⟨w64, rnds⟩
  | _ => none
end Go.Proofs.YticgfjalikmniaaDoor

namespace Go.Proofs.YticgfjalikmniaaDoor
open Go.Vc Go.Proofs
set_option linter.unusedSimpArgs false
set_option linter.unusedVariables false
set_option maxRecDepth 10000
set_option maxHeartbeats 4000000
-- SEM
/-- A word, turned to the left. -/
def rotL (x : UInt32) (n : Int) : UInt32 := shlT .u32 x (UInt64.ofInt n &&& 31).toNat ||| shrT .u32 x (32 - (UInt64.ofInt n &&& 31)).toNat
def kRotL : Con := Con.of [.v (.int .u32), .v (.int .i64)] (fun _ => []) (fun x => ⟨.int .u32 (rotL x.1 x.2.1), []⟩)
def cfgA : Cfg2 := { ty := tyTab, fn := fun _ => none, G := shaG, pin := [], eq := fun _ => none }
theorem cfgA_ok : CfgOK Tryd.prog cfgA := ⟨tysOK, (fun f s h => by cases h), (fun t d h => by cases h)⟩
theorem rotL_body (p : kRotL.Par) (hp : ∀ q ∈ kRotL.pre p, q) : BodyOK Tryd.prog cfgA Tryd.f57 (Tryd.f57.body.get rfl) kRotL p := by
  obtain ⟨(x : UInt32), (n : Int), u⟩ := p
  refine ⟨?_, Nat.le_refl _, rfl, rfl⟩
  show Tri _ _ _ (Code.seq _ (Code.seq _ (Code.seq _ _))) _
  refine Tri.at (by first | (simp only [Tryd.f57, kRotL, cfgA, tyTab, Con.start, go_sem, ↓reduceIte, reduceCtorEq, Nat.reduceLT, Nat.reduceSub, Nat.reduceAdd, Nat.reduceMul, Nat.reduceEqDiff, Nat.reduceBEq, Nat.reduceBNe, Nat.reduceLeDiff, Nat.reduceDiv, Nat.reduceMod, Nat.reducePow, List.reduceReplicate, UInt8.reduceOfNat, UInt32.reduceOfNat, UInt64.reduceOfNat, Int.reduceLE, Int.reduceLT, Int.reduceNeg, Int.reduceToNat, Int.reduceAdd, Int.reduceSub, Int.reduceMul, Int.reduceEq, UInt64.reduceToNat, UInt8.reduceToNat, UInt32.reduceToNat]; rfl) | rfl) ?_
  refine Tri.seq (Tri.regT (cfgA_ok.pins _) ?_)
  repeat (first | refine RunT.one (by first | exact wantedA_none rfl | (simp only [go_sem, Bool.true_beq, Bool.false_beq]; done) | (simp only [go_sem, Bool.true_beq, Bool.false_beq]; with_reducible rfl)) (by simp (maxSteps := 2000000) (disch := first | decide | omega | (simp only [List.length_append, List.length_cons, List.length_nil, List.length_take, List.length_drop]; omega)) only [Tryd.f57, kRotL, cfgA, tyTab, go_sem, ↓reduceIte, reduceCtorEq, Nat.reduceLT, Nat.reduceSub, Nat.reduceAdd, Nat.reduceMul, Nat.reduceEqDiff, Nat.reduceBEq, Nat.reduceBNe, Nat.reduceLeDiff, Nat.reduceDiv, Nat.reduceMod, Nat.reducePow, List.reduceReplicate, UInt8.reduceOfNat, UInt32.reduceOfNat, UInt64.reduceOfNat, Int.reduceLE, Int.reduceLT, Int.reduceNeg, Int.reduceToNat, Int.reduceAdd, Int.reduceSub, Int.reduceMul, Int.reduceEq, UInt64.reduceToNat, UInt8.reduceToNat, UInt32.reduceToNat]; rfl) (by simp only [go_sem, Nat.reduceBEq, Nat.reduceEqDiff, Nat.reduceAdd, ↓reduceIte, reduceCtorEq, List.reduceReplicate, List.replicate]; rfl) (by first | exact True.intro | (simp only [Obs, and_true, true_and]; omega) | (simp [Obs, AV.sizeL, AV.size, Kd.sz]; done) | (simp [Obs, AV.sizeL, AV.size, Kd.sz]; omega)) ?_ | refine RunT.not (by first | (simp only [go_sem, Bool.true_beq, Bool.false_beq]; done) | (simp only [go_sem, Bool.true_beq, Bool.false_beq]; with_reducible rfl)) (by simp only [go_sem, Nat.reduceBEq, Nat.reduceEqDiff, Nat.reduceAdd, ↓reduceIte, reduceCtorEq, List.reduceReplicate, List.replicate]; rfl) ?_)
  refine RunT.nil ?_
  refine Tri.seq (Tri.regT (cfgA_ok.pins _) ?_)
  repeat (first | refine RunT.one (by first | exact wantedA_none rfl | (simp only [go_sem, Bool.true_beq, Bool.false_beq]; done) | (simp only [go_sem, Bool.true_beq, Bool.false_beq]; with_reducible rfl)) (by simp (maxSteps := 2000000) (disch := first | decide | omega | (simp only [List.length_append, List.length_cons, List.length_nil, List.length_take, List.length_drop]; omega)) only [Tryd.f57, kRotL, cfgA, tyTab, go_sem, ↓reduceIte, reduceCtorEq, Nat.reduceLT, Nat.reduceSub, Nat.reduceAdd, Nat.reduceMul, Nat.reduceEqDiff, Nat.reduceBEq, Nat.reduceBNe, Nat.reduceLeDiff, Nat.reduceDiv, Nat.reduceMod, Nat.reducePow, List.reduceReplicate, UInt8.reduceOfNat, UInt32.reduceOfNat, UInt64.reduceOfNat, Int.reduceLE, Int.reduceLT, Int.reduceNeg, Int.reduceToNat, Int.reduceAdd, Int.reduceSub, Int.reduceMul, Int.reduceEq, UInt64.reduceToNat, UInt8.reduceToNat, UInt32.reduceToNat]; rfl) (by simp only [go_sem, Nat.reduceBEq, Nat.reduceEqDiff, Nat.reduceAdd, ↓reduceIte, reduceCtorEq, List.reduceReplicate, List.replicate]; rfl) (by first | exact True.intro | (simp only [Obs, and_true, true_and]; omega) | (simp [Obs, AV.sizeL, AV.size, Kd.sz]; done) | (simp [Obs, AV.sizeL, AV.size, Kd.sz]; omega)) ?_ | refine RunT.not (by first | (simp only [go_sem, Bool.true_beq, Bool.false_beq]; done) | (simp only [go_sem, Bool.true_beq, Bool.false_beq]; with_reducible rfl)) (by simp only [go_sem, Nat.reduceBEq, Nat.reduceEqDiff, Nat.reduceAdd, ↓reduceIte, reduceCtorEq, List.reduceReplicate, List.replicate]; rfl) ?_)
  refine RunT.nil ?_
  refine Tri.seq (Tri.regT (cfgA_ok.pins _) ?_)
  repeat (first | refine RunT.one (by first | exact wantedA_none rfl | (simp only [go_sem, Bool.true_beq, Bool.false_beq]; done) | (simp only [go_sem, Bool.true_beq, Bool.false_beq]; with_reducible rfl)) (by simp (maxSteps := 2000000) (disch := first | decide | omega | (simp only [List.length_append, List.length_cons, List.length_nil, List.length_take, List.length_drop]; omega)) only [Tryd.f57, kRotL, cfgA, tyTab, go_sem, ↓reduceIte, reduceCtorEq, Nat.reduceLT, Nat.reduceSub, Nat.reduceAdd, Nat.reduceMul, Nat.reduceEqDiff, Nat.reduceBEq, Nat.reduceBNe, Nat.reduceLeDiff, Nat.reduceDiv, Nat.reduceMod, Nat.reducePow, List.reduceReplicate, UInt8.reduceOfNat, UInt32.reduceOfNat, UInt64.reduceOfNat, Int.reduceLE, Int.reduceLT, Int.reduceNeg, Int.reduceToNat, Int.reduceAdd, Int.reduceSub, Int.reduceMul, Int.reduceEq, UInt64.reduceToNat, UInt8.reduceToNat, UInt32.reduceToNat]; rfl) (by simp only [go_sem, Nat.reduceBEq, Nat.reduceEqDiff, Nat.reduceAdd, ↓reduceIte, reduceCtorEq, List.reduceReplicate, List.replicate]; rfl) (by first | exact True.intro | (simp only [Obs, and_true, true_and]; omega) | (simp [Obs, AV.sizeL, AV.size, Kd.sz]; done) | (simp [Obs, AV.sizeL, AV.size, Kd.sz]; omega)) ?_ | refine RunT.not (by first | (simp only [go_sem, Bool.true_beq, Bool.false_beq]; done) | (simp only [go_sem, Bool.true_beq, Bool.false_beq]; with_reducible rfl)) (by simp only [go_sem, Nat.reduceBEq, Nat.reduceEqDiff, Nat.reduceAdd, ↓reduceIte, reduceCtorEq, List.reduceReplicate, List.replicate]; rfl) ?_)
  refine RunT.nil ?_
  refine Tri.ret ?_
  refine Con.fin (.inl rfl) (by simp only [Tryd.f57, cfgA, tyTab, resA, resA1, go_sem, ↓reduceIte, reduceCtorEq, Nat.reduceLT, Nat.reduceSub, Nat.reduceAdd, Nat.reduceMul, Nat.reduceEqDiff, Nat.reduceBEq, Nat.reduceBNe, Nat.reduceLeDiff, Nat.reduceDiv, Nat.reduceMod, Nat.reducePow, List.reduceReplicate, UInt8.reduceOfNat, UInt32.reduceOfNat, UInt64.reduceOfNat, Int.reduceLE, Int.reduceLT, Int.reduceNeg, Int.reduceToNat, Int.reduceAdd, Int.reduceSub, Int.reduceMul, Int.reduceEq, UInt64.reduceToNat, UInt8.reduceToNat, UInt32.reduceToNat]; rfl) (by simp only [Obs, and_true, true_and]) rfl trivial rfl rfl
theorem rotL_sum : FSumOK Tryd.prog cfgA.G 57 kRotL.sum := Con.sumOK cfgA_ok kRotL Tryd.func57 rfl rfl (Con.of_inv _ _ _) rotL_body
end Go.Proofs.YticgfjalikmniaaDoor

namespace Go.Proofs.YticgfjalikmniaaDoor
open Go.Vc Go.Proofs
set_option linter.unusedSimpArgs false
set_option linter.unusedVariables false
set_option maxRecDepth 10000
set_option maxHeartbeats 4000000
-- SEM
/-- A word, turned by three numbers. -/
def turnS (x : UInt32) (a b c : Int) (sh : Bool) : UInt32 :=
  rotL x (IntKind.i64.wrap (0 - a)) ^^^ rotL x (IntKind.i64.wrap (0 - b)) ^^^ (if sh = true then shrT .u32 x c.toNat else rotL x (IntKind.i64.wrap (0 - c)))
def kTurn : Con := Con.of [.v (.int .u32), .v (.int .i64), .v (.int .i64), .v (.int .i64), .v .bool] (fun x => [0 ≤ toI .i64 x.2.2.2.1]) (fun x => ⟨.int .u32 (turnS x.1 x.2.1 x.2.2.1 x.2.2.2.1 x.2.2.2.2.1), []⟩)
def cfgB : Cfg2 := { ty := tyTab, fn := fun | 57 => some kRotL.sum | _ => none, G := shaG, pin := [], eq := fun _ => none }
theorem cfgB_ok : CfgOK Tryd.prog cfgB := ⟨tysOK, (fun f s h => by
  simp only [cfgB] at h
  split at h
  · injection h with h; subst h; exact rotL_sum
  · cases h), (fun t d h => by cases h)⟩
theorem turn_body (p : kTurn.Par) (hp : ∀ q ∈ kTurn.pre p, q) : BodyOK Tryd.prog cfgB Tryd.f53 (Tryd.f53.body.get rfl) kTurn p := by
  obtain ⟨(x : UInt32), (a : Int), (b : Int), (c : Int), (sh : Bool), u⟩ := p
  obtain ⟨hc0, _⟩ := Obs.of hp
  replace hc0 : 0 ≤ c := hc0
  refine ⟨?_, Nat.le_refl _, rfl, rfl⟩
  show Tri _ _ _ (Code.seq _ (Code.seq _ (Code.seq (Code.seq _ (Code.cond _ _ _)) (Code.seq _ _)))) _
  refine Tri.at (by first | (simp only [Tryd.f53, kTurn, kRotL, cfgB, tyTab, Con.start, go_sem, ↓reduceIte, reduceCtorEq, Nat.reduceLT, Nat.reduceSub, Nat.reduceAdd, Nat.reduceMul, Nat.reduceEqDiff, Nat.reduceBEq, Nat.reduceBNe, Nat.reduceLeDiff, Nat.reduceDiv, Nat.reduceMod, Nat.reducePow, List.reduceReplicate, UInt8.reduceOfNat, UInt32.reduceOfNat, UInt64.reduceOfNat, Int.reduceLE, Int.reduceLT, Int.reduceNeg, Int.reduceToNat, Int.reduceAdd, Int.reduceSub, Int.reduceMul, Int.reduceEq, UInt64.reduceToNat, UInt8.reduceToNat, UInt32.reduceToNat]; rfl) | rfl) ?_
  refine Tri.seq (Tri.regT (cfgB_ok.pins _) ?_)
  repeat (first | refine RunT.one (by first | exact wantedA_none rfl | (simp only [go_sem, Bool.true_beq, Bool.false_beq]; done) | (simp only [go_sem, Bool.true_beq, Bool.false_beq]; with_reducible rfl)) (by simp (maxSteps := 2000000) (disch := first | decide | omega | (simp only [List.length_append, List.length_cons, List.length_nil, List.length_take, List.length_drop]; omega)) only [Tryd.f53, kTurn, kRotL, cfgB, tyTab, go_sem, ↓reduceIte, reduceCtorEq, Nat.reduceLT, Nat.reduceSub, Nat.reduceAdd, Nat.reduceMul, Nat.reduceEqDiff, Nat.reduceBEq, Nat.reduceBNe, Nat.reduceLeDiff, Nat.reduceDiv, Nat.reduceMod, Nat.reducePow, List.reduceReplicate, UInt8.reduceOfNat, UInt32.reduceOfNat, UInt64.reduceOfNat, Int.reduceLE, Int.reduceLT, Int.reduceNeg, Int.reduceToNat, Int.reduceAdd, Int.reduceSub, Int.reduceMul, Int.reduceEq, UInt64.reduceToNat, UInt8.reduceToNat, UInt32.reduceToNat]; rfl) (by simp only [go_sem, Nat.reduceBEq, Nat.reduceEqDiff, Nat.reduceAdd, ↓reduceIte, reduceCtorEq, List.reduceReplicate, List.replicate]; rfl) (by first | exact True.intro | (simp only [Obs, and_true, true_and]; omega) | (simp [Obs, AV.sizeL, AV.size, Kd.sz]; done) | (simp [Obs, AV.sizeL, AV.size, Kd.sz]; omega)) ?_ | refine RunT.not (by first | (simp only [go_sem, Bool.true_beq, Bool.false_beq]; done) | (simp only [go_sem, Bool.true_beq, Bool.false_beq]; with_reducible rfl)) (by simp only [go_sem, Nat.reduceBEq, Nat.reduceEqDiff, Nat.reduceAdd, ↓reduceIte, reduceCtorEq, List.reduceReplicate, List.replicate]; rfl) ?_)
  refine RunT.nil ?_
  refine Tri.seq (Tri.regT (cfgB_ok.pins _) ?_)
  repeat (first | refine RunT.one (by first | exact wantedA_none rfl | (simp only [go_sem, Bool.true_beq, Bool.false_beq]; done) | (simp only [go_sem, Bool.true_beq, Bool.false_beq]; with_reducible rfl)) (by simp (maxSteps := 2000000) (disch := first | decide | omega | (simp only [List.length_append, List.length_cons, List.length_nil, List.length_take, List.length_drop]; omega)) only [Tryd.f53, kTurn, kRotL, cfgB, tyTab, go_sem, ↓reduceIte, reduceCtorEq, Nat.reduceLT, Nat.reduceSub, Nat.reduceAdd, Nat.reduceMul, Nat.reduceEqDiff, Nat.reduceBEq, Nat.reduceBNe, Nat.reduceLeDiff, Nat.reduceDiv, Nat.reduceMod, Nat.reducePow, List.reduceReplicate, UInt8.reduceOfNat, UInt32.reduceOfNat, UInt64.reduceOfNat, Int.reduceLE, Int.reduceLT, Int.reduceNeg, Int.reduceToNat, Int.reduceAdd, Int.reduceSub, Int.reduceMul, Int.reduceEq, UInt64.reduceToNat, UInt8.reduceToNat, UInt32.reduceToNat]; rfl) (by simp only [go_sem, Nat.reduceBEq, Nat.reduceEqDiff, Nat.reduceAdd, ↓reduceIte, reduceCtorEq, List.reduceReplicate, List.replicate]; rfl) (by first | exact True.intro | (simp only [Obs, and_true, true_and]; omega) | (simp [Obs, AV.sizeL, AV.size, Kd.sz]; done) | (simp [Obs, AV.sizeL, AV.size, Kd.sz]; omega)) ?_ | refine RunT.not (by first | (simp only [go_sem, Bool.true_beq, Bool.false_beq]; done) | (simp only [go_sem, Bool.true_beq, Bool.false_beq]; with_reducible rfl)) (by simp only [go_sem, Nat.reduceBEq, Nat.reduceEqDiff, Nat.reduceAdd, ↓reduceIte, reduceCtorEq, List.reduceReplicate, List.replicate]; rfl) ?_)
  refine RunT.nil ?_
  refine Tri.seq (Tri.seq ?_)
  refine (Tri.rgnT (cfgB_ok.pins _) ?_)
  repeat (first | refine RunT.one (by first | exact wantedA_none rfl | (simp only [go_sem, Bool.true_beq, Bool.false_beq]; done) | (simp only [go_sem, Bool.true_beq, Bool.false_beq]; with_reducible rfl)) (by simp (maxSteps := 2000000) (disch := first | decide | omega | (simp only [List.length_append, List.length_cons, List.length_nil, List.length_take, List.length_drop]; omega)) only [Tryd.f53, kTurn, kRotL, cfgB, tyTab, go_sem, ↓reduceIte, reduceCtorEq, Nat.reduceLT, Nat.reduceSub, Nat.reduceAdd, Nat.reduceMul, Nat.reduceEqDiff, Nat.reduceBEq, Nat.reduceBNe, Nat.reduceLeDiff, Nat.reduceDiv, Nat.reduceMod, Nat.reducePow, List.reduceReplicate, UInt8.reduceOfNat, UInt32.reduceOfNat, UInt64.reduceOfNat, Int.reduceLE, Int.reduceLT, Int.reduceNeg, Int.reduceToNat, Int.reduceAdd, Int.reduceSub, Int.reduceMul, Int.reduceEq, UInt64.reduceToNat, UInt8.reduceToNat, UInt32.reduceToNat]; rfl) (by simp only [go_sem, Nat.reduceBEq, Nat.reduceEqDiff, Nat.reduceAdd, ↓reduceIte, reduceCtorEq, List.reduceReplicate, List.replicate]; rfl) (by first | exact True.intro | (simp only [Obs, and_true, true_and]; omega) | (simp [Obs, AV.sizeL, AV.size, Kd.sz]; done) | (simp [Obs, AV.sizeL, AV.size, Kd.sz]; omega)) ?_ | refine RunT.not (by first | (simp only [go_sem, Bool.true_beq, Bool.false_beq]; done) | (simp only [go_sem, Bool.true_beq, Bool.false_beq]; with_reducible rfl)) (by simp only [go_sem, Nat.reduceBEq, Nat.reduceEqDiff, Nat.reduceAdd, ↓reduceIte, reduceCtorEq, List.reduceReplicate, List.replicate]; rfl) ?_)
  refine RunT.nil ?_
  try simp only [InBlock, Then]
  refine Tri.split (by simp only [AS.ev, go_sem, ↓reduceIte, reduceCtorEq, Nat.reduceLT, Nat.reduceSub, Nat.reduceAdd, Nat.reduceMul, Nat.reduceEqDiff, Nat.reduceBEq, Nat.reduceBNe, Nat.reduceLeDiff, Nat.reduceDiv, Nat.reduceMod, Nat.reducePow, List.reduceReplicate, UInt8.reduceOfNat, UInt32.reduceOfNat, UInt64.reduceOfNat, Int.reduceLE, Int.reduceLT, Int.reduceNeg, Int.reduceToNat, Int.reduceAdd, Int.reduceSub, Int.reduceMul, Int.reduceEq, UInt64.reduceToNat, UInt8.reduceToNat, UInt32.reduceToNat]; rfl) (fun hs => ?_) (fun hs => ?_)
  · subst hs
    refine (Tri.rgnT (cfgB_ok.pins _) ?_)
    repeat (first | refine RunT.one (by first | exact wantedA_none rfl | (simp only [go_sem, Bool.true_beq, Bool.false_beq]; done) | (simp only [go_sem, Bool.true_beq, Bool.false_beq]; with_reducible rfl)) (by simp (maxSteps := 2000000) (disch := first | decide | omega | (simp only [List.length_append, List.length_cons, List.length_nil, List.length_take, List.length_drop]; omega)) only [Tryd.f53, kTurn, kRotL, cfgB, tyTab, go_sem, ↓reduceIte, reduceCtorEq, Nat.reduceLT, Nat.reduceSub, Nat.reduceAdd, Nat.reduceMul, Nat.reduceEqDiff, Nat.reduceBEq, Nat.reduceBNe, Nat.reduceLeDiff, Nat.reduceDiv, Nat.reduceMod, Nat.reducePow, List.reduceReplicate, UInt8.reduceOfNat, UInt32.reduceOfNat, UInt64.reduceOfNat, Int.reduceLE, Int.reduceLT, Int.reduceNeg, Int.reduceToNat, Int.reduceAdd, Int.reduceSub, Int.reduceMul, Int.reduceEq, UInt64.reduceToNat, UInt8.reduceToNat, UInt32.reduceToNat]; rfl) (by simp only [go_sem, Nat.reduceBEq, Nat.reduceEqDiff, Nat.reduceAdd, ↓reduceIte, reduceCtorEq, List.reduceReplicate, List.replicate]; rfl) (by first | exact True.intro | (simp only [Obs, and_true, true_and]; omega) | (simp [Obs, AV.sizeL, AV.size, Kd.sz]; done) | (simp [Obs, AV.sizeL, AV.size, Kd.sz]; omega)) ?_ | refine RunT.not (by first | (simp only [go_sem, Bool.true_beq, Bool.false_beq]; done) | (simp only [go_sem, Bool.true_beq, Bool.false_beq]; with_reducible rfl)) (by simp only [go_sem, Nat.reduceBEq, Nat.reduceEqDiff, Nat.reduceAdd, ↓reduceIte, reduceCtorEq, List.reduceReplicate, List.replicate]; rfl) ?_)
    refine RunT.nil ?_
    try simp only [InBlock, Then]
    refine Tri.seq (Tri.regT (cfgB_ok.pins _) ?_)
    repeat (first | refine RunT.one (by first | exact wantedA_none rfl | (simp only [go_sem, Bool.true_beq, Bool.false_beq]; done) | (simp only [go_sem, Bool.true_beq, Bool.false_beq]; with_reducible rfl)) (by simp (maxSteps := 2000000) (disch := first | decide | omega | (simp only [List.length_append, List.length_cons, List.length_nil, List.length_take, List.length_drop]; omega)) only [Tryd.f53, kTurn, kRotL, cfgB, tyTab, go_sem, ↓reduceIte, reduceCtorEq, Nat.reduceLT, Nat.reduceSub, Nat.reduceAdd, Nat.reduceMul, Nat.reduceEqDiff, Nat.reduceBEq, Nat.reduceBNe, Nat.reduceLeDiff, Nat.reduceDiv, Nat.reduceMod, Nat.reducePow, List.reduceReplicate, UInt8.reduceOfNat, UInt32.reduceOfNat, UInt64.reduceOfNat, Int.reduceLE, Int.reduceLT, Int.reduceNeg, Int.reduceToNat, Int.reduceAdd, Int.reduceSub, Int.reduceMul, Int.reduceEq, UInt64.reduceToNat, UInt8.reduceToNat, UInt32.reduceToNat]; rfl) (by simp only [go_sem, Nat.reduceBEq, Nat.reduceEqDiff, Nat.reduceAdd, ↓reduceIte, reduceCtorEq, List.reduceReplicate, List.replicate]; rfl) (by first | exact True.intro | (simp only [Obs, and_true, true_and]; omega) | (simp [Obs, AV.sizeL, AV.size, Kd.sz]; done) | (simp [Obs, AV.sizeL, AV.size, Kd.sz]; omega)) ?_ | refine RunT.not (by first | (simp only [go_sem, Bool.true_beq, Bool.false_beq]; done) | (simp only [go_sem, Bool.true_beq, Bool.false_beq]; with_reducible rfl)) (by simp only [go_sem, Nat.reduceBEq, Nat.reduceEqDiff, Nat.reduceAdd, ↓reduceIte, reduceCtorEq, List.reduceReplicate, List.replicate]; rfl) ?_)
    refine RunT.nil ?_
    refine Tri.ret ?_
    refine Con.fin (.inl rfl) (by simp only [Tryd.f53, cfgB, tyTab, resA, resA1, go_sem, ↓reduceIte, reduceCtorEq, Nat.reduceLT, Nat.reduceSub, Nat.reduceAdd, Nat.reduceMul, Nat.reduceEqDiff, Nat.reduceBEq, Nat.reduceBNe, Nat.reduceLeDiff, Nat.reduceDiv, Nat.reduceMod, Nat.reducePow, List.reduceReplicate, UInt8.reduceOfNat, UInt32.reduceOfNat, UInt64.reduceOfNat, Int.reduceLE, Int.reduceLT, Int.reduceNeg, Int.reduceToNat, Int.reduceAdd, Int.reduceSub, Int.reduceMul, Int.reduceEq, UInt64.reduceToNat, UInt8.reduceToNat, UInt32.reduceToNat]; rfl) (by simp only [Obs, and_true, true_and]) (by simp only [kTurn, Con.of, turnS, if_true]; rfl) trivial rfl rfl
  · subst hs
    refine Tri.skp ?_
    refine Tri.seq (Tri.regT (cfgB_ok.pins _) ?_)
    repeat (first | refine RunT.one (by first | exact wantedA_none rfl | (simp only [go_sem, Bool.true_beq, Bool.false_beq]; done) | (simp only [go_sem, Bool.true_beq, Bool.false_beq]; with_reducible rfl)) (by simp (maxSteps := 2000000) (disch := first | decide | omega | (simp only [List.length_append, List.length_cons, List.length_nil, List.length_take, List.length_drop]; omega)) only [Tryd.f53, kTurn, kRotL, cfgB, tyTab, go_sem, ↓reduceIte, reduceCtorEq, Nat.reduceLT, Nat.reduceSub, Nat.reduceAdd, Nat.reduceMul, Nat.reduceEqDiff, Nat.reduceBEq, Nat.reduceBNe, Nat.reduceLeDiff, Nat.reduceDiv, Nat.reduceMod, Nat.reducePow, List.reduceReplicate, UInt8.reduceOfNat, UInt32.reduceOfNat, UInt64.reduceOfNat, Int.reduceLE, Int.reduceLT, Int.reduceNeg, Int.reduceToNat, Int.reduceAdd, Int.reduceSub, Int.reduceMul, Int.reduceEq, UInt64.reduceToNat, UInt8.reduceToNat, UInt32.reduceToNat]; rfl) (by simp only [go_sem, Nat.reduceBEq, Nat.reduceEqDiff, Nat.reduceAdd, ↓reduceIte, reduceCtorEq, List.reduceReplicate, List.replicate]; rfl) (by first | exact True.intro | (simp only [Obs, and_true, true_and]; omega) | (simp [Obs, AV.sizeL, AV.size, Kd.sz]; done) | (simp [Obs, AV.sizeL, AV.size, Kd.sz]; omega)) ?_ | refine RunT.not (by first | (simp only [go_sem, Bool.true_beq, Bool.false_beq]; done) | (simp only [go_sem, Bool.true_beq, Bool.false_beq]; with_reducible rfl)) (by simp only [go_sem, Nat.reduceBEq, Nat.reduceEqDiff, Nat.reduceAdd, ↓reduceIte, reduceCtorEq, List.reduceReplicate, List.replicate]; rfl) ?_)
    refine RunT.nil ?_
    refine Tri.ret ?_
    refine Con.fin (.inl rfl) (by simp only [Tryd.f53, cfgB, tyTab, resA, resA1, go_sem, ↓reduceIte, reduceCtorEq, Nat.reduceLT, Nat.reduceSub, Nat.reduceAdd, Nat.reduceMul, Nat.reduceEqDiff, Nat.reduceBEq, Nat.reduceBNe, Nat.reduceLeDiff, Nat.reduceDiv, Nat.reduceMod, Nat.reducePow, List.reduceReplicate, UInt8.reduceOfNat, UInt32.reduceOfNat, UInt64.reduceOfNat, Int.reduceLE, Int.reduceLT, Int.reduceNeg, Int.reduceToNat, Int.reduceAdd, Int.reduceSub, Int.reduceMul, Int.reduceEq, UInt64.reduceToNat, UInt8.reduceToNat, UInt32.reduceToNat]; rfl) (by simp only [Obs, and_true, true_and]) (by simp only [kTurn, Con.of, turnS]; rfl) trivial rfl rfl
theorem turn_sum : FSumOK Tryd.prog cfgB.G 53 kTurn.sum := Con.sumOK cfgB_ok kTurn Tryd.func53 rfl rfl (Con.of_inv _ _ _) turn_body
end Go.Proofs.YticgfjalikmniaaDoor

namespace Go.Proofs.YticgfjalikmniaaDoor
open Go.Vc Go.Proofs
set_option linter.unusedSimpArgs false
set_option linter.unusedVariables false
set_option maxRecDepth 10000
set_option maxHeartbeats 4000000
-- SEM
/-- A word of the chunk, byte by byte. -/
def wbI (p : List UInt8) (w : List UInt32) (i : Nat) : Nat → List UInt32
  | 0 => w
  | k + 1 => (wbI p w i k).set i (((wbI p w i k).getD i 0) <<< 8 ||| (p.getD (4 * i + k) 0).toUInt32)
def wI (p : List UInt8) : Nat → List UInt32
  | 0 => Kd.dflt w64
  | i + 1 => if i < 16 then wbI p (wI p i) i 4 else
    (wI p i).set i (turnS ((wI p i).getD (i - 2) 0) 17 19 10 true + (wI p i).getD (i - 7) 0 + turnS ((wI p i).getD (i - 15) 0) 7 18 3 true + (wI p i).getD (i - 16) 0)
def cpS (s : List UInt32) : List UInt32 := List.take 1 s ++ List.take (min (List.take 7 s).length 7) (List.take 7 s) ++ List.drop (1 + (List.take (min (List.take 7 s).length 7) (List.take 7 s)).length) s
/-- A round. -/
def rnS (s : List UInt32) (k w : UInt32) : List UInt32 :=
  let a := s.getD 0 0
  let e := s.getD 4 0
  let choose := (e &&& s.getD 5 0) ^^^ (~~~e &&& s.getD 6 0)
  let most := (a &&& s.getD 1 0) ^^^ (a &&& s.getD 2 0) ^^^ (s.getD 1 0 &&& s.getD 2 0)
  let t := s.getD 7 0 + turnS e 6 11 25 false + choose + k + w
  let c := cpS s
  let d := c.set 4 (c.getD 4 0 + t)
  d.set 0 (t + turnS a 2 13 22 false + most)
def rnI (s : List UInt32) (K w : List UInt32) : Nat → List UInt32
  | 0 => s
  | i + 1 => rnS (rnI s K w i) (K.getD i 0) (w.getD i 0)
def fiI (st s : List UInt32) : Nat → List UInt32
  | 0 => s
  | i + 1 => (fiI st s i).set i ((fiI st s i).getD i 0 + st.getD i 0)
def mixS (st : List UInt32) (p : List UInt8) : List UInt32 := fiI st (rnI st rnds (wI p 64) 64) 8
def kMix : Con := Con.of [.v w8, .v c64] (fun x => [List.length (α := UInt32) x.1 = 8]) (fun x => ⟨.pure w8 (mixS x.1 x.2.1), []⟩)
def cfgC : Cfg2 := { ty := tyTab, fn := fun | 53 => some kTurn.sum | _ => none, G := shaG, pin := [], eq := fun _ => none }
theorem cfgC_ok : CfgOK Tryd.prog cfgC := ⟨tysOK, (fun f s h => by
  simp only [cfgC] at h
  split at h
  · injection h with h; subst h; exact turn_sum
  · cases h), (fun t d h => by cases h)⟩
theorem mix_body (p : kMix.Par) (hp : ∀ q ∈ kMix.pre p, q) : BodyOK Tryd.prog cfgC Tryd.f41 (Tryd.f41.body.get rfl) kMix p := by
  obtain ⟨(st : List UInt32), (p : List UInt8), u⟩ := p
  obtain ⟨hst, _⟩ := Obs.of hp
  replace hst : st.length = 8 := hst
  refine ⟨?_, Nat.zero_le _, rfl, rfl⟩
  show Tri _ _ _ (Code.seq _ (Code.seq _ (Code.seq (Code.seq _ (Code.block _ (Code.loop (Code.seq _ (Code.seq (Code.cond _ _ _) (Code.seq (Code.block _ (Code.seq _ (Code.seq (Code.seq _ (Code.cond _ (Code.seq (Code.seq _ (Code.block _ (Code.loop (Code.seq _ (Code.seq (Code.cond _ _ _) (Code.seq (Code.block _ (Code.seq _ _)) _)))))) _) _)) _))) _)))))) (Code.seq _ (Code.seq (Code.seq _ (Code.block _ (Code.loop (Code.seq _ (Code.seq (Code.cond _ _ _) (Code.seq (Code.block _ (Code.seq _ (Code.seq _ (Code.seq _ (Code.seq _ (Code.seq _ (Code.seq _ (Code.seq _ _)))))))) _)))))) (Code.seq (Code.seq _ (Code.block _ (Code.loop (Code.seq _ (Code.seq (Code.cond _ _ _) (Code.seq (Code.block _ (Code.seq _ _)) _)))))) (Code.seq _ _))))))) _
  refine Tri.at (by first | (simp only [Tryd.f41, kMix, kTurn, cfgC, tyTab, shaG, Con.start, go_sem, ↓reduceIte, reduceCtorEq, Nat.reduceLT, Nat.reduceSub, Nat.reduceAdd, Nat.reduceMul, Nat.reduceEqDiff, Nat.reduceBEq, Nat.reduceBNe, Nat.reduceLeDiff, Nat.reduceDiv, Nat.reduceMod, Nat.reducePow, List.reduceReplicate, UInt8.reduceOfNat, UInt32.reduceOfNat, UInt64.reduceOfNat, Int.reduceLE, Int.reduceLT, Int.reduceNeg, Int.reduceToNat, Int.reduceAdd, Int.reduceSub, Int.reduceMul, Int.reduceEq, UInt64.reduceToNat, UInt8.reduceToNat, UInt32.reduceToNat]; rfl) | rfl) ?_
  refine Tri.seq (Tri.regT (cfgC_ok.pins _) ?_)
  repeat (first | refine RunT.one (by first | exact wantedA_none rfl | (simp only [go_sem, Bool.true_beq, Bool.false_beq]; done) | (simp only [go_sem, Bool.true_beq, Bool.false_beq]; with_reducible rfl)) (by simp (maxSteps := 2000000) (disch := first | decide | omega | (simp only [List.length_append, List.length_cons, List.length_nil, List.length_take, List.length_drop]; omega)) only [Tryd.f41, kMix, kTurn, cfgC, tyTab, shaG, go_sem, ↓reduceIte, reduceCtorEq, Nat.reduceLT, Nat.reduceSub, Nat.reduceAdd, Nat.reduceMul, Nat.reduceEqDiff, Nat.reduceBEq, Nat.reduceBNe, Nat.reduceLeDiff, Nat.reduceDiv, Nat.reduceMod, Nat.reducePow, List.reduceReplicate, UInt8.reduceOfNat, UInt32.reduceOfNat, UInt64.reduceOfNat, Int.reduceLE, Int.reduceLT, Int.reduceNeg, Int.reduceToNat, Int.reduceAdd, Int.reduceSub, Int.reduceMul, Int.reduceEq, UInt64.reduceToNat, UInt8.reduceToNat, UInt32.reduceToNat]; rfl) (by simp only [go_sem, Nat.reduceBEq, Nat.reduceEqDiff, Nat.reduceAdd, ↓reduceIte, reduceCtorEq, List.reduceReplicate, List.replicate]; rfl) (by first | exact True.intro | (simp only [Obs, and_true, true_and]; omega) | (simp [Obs, AV.sizeL, AV.size, Kd.sz]; done) | (simp [Obs, AV.sizeL, AV.size, Kd.sz]; omega)) ?_ | refine RunT.not (by first | (simp only [go_sem, Bool.true_beq, Bool.false_beq]; done) | (simp only [go_sem, Bool.true_beq, Bool.false_beq]; with_reducible rfl)) (by simp only [go_sem, Nat.reduceBEq, Nat.reduceEqDiff, Nat.reduceAdd, ↓reduceIte, reduceCtorEq, List.reduceReplicate, List.replicate]; rfl) ?_)
  refine RunT.nil ?_
  refine Tri.seq (Tri.regT (cfgC_ok.pins _) ?_)
  repeat (first | refine RunT.one (by first | exact wantedA_none rfl | (simp only [go_sem, Bool.true_beq, Bool.false_beq]; done) | (simp only [go_sem, Bool.true_beq, Bool.false_beq]; with_reducible rfl)) (by simp (maxSteps := 2000000) (disch := first | decide | omega | (simp only [List.length_append, List.length_cons, List.length_nil, List.length_take, List.length_drop]; omega)) only [Tryd.f41, kMix, kTurn, cfgC, tyTab, shaG, go_sem, ↓reduceIte, reduceCtorEq, Nat.reduceLT, Nat.reduceSub, Nat.reduceAdd, Nat.reduceMul, Nat.reduceEqDiff, Nat.reduceBEq, Nat.reduceBNe, Nat.reduceLeDiff, Nat.reduceDiv, Nat.reduceMod, Nat.reducePow, List.reduceReplicate, UInt8.reduceOfNat, UInt32.reduceOfNat, UInt64.reduceOfNat, Int.reduceLE, Int.reduceLT, Int.reduceNeg, Int.reduceToNat, Int.reduceAdd, Int.reduceSub, Int.reduceMul, Int.reduceEq, UInt64.reduceToNat, UInt8.reduceToNat, UInt32.reduceToNat]; rfl) (by simp only [go_sem, Nat.reduceBEq, Nat.reduceEqDiff, Nat.reduceAdd, ↓reduceIte, reduceCtorEq, List.reduceReplicate, List.replicate]; rfl) (by first | exact True.intro | (simp only [Obs, and_true, true_and]; omega) | (simp [Obs, AV.sizeL, AV.size, Kd.sz]; done) | (simp [Obs, AV.sizeL, AV.size, Kd.sz]; omega)) ?_ | refine RunT.not (by first | (simp only [go_sem, Bool.true_beq, Bool.false_beq]; done) | (simp only [go_sem, Bool.true_beq, Bool.false_beq]; with_reducible rfl)) (by simp only [go_sem, Nat.reduceBEq, Nat.reduceEqDiff, Nat.reduceAdd, ↓reduceIte, reduceCtorEq, List.reduceReplicate, List.replicate]; rfl) ?_)
  refine RunT.nil ?_
  refine Tri.seq (Tri.seq ?_)
  refine (Tri.rgnT (cfgC_ok.pins _) ?_)
  repeat (first | refine RunT.one (by first | exact wantedA_none rfl | (simp only [go_sem, Bool.true_beq, Bool.false_beq]; done) | (simp only [go_sem, Bool.true_beq, Bool.false_beq]; with_reducible rfl)) (by simp (maxSteps := 2000000) (disch := first | decide | omega | (simp only [List.length_append, List.length_cons, List.length_nil, List.length_take, List.length_drop]; omega)) only [Tryd.f41, kMix, kTurn, cfgC, tyTab, shaG, go_sem, ↓reduceIte, reduceCtorEq, Nat.reduceLT, Nat.reduceSub, Nat.reduceAdd, Nat.reduceMul, Nat.reduceEqDiff, Nat.reduceBEq, Nat.reduceBNe, Nat.reduceLeDiff, Nat.reduceDiv, Nat.reduceMod, Nat.reducePow, List.reduceReplicate, UInt8.reduceOfNat, UInt32.reduceOfNat, UInt64.reduceOfNat, Int.reduceLE, Int.reduceLT, Int.reduceNeg, Int.reduceToNat, Int.reduceAdd, Int.reduceSub, Int.reduceMul, Int.reduceEq, UInt64.reduceToNat, UInt8.reduceToNat, UInt32.reduceToNat]; rfl) (by simp only [go_sem, Nat.reduceBEq, Nat.reduceEqDiff, Nat.reduceAdd, ↓reduceIte, reduceCtorEq, List.reduceReplicate, List.replicate]; rfl) (by first | exact True.intro | (simp only [Obs, and_true, true_and]; omega) | (simp [Obs, AV.sizeL, AV.size, Kd.sz]; done) | (simp [Obs, AV.sizeL, AV.size, Kd.sz]; omega)) ?_ | refine RunT.not (by first | (simp only [go_sem, Bool.true_beq, Bool.false_beq]; done) | (simp only [go_sem, Bool.true_beq, Bool.false_beq]; with_reducible rfl)) (by simp only [go_sem, Nat.reduceBEq, Nat.reduceEqDiff, Nat.reduceAdd, ↓reduceIte, reduceCtorEq, List.reduceReplicate, List.replicate]; rfl) ?_)
  refine RunT.nil ?_
  try simp only [InBlock, Then]
  refine Tri.block ?_
  obtain ⟨Z, hZ⟩ : ∃ Z : List UInt32, Z = Kd.dflt w8 := ⟨_, rfl⟩
  refine Tri.loop (fun i : Nat => (⟨[none, none, some (.ptr 0 [] 0), some (.ptr 1 [] 0), some (.ptr 2 [] 0), some (.ptr 3 [] 0), none, none, none, none, none, none, none, none, none, none, none, none, none, some (.int .i64 (i : Int))] ++ List.replicate 126 none, [.live (.pure w8 st), .live (.pure c64 p), .live (.pure w8 Z), .live (.pure w64 (wI p i))]⟩ : AS)) (· ≤ 64) (fun k => 64 - k) 0 ?_ (Nat.zero_le _) ?_
  · refine Wk.of ?_ ?_ rfl rfl
    · simp only [lessTs, List.reduceReplicate, List.cons_append, List.nil_append, wI, hZ] <;> ((repeat' apply And.intro) <;> first | rfl | trivial)
    · simp only [lessHs, wI, hZ] <;> ((repeat' apply And.intro) <;> first | rfl | trivial)
  · intro i hi
    generalize hw : wI p i = w
    refine Tri.at (by first | (simp only [Tryd.f41, kMix, kTurn, cfgC, tyTab, shaG, Con.start, go_sem, ↓reduceIte, reduceCtorEq, Nat.reduceLT, Nat.reduceSub, Nat.reduceAdd, Nat.reduceMul, Nat.reduceEqDiff, Nat.reduceBEq, Nat.reduceBNe, Nat.reduceLeDiff, Nat.reduceDiv, Nat.reduceMod, Nat.reducePow, List.reduceReplicate, UInt8.reduceOfNat, UInt32.reduceOfNat, UInt64.reduceOfNat, Int.reduceLE, Int.reduceLT, Int.reduceNeg, Int.reduceToNat, Int.reduceAdd, Int.reduceSub, Int.reduceMul, Int.reduceEq, UInt64.reduceToNat, UInt8.reduceToNat, UInt32.reduceToNat]; rfl) | rfl) ?_
    refine Tri.seq (Tri.regT (cfgC_ok.pins _) ?_)
    repeat (first | refine RunT.one (by first | exact wantedA_none rfl | (simp only [go_sem, Bool.true_beq, Bool.false_beq]; done) | (simp only [go_sem, Bool.true_beq, Bool.false_beq]; with_reducible rfl)) (by simp (maxSteps := 2000000) (disch := first | decide | omega | (simp only [List.length_append, List.length_cons, List.length_nil, List.length_take, List.length_drop]; omega)) only [Tryd.f41, kMix, kTurn, cfgC, tyTab, shaG, go_sem, ↓reduceIte, reduceCtorEq, Nat.reduceLT, Nat.reduceSub, Nat.reduceAdd, Nat.reduceMul, Nat.reduceEqDiff, Nat.reduceBEq, Nat.reduceBNe, Nat.reduceLeDiff, Nat.reduceDiv, Nat.reduceMod, Nat.reducePow, List.reduceReplicate, UInt8.reduceOfNat, UInt32.reduceOfNat, UInt64.reduceOfNat, Int.reduceLE, Int.reduceLT, Int.reduceNeg, Int.reduceToNat, Int.reduceAdd, Int.reduceSub, Int.reduceMul, Int.reduceEq, UInt64.reduceToNat, UInt8.reduceToNat, UInt32.reduceToNat]; rfl) (by simp only [go_sem, Nat.reduceBEq, Nat.reduceEqDiff, Nat.reduceAdd, ↓reduceIte, reduceCtorEq, List.reduceReplicate, List.replicate]; rfl) (by first | exact True.intro | (simp only [Obs, and_true, true_and]; omega) | (simp [Obs, AV.sizeL, AV.size, Kd.sz]; done) | (simp [Obs, AV.sizeL, AV.size, Kd.sz]; omega)) ?_ | refine RunT.not (by first | (simp only [go_sem, Bool.true_beq, Bool.false_beq]; done) | (simp only [go_sem, Bool.true_beq, Bool.false_beq]; with_reducible rfl)) (by simp only [go_sem, Nat.reduceBEq, Nat.reduceEqDiff, Nat.reduceAdd, ↓reduceIte, reduceCtorEq, List.reduceReplicate, List.replicate]; rfl) ?_)
    refine RunT.nil ?_
    refine Tri.seq ?_
    refine Tri.split (by simp only [AS.ev, go_sem, ↓reduceIte, reduceCtorEq, Nat.reduceLT, Nat.reduceSub, Nat.reduceAdd, Nat.reduceMul, Nat.reduceEqDiff, Nat.reduceBEq, Nat.reduceBNe, Nat.reduceLeDiff, Nat.reduceDiv, Nat.reduceMod, Nat.reducePow, List.reduceReplicate, UInt8.reduceOfNat, UInt32.reduceOfNat, UInt64.reduceOfNat, Int.reduceLE, Int.reduceLT, Int.reduceNeg, Int.reduceToNat, Int.reduceAdd, Int.reduceSub, Int.reduceMul, Int.reduceEq, UInt64.reduceToNat, UInt8.reduceToNat, UInt32.reduceToNat]; rfl) (fun hc => ?_) (fun hc => ?_)
    · have hc' : i < 64 := by have := of_decide_eq_true hc; omega
      refine Tri.skp ?_
      refine Tri.seq (Tri.block ?_)
      refine Tri.seq (Tri.regT (cfgC_ok.pins _) ?_)
      repeat (first | refine RunT.one (by first | exact wantedA_none rfl | (simp only [go_sem, Bool.true_beq, Bool.false_beq]; done) | (simp only [go_sem, Bool.true_beq, Bool.false_beq]; with_reducible rfl)) (by simp (maxSteps := 2000000) (disch := first | decide | omega | (simp only [List.length_append, List.length_cons, List.length_nil, List.length_take, List.length_drop]; omega)) only [Tryd.f41, kMix, kTurn, cfgC, tyTab, shaG, go_sem, ↓reduceIte, reduceCtorEq, Nat.reduceLT, Nat.reduceSub, Nat.reduceAdd, Nat.reduceMul, Nat.reduceEqDiff, Nat.reduceBEq, Nat.reduceBNe, Nat.reduceLeDiff, Nat.reduceDiv, Nat.reduceMod, Nat.reducePow, List.reduceReplicate, UInt8.reduceOfNat, UInt32.reduceOfNat, UInt64.reduceOfNat, Int.reduceLE, Int.reduceLT, Int.reduceNeg, Int.reduceToNat, Int.reduceAdd, Int.reduceSub, Int.reduceMul, Int.reduceEq, UInt64.reduceToNat, UInt8.reduceToNat, UInt32.reduceToNat]; rfl) (by simp only [go_sem, Nat.reduceBEq, Nat.reduceEqDiff, Nat.reduceAdd, ↓reduceIte, reduceCtorEq, List.reduceReplicate, List.replicate]; rfl) (by first | exact True.intro | (simp only [Obs, and_true, true_and]; omega) | (simp [Obs, AV.sizeL, AV.size, Kd.sz]; done) | (simp [Obs, AV.sizeL, AV.size, Kd.sz]; omega)) ?_ | refine RunT.not (by first | (simp only [go_sem, Bool.true_beq, Bool.false_beq]; done) | (simp only [go_sem, Bool.true_beq, Bool.false_beq]; with_reducible rfl)) (by simp only [go_sem, Nat.reduceBEq, Nat.reduceEqDiff, Nat.reduceAdd, ↓reduceIte, reduceCtorEq, List.reduceReplicate, List.replicate]; rfl) ?_)
      refine RunT.nil ?_
      refine Tri.seq (Tri.seq ?_)
      refine (Tri.rgnT (cfgC_ok.pins _) ?_)
      repeat (first | refine RunT.one (by first | exact wantedA_none rfl | (simp only [go_sem, Bool.true_beq, Bool.false_beq]; done) | (simp only [go_sem, Bool.true_beq, Bool.false_beq]; with_reducible rfl)) (by simp (maxSteps := 2000000) (disch := first | decide | omega | (simp only [List.length_append, List.length_cons, List.length_nil, List.length_take, List.length_drop]; omega)) only [Tryd.f41, kMix, kTurn, cfgC, tyTab, shaG, go_sem, ↓reduceIte, reduceCtorEq, Nat.reduceLT, Nat.reduceSub, Nat.reduceAdd, Nat.reduceMul, Nat.reduceEqDiff, Nat.reduceBEq, Nat.reduceBNe, Nat.reduceLeDiff, Nat.reduceDiv, Nat.reduceMod, Nat.reducePow, List.reduceReplicate, UInt8.reduceOfNat, UInt32.reduceOfNat, UInt64.reduceOfNat, Int.reduceLE, Int.reduceLT, Int.reduceNeg, Int.reduceToNat, Int.reduceAdd, Int.reduceSub, Int.reduceMul, Int.reduceEq, UInt64.reduceToNat, UInt8.reduceToNat, UInt32.reduceToNat]; rfl) (by simp only [go_sem, Nat.reduceBEq, Nat.reduceEqDiff, Nat.reduceAdd, ↓reduceIte, reduceCtorEq, List.reduceReplicate, List.replicate]; rfl) (by first | exact True.intro | (simp only [Obs, and_true, true_and]; omega) | (simp [Obs, AV.sizeL, AV.size, Kd.sz]; done) | (simp [Obs, AV.sizeL, AV.size, Kd.sz]; omega)) ?_ | refine RunT.not (by first | (simp only [go_sem, Bool.true_beq, Bool.false_beq]; done) | (simp only [go_sem, Bool.true_beq, Bool.false_beq]; with_reducible rfl)) (by simp only [go_sem, Nat.reduceBEq, Nat.reduceEqDiff, Nat.reduceAdd, ↓reduceIte, reduceCtorEq, List.reduceReplicate, List.replicate]; rfl) ?_)
      refine RunT.nil ?_
      try simp only [InBlock, Then]
      refine Tri.split (by simp only [AS.ev, go_sem, ↓reduceIte, reduceCtorEq, Nat.reduceLT, Nat.reduceSub, Nat.reduceAdd, Nat.reduceMul, Nat.reduceEqDiff, Nat.reduceBEq, Nat.reduceBNe, Nat.reduceLeDiff, Nat.reduceDiv, Nat.reduceMod, Nat.reducePow, List.reduceReplicate, UInt8.reduceOfNat, UInt32.reduceOfNat, UInt64.reduceOfNat, Int.reduceLE, Int.reduceLT, Int.reduceNeg, Int.reduceToNat, Int.reduceAdd, Int.reduceSub, Int.reduceMul, Int.reduceEq, UInt64.reduceToNat, UInt8.reduceToNat, UInt32.reduceToNat]; rfl) (fun hd => ?_) (fun hd => ?_)
      · have hd' : i < 16 := by have := of_decide_eq_true hd; omega
        have h4 : 4 * (i + 1) - 4 * i = 4 := by omega
        refine Tri.seq ?_
        refine Tri.seq ?_
        refine (Tri.rgnT (cfgC_ok.pins _) ?_)
        repeat (first | refine RunT.one (by first | exact wantedA_none rfl | (simp only [go_sem, Bool.true_beq, Bool.false_beq]; done) | (simp only [go_sem, Bool.true_beq, Bool.false_beq]; with_reducible rfl)) (by simp (maxSteps := 2000000) (disch := first | decide | omega | (simp only [List.length_append, List.length_cons, List.length_nil, List.length_take, List.length_drop]; omega)) only [Tryd.f41, kMix, kTurn, cfgC, tyTab, shaG, h4, go_sem, ↓reduceIte, reduceCtorEq, Nat.reduceLT, Nat.reduceSub, Nat.reduceAdd, Nat.reduceMul, Nat.reduceEqDiff, Nat.reduceBEq, Nat.reduceBNe, Nat.reduceLeDiff, Nat.reduceDiv, Nat.reduceMod, Nat.reducePow, List.reduceReplicate, UInt8.reduceOfNat, UInt32.reduceOfNat, UInt64.reduceOfNat, Int.reduceLE, Int.reduceLT, Int.reduceNeg, Int.reduceToNat, Int.reduceAdd, Int.reduceSub, Int.reduceMul, Int.reduceEq, UInt64.reduceToNat, UInt8.reduceToNat, UInt32.reduceToNat]; rfl) (by simp only [go_sem, Nat.reduceBEq, Nat.reduceEqDiff, Nat.reduceAdd, ↓reduceIte, reduceCtorEq, List.reduceReplicate, List.replicate]; rfl) (by first | exact True.intro | (simp only [Obs, and_true, true_and]; omega) | (simp [Obs, AV.sizeL, AV.size, Kd.sz]; done) | (simp [Obs, AV.sizeL, AV.size, Kd.sz]; omega)) ?_ | refine RunT.not (by first | (simp only [go_sem, Bool.true_beq, Bool.false_beq]; done) | (simp only [go_sem, Bool.true_beq, Bool.false_beq]; with_reducible rfl)) (by simp only [go_sem, Nat.reduceBEq, Nat.reduceEqDiff, Nat.reduceAdd, ↓reduceIte, reduceCtorEq, List.reduceReplicate, List.replicate]; rfl) ?_)
        refine RunT.nil ?_
        try simp only [InBlock, Then]
        refine Tri.block ?_
        refine Tri.loop (fun k : Nat => (⟨[none, none, some (.ptr 0 [] 0), some (.ptr 1 [] 0), some (.ptr 2 [] 0), some (.ptr 3 [] 0), some (.int .i64 (i : Int)), none, none, none, none, none, none, none, none, none, none, none, none, some (.int .i64 (i : Int)), none, none, none, none, none, none, none, none, none, some (.tsl 1 [] (4 * i) (4 * i * 1) 1 4), some (.int .i64 ((4 : Nat) : Int)), some (.int .i64 (k : Int))] ++ List.replicate 114 none, [.live (.pure w8 st), .live (.pure c64 p), .live (.pure w8 Z), .live (.pure w64 (wbI p w i k))]⟩ : AS)) (· ≤ 4) (fun k => 4 - k) 0 ?_ (Nat.zero_le _) ?_
        · refine Wk.of ?_ ?_ rfl rfl
          · simp only [lessTs, List.reduceReplicate, List.cons_append, List.nil_append, wbI] <;> ((repeat' apply And.intro) <;> first | rfl | trivial)
          · simp only [lessHs, wbI] <;> ((repeat' apply And.intro) <;> first | rfl | trivial)
        · intro k hk
          refine Tri.at (by first | (simp only [Tryd.f41, kMix, kTurn, cfgC, tyTab, shaG, h4, Con.start, go_sem, ↓reduceIte, reduceCtorEq, Nat.reduceLT, Nat.reduceSub, Nat.reduceAdd, Nat.reduceMul, Nat.reduceEqDiff, Nat.reduceBEq, Nat.reduceBNe, Nat.reduceLeDiff, Nat.reduceDiv, Nat.reduceMod, Nat.reducePow, List.reduceReplicate, UInt8.reduceOfNat, UInt32.reduceOfNat, UInt64.reduceOfNat, Int.reduceLE, Int.reduceLT, Int.reduceNeg, Int.reduceToNat, Int.reduceAdd, Int.reduceSub, Int.reduceMul, Int.reduceEq, UInt64.reduceToNat, UInt8.reduceToNat, UInt32.reduceToNat]; rfl) | rfl) ?_
          refine Tri.seq (Tri.regT (cfgC_ok.pins _) ?_)
          repeat (first | refine RunT.one (by first | exact wantedA_none rfl | (simp only [go_sem, Bool.true_beq, Bool.false_beq]; done) | (simp only [go_sem, Bool.true_beq, Bool.false_beq]; with_reducible rfl)) (by simp (maxSteps := 2000000) (disch := first | decide | omega | (simp only [List.length_append, List.length_cons, List.length_nil, List.length_take, List.length_drop]; omega)) only [Tryd.f41, kMix, kTurn, cfgC, tyTab, shaG, h4, go_sem, ↓reduceIte, reduceCtorEq, Nat.reduceLT, Nat.reduceSub, Nat.reduceAdd, Nat.reduceMul, Nat.reduceEqDiff, Nat.reduceBEq, Nat.reduceBNe, Nat.reduceLeDiff, Nat.reduceDiv, Nat.reduceMod, Nat.reducePow, List.reduceReplicate, UInt8.reduceOfNat, UInt32.reduceOfNat, UInt64.reduceOfNat, Int.reduceLE, Int.reduceLT, Int.reduceNeg, Int.reduceToNat, Int.reduceAdd, Int.reduceSub, Int.reduceMul, Int.reduceEq, UInt64.reduceToNat, UInt8.reduceToNat, UInt32.reduceToNat]; rfl) (by simp only [go_sem, Nat.reduceBEq, Nat.reduceEqDiff, Nat.reduceAdd, ↓reduceIte, reduceCtorEq, List.reduceReplicate, List.replicate]; rfl) (by first | exact True.intro | (simp only [Obs, and_true, true_and]; omega) | (simp [Obs, AV.sizeL, AV.size, Kd.sz]; done) | (simp [Obs, AV.sizeL, AV.size, Kd.sz]; omega)) ?_ | refine RunT.not (by first | (simp only [go_sem, Bool.true_beq, Bool.false_beq]; done) | (simp only [go_sem, Bool.true_beq, Bool.false_beq]; with_reducible rfl)) (by simp only [go_sem, Nat.reduceBEq, Nat.reduceEqDiff, Nat.reduceAdd, ↓reduceIte, reduceCtorEq, List.reduceReplicate, List.replicate]; rfl) ?_)
          refine RunT.nil ?_
          refine Tri.seq ?_
          refine Tri.split (by simp only [AS.ev, go_sem, ↓reduceIte, reduceCtorEq, Nat.reduceLT, Nat.reduceSub, Nat.reduceAdd, Nat.reduceMul, Nat.reduceEqDiff, Nat.reduceBEq, Nat.reduceBNe, Nat.reduceLeDiff, Nat.reduceDiv, Nat.reduceMod, Nat.reducePow, List.reduceReplicate, UInt8.reduceOfNat, UInt32.reduceOfNat, UInt64.reduceOfNat, Int.reduceLE, Int.reduceLT, Int.reduceNeg, Int.reduceToNat, Int.reduceAdd, Int.reduceSub, Int.reduceMul, Int.reduceEq, UInt64.reduceToNat, UInt8.reduceToNat, UInt32.reduceToNat]; rfl) (fun he => ?_) (fun he => ?_)
          · have he' : k < 4 := by have := of_decide_eq_true he; omega
            refine Tri.skp ?_
            refine Tri.seq (Tri.block ?_)
            refine Tri.seq (Tri.regT (cfgC_ok.pins _) ?_)
            repeat (first | refine RunT.one (by first | exact wantedA_none rfl | (simp only [go_sem, Bool.true_beq, Bool.false_beq]; done) | (simp only [go_sem, Bool.true_beq, Bool.false_beq]; with_reducible rfl)) (by simp (maxSteps := 2000000) (disch := first | decide | omega | (simp only [List.length_append, List.length_cons, List.length_nil, List.length_take, List.length_drop]; omega)) only [Tryd.f41, kMix, kTurn, cfgC, tyTab, shaG, h4, go_sem, ↓reduceIte, reduceCtorEq, Nat.reduceLT, Nat.reduceSub, Nat.reduceAdd, Nat.reduceMul, Nat.reduceEqDiff, Nat.reduceBEq, Nat.reduceBNe, Nat.reduceLeDiff, Nat.reduceDiv, Nat.reduceMod, Nat.reducePow, List.reduceReplicate, UInt8.reduceOfNat, UInt32.reduceOfNat, UInt64.reduceOfNat, Int.reduceLE, Int.reduceLT, Int.reduceNeg, Int.reduceToNat, Int.reduceAdd, Int.reduceSub, Int.reduceMul, Int.reduceEq, UInt64.reduceToNat, UInt8.reduceToNat, UInt32.reduceToNat]; rfl) (by simp only [go_sem, Nat.reduceBEq, Nat.reduceEqDiff, Nat.reduceAdd, ↓reduceIte, reduceCtorEq, List.reduceReplicate, List.replicate]; rfl) (by first | exact True.intro | (simp only [Obs, and_true, true_and]; omega) | (simp [Obs, AV.sizeL, AV.size, Kd.sz]; done) | (simp [Obs, AV.sizeL, AV.size, Kd.sz]; omega)) ?_ | refine RunT.not (by first | (simp only [go_sem, Bool.true_beq, Bool.false_beq]; done) | (simp only [go_sem, Bool.true_beq, Bool.false_beq]; with_reducible rfl)) (by simp only [go_sem, Nat.reduceBEq, Nat.reduceEqDiff, Nat.reduceAdd, ↓reduceIte, reduceCtorEq, List.reduceReplicate, List.replicate]; rfl) ?_)
            refine RunT.nil ?_
            refine (Tri.rgnT (cfgC_ok.pins _) ?_)
            repeat (first | refine RunT.one (by first | exact wantedA_none rfl | (simp only [go_sem, Bool.true_beq, Bool.false_beq]; done) | (simp only [go_sem, Bool.true_beq, Bool.false_beq]; with_reducible rfl)) (by simp (maxSteps := 2000000) (disch := first | decide | omega | (simp only [List.length_append, List.length_cons, List.length_nil, List.length_take, List.length_drop]; omega)) only [Tryd.f41, kMix, kTurn, cfgC, tyTab, shaG, h4, go_sem, ↓reduceIte, reduceCtorEq, Nat.reduceLT, Nat.reduceSub, Nat.reduceAdd, Nat.reduceMul, Nat.reduceEqDiff, Nat.reduceBEq, Nat.reduceBNe, Nat.reduceLeDiff, Nat.reduceDiv, Nat.reduceMod, Nat.reducePow, List.reduceReplicate, UInt8.reduceOfNat, UInt32.reduceOfNat, UInt64.reduceOfNat, Int.reduceLE, Int.reduceLT, Int.reduceNeg, Int.reduceToNat, Int.reduceAdd, Int.reduceSub, Int.reduceMul, Int.reduceEq, UInt64.reduceToNat, UInt8.reduceToNat, UInt32.reduceToNat]; rfl) (by simp only [go_sem, Nat.reduceBEq, Nat.reduceEqDiff, Nat.reduceAdd, ↓reduceIte, reduceCtorEq, List.reduceReplicate, List.replicate]; rfl) (by first | exact True.intro | (simp only [Obs, and_true, true_and]; omega) | (simp [Obs, AV.sizeL, AV.size, Kd.sz]; done) | (simp [Obs, AV.sizeL, AV.size, Kd.sz]; omega)) ?_ | refine RunT.not (by first | (simp only [go_sem, Bool.true_beq, Bool.false_beq]; done) | (simp only [go_sem, Bool.true_beq, Bool.false_beq]; with_reducible rfl)) (by simp only [go_sem, Nat.reduceBEq, Nat.reduceEqDiff, Nat.reduceAdd, ↓reduceIte, reduceCtorEq, List.reduceReplicate, List.replicate]; rfl) ?_)
            refine RunT.nil ?_
            try simp only [InBlock, Then]
            refine (Tri.rgnT (cfgC_ok.pins _) ?_)
            repeat (first | refine RunT.one (by first | exact wantedA_none rfl | (simp only [go_sem, Bool.true_beq, Bool.false_beq]; done) | (simp only [go_sem, Bool.true_beq, Bool.false_beq]; with_reducible rfl)) (by simp (maxSteps := 2000000) (disch := first | decide | omega | (simp only [List.length_append, List.length_cons, List.length_nil, List.length_take, List.length_drop]; omega)) only [Tryd.f41, kMix, kTurn, cfgC, tyTab, shaG, h4, go_sem, ↓reduceIte, reduceCtorEq, Nat.reduceLT, Nat.reduceSub, Nat.reduceAdd, Nat.reduceMul, Nat.reduceEqDiff, Nat.reduceBEq, Nat.reduceBNe, Nat.reduceLeDiff, Nat.reduceDiv, Nat.reduceMod, Nat.reducePow, List.reduceReplicate, UInt8.reduceOfNat, UInt32.reduceOfNat, UInt64.reduceOfNat, Int.reduceLE, Int.reduceLT, Int.reduceNeg, Int.reduceToNat, Int.reduceAdd, Int.reduceSub, Int.reduceMul, Int.reduceEq, UInt64.reduceToNat, UInt8.reduceToNat, UInt32.reduceToNat]; rfl) (by simp only [go_sem, Nat.reduceBEq, Nat.reduceEqDiff, Nat.reduceAdd, ↓reduceIte, reduceCtorEq, List.reduceReplicate, List.replicate]; rfl) (by first | exact True.intro | (simp only [Obs, and_true, true_and]; omega) | (simp [Obs, AV.sizeL, AV.size, Kd.sz]; done) | (simp [Obs, AV.sizeL, AV.size, Kd.sz]; omega)) ?_ | refine RunT.not (by first | (simp only [go_sem, Bool.true_beq, Bool.false_beq]; done) | (simp only [go_sem, Bool.true_beq, Bool.false_beq]; with_reducible rfl)) (by simp only [go_sem, Nat.reduceBEq, Nat.reduceEqDiff, Nat.reduceAdd, ↓reduceIte, reduceCtorEq, List.reduceReplicate, List.replicate]; rfl) ?_)
            refine RunT.nil ?_
            try simp only [InBlock, Then]
            refine ⟨k+1, (by omega), (by omega), Wk.of ?_ ?_ rfl rfl⟩
            · simp only [lessTs, List.reduceReplicate, List.cons_append, List.nil_append, wbI] <;> ((repeat' apply And.intro) <;> first | rfl | trivial)
            · simp only [lessHs, wbI] <;> ((repeat' apply And.intro) <;> first | rfl | trivial)
          · have he' : k = 4 := by have := of_decide_eq_false he; omega
            subst he'
            refine Tri.exit ?_
            simp only [Then, InBlock, if_true]
            refine Tri.exit ?_
            simp only [Then, InBlock, if_true]
            refine (Tri.rgnT (cfgC_ok.pins _) ?_)
            repeat (first | refine RunT.one (by first | exact wantedA_none rfl | (simp only [go_sem, Bool.true_beq, Bool.false_beq]; done) | (simp only [go_sem, Bool.true_beq, Bool.false_beq]; with_reducible rfl)) (by simp (maxSteps := 2000000) (disch := first | decide | omega | (simp only [List.length_append, List.length_cons, List.length_nil, List.length_take, List.length_drop]; omega)) only [Tryd.f41, kMix, kTurn, cfgC, tyTab, shaG, h4, go_sem, ↓reduceIte, reduceCtorEq, Nat.reduceLT, Nat.reduceSub, Nat.reduceAdd, Nat.reduceMul, Nat.reduceEqDiff, Nat.reduceBEq, Nat.reduceBNe, Nat.reduceLeDiff, Nat.reduceDiv, Nat.reduceMod, Nat.reducePow, List.reduceReplicate, UInt8.reduceOfNat, UInt32.reduceOfNat, UInt64.reduceOfNat, Int.reduceLE, Int.reduceLT, Int.reduceNeg, Int.reduceToNat, Int.reduceAdd, Int.reduceSub, Int.reduceMul, Int.reduceEq, UInt64.reduceToNat, UInt8.reduceToNat, UInt32.reduceToNat]; rfl) (by simp only [go_sem, Nat.reduceBEq, Nat.reduceEqDiff, Nat.reduceAdd, ↓reduceIte, reduceCtorEq, List.reduceReplicate, List.replicate]; rfl) (by first | exact True.intro | (simp only [Obs, and_true, true_and]; omega) | (simp [Obs, AV.sizeL, AV.size, Kd.sz]; done) | (simp [Obs, AV.sizeL, AV.size, Kd.sz]; omega)) ?_ | refine RunT.not (by first | (simp only [go_sem, Bool.true_beq, Bool.false_beq]; done) | (simp only [go_sem, Bool.true_beq, Bool.false_beq]; with_reducible rfl)) (by simp only [go_sem, Nat.reduceBEq, Nat.reduceEqDiff, Nat.reduceAdd, ↓reduceIte, reduceCtorEq, List.reduceReplicate, List.replicate]; rfl) ?_)
            refine RunT.nil ?_
            try simp only [InBlock, Then]
            refine ⟨i+1, (by omega), (by omega), Wk.of ?_ ?_ rfl rfl⟩
            · simp only [lessTs, List.reduceReplicate, List.cons_append, List.nil_append, wI, hw, if_pos hd'] <;> ((repeat' apply And.intro) <;> first | rfl | trivial)
            · simp only [lessHs, wI, hw, if_pos hd'] <;> ((repeat' apply And.intro) <;> first | rfl | trivial)
      · have hd' : ¬ i < 16 := by have := of_decide_eq_false hd; omega
        obtain ⟨m2, hm2⟩ : ∃ m : Nat, (i : Int) - 2 = (m : Int) := ⟨i - 2, by omega⟩
        obtain ⟨m7, hm7⟩ : ∃ m : Nat, (i : Int) - 7 = (m : Int) := ⟨i - 7, by omega⟩
        obtain ⟨m15, hm15⟩ : ∃ m : Nat, (i : Int) - 15 = (m : Int) := ⟨i - 15, by omega⟩
        obtain ⟨m16, hm16⟩ : ∃ m : Nat, (i : Int) - 16 = (m : Int) := ⟨i - 16, by omega⟩
        have hn2 : m2 = i - 2 := by omega
        have hn7 : m7 = i - 7 := by omega
        have hn15 : m15 = i - 15 := by omega
        have hn16 : m16 = i - 16 := by omega
        refine Tri.skp ?_
        refine (Tri.drnT (mixed) (cfgC_ok.pins _) ?_)
        repeat (first | refine RunD.one (by first | exact wantedA_none rfl | (simp only [go_sem, Bool.true_beq, Bool.false_beq]; done) | (simp only [go_sem, Bool.true_beq, Bool.false_beq]; with_reducible rfl)) (by simp (maxSteps := 2000000) (disch := first | decide | omega | (simp only [List.length_append, List.length_cons, List.length_nil, List.length_take, List.length_drop]; omega)) only [Tryd.f41, kMix, kTurn, cfgC, tyTab, shaG, hm2, hm7, hm15, hm16, go_sem, ↓reduceIte, reduceCtorEq, Nat.reduceLT, Nat.reduceSub, Nat.reduceAdd, Nat.reduceMul, Nat.reduceEqDiff, Nat.reduceBEq, Nat.reduceBNe, Nat.reduceLeDiff, Nat.reduceDiv, Nat.reduceMod, Nat.reducePow, List.reduceReplicate, UInt8.reduceOfNat, UInt32.reduceOfNat, UInt64.reduceOfNat, Int.reduceLE, Int.reduceLT, Int.reduceNeg, Int.reduceToNat, Int.reduceAdd, Int.reduceSub, Int.reduceMul, Int.reduceEq, UInt64.reduceToNat, UInt8.reduceToNat, UInt32.reduceToNat]; rfl) (by simp only [go_sem, Nat.reduceBEq, Nat.reduceEqDiff, Nat.reduceAdd, ↓reduceIte, reduceCtorEq, List.reduceReplicate, List.replicate]; rfl) (by first | exact True.intro | (simp only [Obs, and_true, true_and]; omega) | (simp [Obs, AV.sizeL, AV.size, Kd.sz]; done) | (simp [Obs, AV.sizeL, AV.size, Kd.sz]; omega)) ?_ | refine RunD.not (by first | (simp only [go_sem, Bool.true_beq, Bool.false_beq]; done) | (simp only [go_sem, Bool.true_beq, Bool.false_beq]; with_reducible rfl)) (by simp only [go_sem, Nat.reduceBEq, Nat.reduceEqDiff, Nat.reduceAdd, ↓reduceIte, reduceCtorEq, List.reduceReplicate, List.replicate]; rfl) ?_)
        refine RunD.nil ?_
        refine ⟨by kernel_rfl, ?_⟩
        try simp only [InBlock, Then]
        refine (Tri.rgnT (cfgC_ok.pins _) ?_)
        repeat (first | refine RunT.one (by first | exact wantedA_none rfl | (simp only [go_sem, Bool.true_beq, Bool.false_beq]; done) | (simp only [go_sem, Bool.true_beq, Bool.false_beq]; with_reducible rfl)) (by simp (maxSteps := 2000000) (disch := first | decide | omega | (simp only [List.length_append, List.length_cons, List.length_nil, List.length_take, List.length_drop]; omega)) only [Tryd.f41, kMix, kTurn, cfgC, tyTab, shaG, hm2, hm7, hm15, hm16, go_sem, ↓reduceIte, reduceCtorEq, Nat.reduceLT, Nat.reduceSub, Nat.reduceAdd, Nat.reduceMul, Nat.reduceEqDiff, Nat.reduceBEq, Nat.reduceBNe, Nat.reduceLeDiff, Nat.reduceDiv, Nat.reduceMod, Nat.reducePow, List.reduceReplicate, UInt8.reduceOfNat, UInt32.reduceOfNat, UInt64.reduceOfNat, Int.reduceLE, Int.reduceLT, Int.reduceNeg, Int.reduceToNat, Int.reduceAdd, Int.reduceSub, Int.reduceMul, Int.reduceEq, UInt64.reduceToNat, UInt8.reduceToNat, UInt32.reduceToNat]; rfl) (by simp only [go_sem, Nat.reduceBEq, Nat.reduceEqDiff, Nat.reduceAdd, ↓reduceIte, reduceCtorEq, List.reduceReplicate, List.replicate]; rfl) (by first | exact True.intro | (simp only [Obs, and_true, true_and]; omega) | (simp [Obs, AV.sizeL, AV.size, Kd.sz]; done) | (simp [Obs, AV.sizeL, AV.size, Kd.sz]; omega)) ?_ | refine RunT.not (by first | (simp only [go_sem, Bool.true_beq, Bool.false_beq]; done) | (simp only [go_sem, Bool.true_beq, Bool.false_beq]; with_reducible rfl)) (by simp only [go_sem, Nat.reduceBEq, Nat.reduceEqDiff, Nat.reduceAdd, ↓reduceIte, reduceCtorEq, List.reduceReplicate, List.replicate]; rfl) ?_)
        refine RunT.nil ?_
        try simp only [InBlock, Then]
        refine ⟨i+1, (by omega), (by omega), Wk.of ?_ ?_ rfl rfl⟩
        · simp only [lessTs, List.reduceReplicate, List.cons_append, List.nil_append, wI, hw, if_neg hd', hn2, hn7, hn15, hn16] <;> ((repeat' apply And.intro) <;> first | rfl | trivial)
        · simp only [lessHs, wI, hw, if_neg hd', hn2, hn7, hn15, hn16] <;> ((repeat' apply And.intro) <;> first | rfl | trivial)
    · have hc' : i = 64 := by have := of_decide_eq_false hc; omega
      subst hc'
      refine Tri.exit ?_
      simp only [Then, InBlock, if_true]
      subst hw
      generalize hW : wI p 64 = W
      refine Tri.at (by first | (simp only [Tryd.f41, kMix, kTurn, cfgC, tyTab, shaG, Con.start, go_sem, ↓reduceIte, reduceCtorEq, Nat.reduceLT, Nat.reduceSub, Nat.reduceAdd, Nat.reduceMul, Nat.reduceEqDiff, Nat.reduceBEq, Nat.reduceBNe, Nat.reduceLeDiff, Nat.reduceDiv, Nat.reduceMod, Nat.reducePow, List.reduceReplicate, UInt8.reduceOfNat, UInt32.reduceOfNat, UInt64.reduceOfNat, Int.reduceLE, Int.reduceLT, Int.reduceNeg, Int.reduceToNat, Int.reduceAdd, Int.reduceSub, Int.reduceMul, Int.reduceEq, UInt64.reduceToNat, UInt8.reduceToNat, UInt32.reduceToNat]; rfl) | rfl) ?_
      refine Tri.seq (Tri.regT (cfgC_ok.pins _) ?_)
      repeat (first | refine RunT.one (by first | exact wantedA_none rfl | (simp only [go_sem, Bool.true_beq, Bool.false_beq]; done) | (simp only [go_sem, Bool.true_beq, Bool.false_beq]; with_reducible rfl)) (by simp (maxSteps := 2000000) (disch := first | decide | omega | (simp only [List.length_append, List.length_cons, List.length_nil, List.length_take, List.length_drop]; omega)) only [Tryd.f41, kMix, kTurn, cfgC, tyTab, shaG, go_sem, ↓reduceIte, reduceCtorEq, Nat.reduceLT, Nat.reduceSub, Nat.reduceAdd, Nat.reduceMul, Nat.reduceEqDiff, Nat.reduceBEq, Nat.reduceBNe, Nat.reduceLeDiff, Nat.reduceDiv, Nat.reduceMod, Nat.reducePow, List.reduceReplicate, UInt8.reduceOfNat, UInt32.reduceOfNat, UInt64.reduceOfNat, Int.reduceLE, Int.reduceLT, Int.reduceNeg, Int.reduceToNat, Int.reduceAdd, Int.reduceSub, Int.reduceMul, Int.reduceEq, UInt64.reduceToNat, UInt8.reduceToNat, UInt32.reduceToNat]; rfl) (by simp only [go_sem, Nat.reduceBEq, Nat.reduceEqDiff, Nat.reduceAdd, ↓reduceIte, reduceCtorEq, List.reduceReplicate, List.replicate]; rfl) (by first | exact True.intro | (simp only [Obs, and_true, true_and]; omega) | (simp [Obs, AV.sizeL, AV.size, Kd.sz]; done) | (simp [Obs, AV.sizeL, AV.size, Kd.sz]; omega)) ?_ | refine RunT.not (by first | (simp only [go_sem, Bool.true_beq, Bool.false_beq]; done) | (simp only [go_sem, Bool.true_beq, Bool.false_beq]; with_reducible rfl)) (by simp only [go_sem, Nat.reduceBEq, Nat.reduceEqDiff, Nat.reduceAdd, ↓reduceIte, reduceCtorEq, List.reduceReplicate, List.replicate]; rfl) ?_)
      refine RunT.nil ?_
      generalize hK : rnds = K
      refine Tri.seq (Tri.seq ?_)
      refine (Tri.rgnT (cfgC_ok.pins _) ?_)
      repeat (first | refine RunT.one (by first | exact wantedA_none rfl | (simp only [go_sem, Bool.true_beq, Bool.false_beq]; done) | (simp only [go_sem, Bool.true_beq, Bool.false_beq]; with_reducible rfl)) (by simp (maxSteps := 2000000) (disch := first | decide | omega | (simp only [List.length_append, List.length_cons, List.length_nil, List.length_take, List.length_drop]; omega)) only [Tryd.f41, kMix, kTurn, cfgC, tyTab, shaG, hK, go_sem, ↓reduceIte, reduceCtorEq, Nat.reduceLT, Nat.reduceSub, Nat.reduceAdd, Nat.reduceMul, Nat.reduceEqDiff, Nat.reduceBEq, Nat.reduceBNe, Nat.reduceLeDiff, Nat.reduceDiv, Nat.reduceMod, Nat.reducePow, List.reduceReplicate, UInt8.reduceOfNat, UInt32.reduceOfNat, UInt64.reduceOfNat, Int.reduceLE, Int.reduceLT, Int.reduceNeg, Int.reduceToNat, Int.reduceAdd, Int.reduceSub, Int.reduceMul, Int.reduceEq, UInt64.reduceToNat, UInt8.reduceToNat, UInt32.reduceToNat]; rfl) (by simp only [go_sem, Nat.reduceBEq, Nat.reduceEqDiff, Nat.reduceAdd, ↓reduceIte, reduceCtorEq, List.reduceReplicate, List.replicate]; rfl) (by first | exact True.intro | (simp only [Obs, and_true, true_and]; omega) | (simp [Obs, AV.sizeL, AV.size, Kd.sz]; done) | (simp [Obs, AV.sizeL, AV.size, Kd.sz]; omega)) ?_ | refine RunT.not (by first | (simp only [go_sem, Bool.true_beq, Bool.false_beq]; done) | (simp only [go_sem, Bool.true_beq, Bool.false_beq]; with_reducible rfl)) (by simp only [go_sem, Nat.reduceBEq, Nat.reduceEqDiff, Nat.reduceAdd, ↓reduceIte, reduceCtorEq, List.reduceReplicate, List.replicate]; rfl) ?_)
      refine RunT.nil ?_
      try simp only [InBlock, Then]
      refine Tri.block ?_
      refine Tri.loop (fun i : Nat => (⟨[none, none, some (.ptr 0 [] 0), some (.ptr 1 [] 0), some (.ptr 2 [] 0), some (.ptr 3 [] 0), none, none, none, some (.ptr 4 [] 0), none, none, none, none, none, none, none, none, none, none, none, none, none, none, none, none, none, none, none, none, none, none, none, none, none, none, none, none, none, none, none, none, none, none, none, none, none, none, none, none, none, none, none, none, none, none, none, none, none, none, none, none, none, none, none, none, none, none, none, none, some (.pure w64 K), some (.int .i64 (i : Int))] ++ List.replicate 74 none, [.live (.pure w8 st), .live (.pure c64 p), .live (.pure w8 Z), .live (.pure w64 W), .live (.pure w8 (rnI st K W i))]⟩ : AS)) (· ≤ 64) (fun k => 64 - k) 0 ?_ (Nat.zero_le _) ?_
      · refine Wk.of ?_ ?_ rfl rfl
        · simp only [lessTs, List.reduceReplicate, List.cons_append, List.nil_append, rnI] <;> ((repeat' apply And.intro) <;> first | rfl | trivial)
        · simp only [lessHs, rnI] <;> ((repeat' apply And.intro) <;> first | rfl | trivial)
      · intro i hi
        generalize hs : rnI st K W i = s
        refine Tri.at (by first | (simp only [Tryd.f41, kMix, kTurn, cfgC, tyTab, shaG, hK, Con.start, go_sem, ↓reduceIte, reduceCtorEq, Nat.reduceLT, Nat.reduceSub, Nat.reduceAdd, Nat.reduceMul, Nat.reduceEqDiff, Nat.reduceBEq, Nat.reduceBNe, Nat.reduceLeDiff, Nat.reduceDiv, Nat.reduceMod, Nat.reducePow, List.reduceReplicate, UInt8.reduceOfNat, UInt32.reduceOfNat, UInt64.reduceOfNat, Int.reduceLE, Int.reduceLT, Int.reduceNeg, Int.reduceToNat, Int.reduceAdd, Int.reduceSub, Int.reduceMul, Int.reduceEq, UInt64.reduceToNat, UInt8.reduceToNat, UInt32.reduceToNat]; rfl) | rfl) ?_
        refine Tri.seq (Tri.regT (cfgC_ok.pins _) ?_)
        repeat (first | refine RunT.one (by first | exact wantedA_none rfl | (simp only [go_sem, Bool.true_beq, Bool.false_beq]; done) | (simp only [go_sem, Bool.true_beq, Bool.false_beq]; with_reducible rfl)) (by simp (maxSteps := 2000000) (disch := first | decide | omega | (simp only [List.length_append, List.length_cons, List.length_nil, List.length_take, List.length_drop]; omega)) only [Tryd.f41, kMix, kTurn, cfgC, tyTab, shaG, hK, go_sem, ↓reduceIte, reduceCtorEq, Nat.reduceLT, Nat.reduceSub, Nat.reduceAdd, Nat.reduceMul, Nat.reduceEqDiff, Nat.reduceBEq, Nat.reduceBNe, Nat.reduceLeDiff, Nat.reduceDiv, Nat.reduceMod, Nat.reducePow, List.reduceReplicate, UInt8.reduceOfNat, UInt32.reduceOfNat, UInt64.reduceOfNat, Int.reduceLE, Int.reduceLT, Int.reduceNeg, Int.reduceToNat, Int.reduceAdd, Int.reduceSub, Int.reduceMul, Int.reduceEq, UInt64.reduceToNat, UInt8.reduceToNat, UInt32.reduceToNat]; rfl) (by simp only [go_sem, Nat.reduceBEq, Nat.reduceEqDiff, Nat.reduceAdd, ↓reduceIte, reduceCtorEq, List.reduceReplicate, List.replicate]; rfl) (by first | exact True.intro | (simp only [Obs, and_true, true_and]; omega) | (simp [Obs, AV.sizeL, AV.size, Kd.sz]; done) | (simp [Obs, AV.sizeL, AV.size, Kd.sz]; omega)) ?_ | refine RunT.not (by first | (simp only [go_sem, Bool.true_beq, Bool.false_beq]; done) | (simp only [go_sem, Bool.true_beq, Bool.false_beq]; with_reducible rfl)) (by simp only [go_sem, Nat.reduceBEq, Nat.reduceEqDiff, Nat.reduceAdd, ↓reduceIte, reduceCtorEq, List.reduceReplicate, List.replicate]; rfl) ?_)
        refine RunT.nil ?_
        refine Tri.seq ?_
        refine Tri.split (by simp only [AS.ev, go_sem, ↓reduceIte, reduceCtorEq, Nat.reduceLT, Nat.reduceSub, Nat.reduceAdd, Nat.reduceMul, Nat.reduceEqDiff, Nat.reduceBEq, Nat.reduceBNe, Nat.reduceLeDiff, Nat.reduceDiv, Nat.reduceMod, Nat.reducePow, List.reduceReplicate, UInt8.reduceOfNat, UInt32.reduceOfNat, UInt64.reduceOfNat, Int.reduceLE, Int.reduceLT, Int.reduceNeg, Int.reduceToNat, Int.reduceAdd, Int.reduceSub, Int.reduceMul, Int.reduceEq, UInt64.reduceToNat, UInt8.reduceToNat, UInt32.reduceToNat]; rfl) (fun he => ?_) (fun he => ?_)
        · have he' : i < 64 := by have := of_decide_eq_true he; omega
          refine Tri.skp ?_
          refine Tri.seq (Tri.block ?_)
          refine Tri.seq (Tri.regT (cfgC_ok.pins _) ?_)
          repeat (first | refine RunT.one (by first | exact wantedA_none rfl | (simp only [go_sem, Bool.true_beq, Bool.false_beq]; done) | (simp only [go_sem, Bool.true_beq, Bool.false_beq]; with_reducible rfl)) (by simp (maxSteps := 2000000) (disch := first | decide | omega | (simp only [List.length_append, List.length_cons, List.length_nil, List.length_take, List.length_drop]; omega)) only [Tryd.f41, kMix, kTurn, cfgC, tyTab, shaG, hK, go_sem, ↓reduceIte, reduceCtorEq, Nat.reduceLT, Nat.reduceSub, Nat.reduceAdd, Nat.reduceMul, Nat.reduceEqDiff, Nat.reduceBEq, Nat.reduceBNe, Nat.reduceLeDiff, Nat.reduceDiv, Nat.reduceMod, Nat.reducePow, List.reduceReplicate, UInt8.reduceOfNat, UInt32.reduceOfNat, UInt64.reduceOfNat, Int.reduceLE, Int.reduceLT, Int.reduceNeg, Int.reduceToNat, Int.reduceAdd, Int.reduceSub, Int.reduceMul, Int.reduceEq, UInt64.reduceToNat, UInt8.reduceToNat, UInt32.reduceToNat]; rfl) (by simp only [go_sem, Nat.reduceBEq, Nat.reduceEqDiff, Nat.reduceAdd, ↓reduceIte, reduceCtorEq, List.reduceReplicate, List.replicate]; rfl) (by first | exact True.intro | (simp only [Obs, and_true, true_and]; omega) | (simp [Obs, AV.sizeL, AV.size, Kd.sz]; done) | (simp [Obs, AV.sizeL, AV.size, Kd.sz]; omega)) ?_ | refine RunT.not (by first | (simp only [go_sem, Bool.true_beq, Bool.false_beq]; done) | (simp only [go_sem, Bool.true_beq, Bool.false_beq]; with_reducible rfl)) (by simp only [go_sem, Nat.reduceBEq, Nat.reduceEqDiff, Nat.reduceAdd, ↓reduceIte, reduceCtorEq, List.reduceReplicate, List.replicate]; rfl) ?_)
          refine RunT.nil ?_
          refine Tri.seq (Tri.drwT (mixed) (cfgC_ok.pins _) ?_)
          repeat (first | refine RunD.one (by first | exact wantedA_none rfl | (simp only [go_sem, Bool.true_beq, Bool.false_beq]; done) | (simp only [go_sem, Bool.true_beq, Bool.false_beq]; with_reducible rfl)) (by simp (maxSteps := 2000000) (disch := first | decide | omega | (simp only [List.length_append, List.length_cons, List.length_nil, List.length_take, List.length_drop]; omega)) only [Tryd.f41, kMix, kTurn, cfgC, tyTab, shaG, hK, go_sem, ↓reduceIte, reduceCtorEq, Nat.reduceLT, Nat.reduceSub, Nat.reduceAdd, Nat.reduceMul, Nat.reduceEqDiff, Nat.reduceBEq, Nat.reduceBNe, Nat.reduceLeDiff, Nat.reduceDiv, Nat.reduceMod, Nat.reducePow, List.reduceReplicate, UInt8.reduceOfNat, UInt32.reduceOfNat, UInt64.reduceOfNat, Int.reduceLE, Int.reduceLT, Int.reduceNeg, Int.reduceToNat, Int.reduceAdd, Int.reduceSub, Int.reduceMul, Int.reduceEq, UInt64.reduceToNat, UInt8.reduceToNat, UInt32.reduceToNat]; rfl) (by simp only [go_sem, Nat.reduceBEq, Nat.reduceEqDiff, Nat.reduceAdd, ↓reduceIte, reduceCtorEq, List.reduceReplicate, List.replicate]; rfl) (by first | exact True.intro | (simp only [Obs, and_true, true_and]; omega) | (simp [Obs, AV.sizeL, AV.size, Kd.sz]; done) | (simp [Obs, AV.sizeL, AV.size, Kd.sz]; omega)) ?_ | refine RunD.not (by first | (simp only [go_sem, Bool.true_beq, Bool.false_beq]; done) | (simp only [go_sem, Bool.true_beq, Bool.false_beq]; with_reducible rfl)) (by simp only [go_sem, Nat.reduceBEq, Nat.reduceEqDiff, Nat.reduceAdd, ↓reduceIte, reduceCtorEq, List.reduceReplicate, List.replicate]; rfl) ?_)
          refine RunD.nil ?_
          refine ⟨by kernel_rfl, ?_⟩
          refine Tri.seq (Tri.regT (cfgC_ok.pins _) ?_)
          repeat (first | refine RunT.one (by first | exact wantedA_none rfl | (simp only [go_sem, Bool.true_beq, Bool.false_beq]; done) | (simp only [go_sem, Bool.true_beq, Bool.false_beq]; with_reducible rfl)) (by simp (maxSteps := 2000000) (disch := first | decide | omega | (simp only [List.length_append, List.length_cons, List.length_nil, List.length_take, List.length_drop]; omega)) only [Tryd.f41, kMix, kTurn, cfgC, tyTab, shaG, hK, go_sem, ↓reduceIte, reduceCtorEq, Nat.reduceLT, Nat.reduceSub, Nat.reduceAdd, Nat.reduceMul, Nat.reduceEqDiff, Nat.reduceBEq, Nat.reduceBNe, Nat.reduceLeDiff, Nat.reduceDiv, Nat.reduceMod, Nat.reducePow, List.reduceReplicate, UInt8.reduceOfNat, UInt32.reduceOfNat, UInt64.reduceOfNat, Int.reduceLE, Int.reduceLT, Int.reduceNeg, Int.reduceToNat, Int.reduceAdd, Int.reduceSub, Int.reduceMul, Int.reduceEq, UInt64.reduceToNat, UInt8.reduceToNat, UInt32.reduceToNat]; rfl) (by simp only [go_sem, Nat.reduceBEq, Nat.reduceEqDiff, Nat.reduceAdd, ↓reduceIte, reduceCtorEq, List.reduceReplicate, List.replicate]; rfl) (by first | exact True.intro | (simp only [Obs, and_true, true_and]; omega) | (simp [Obs, AV.sizeL, AV.size, Kd.sz]; done) | (simp [Obs, AV.sizeL, AV.size, Kd.sz]; omega)) ?_ | refine RunT.not (by first | (simp only [go_sem, Bool.true_beq, Bool.false_beq]; done) | (simp only [go_sem, Bool.true_beq, Bool.false_beq]; with_reducible rfl)) (by simp only [go_sem, Nat.reduceBEq, Nat.reduceEqDiff, Nat.reduceAdd, ↓reduceIte, reduceCtorEq, List.reduceReplicate, List.replicate]; rfl) ?_)
          refine RunT.nil ?_
          refine Tri.seq (Tri.regT (cfgC_ok.pins _) ?_)
          repeat (first | refine RunT.one (by first | exact wantedA_none rfl | (simp only [go_sem, Bool.true_beq, Bool.false_beq]; done) | (simp only [go_sem, Bool.true_beq, Bool.false_beq]; with_reducible rfl)) (by simp (maxSteps := 2000000) (disch := first | decide | omega | (simp only [List.length_append, List.length_cons, List.length_nil, List.length_take, List.length_drop]; omega)) only [Tryd.f41, kMix, kTurn, cfgC, tyTab, shaG, hK, go_sem, ↓reduceIte, reduceCtorEq, Nat.reduceLT, Nat.reduceSub, Nat.reduceAdd, Nat.reduceMul, Nat.reduceEqDiff, Nat.reduceBEq, Nat.reduceBNe, Nat.reduceLeDiff, Nat.reduceDiv, Nat.reduceMod, Nat.reducePow, List.reduceReplicate, UInt8.reduceOfNat, UInt32.reduceOfNat, UInt64.reduceOfNat, Int.reduceLE, Int.reduceLT, Int.reduceNeg, Int.reduceToNat, Int.reduceAdd, Int.reduceSub, Int.reduceMul, Int.reduceEq, UInt64.reduceToNat, UInt8.reduceToNat, UInt32.reduceToNat]; rfl) (by simp only [go_sem, Nat.reduceBEq, Nat.reduceEqDiff, Nat.reduceAdd, ↓reduceIte, reduceCtorEq, List.reduceReplicate, List.replicate]; rfl) (by first | exact True.intro | (simp only [Obs, and_true, true_and]; omega) | (simp [Obs, AV.sizeL, AV.size, Kd.sz]; done) | (simp [Obs, AV.sizeL, AV.size, Kd.sz]; omega)) ?_ | refine RunT.not (by first | (simp only [go_sem, Bool.true_beq, Bool.false_beq]; done) | (simp only [go_sem, Bool.true_beq, Bool.false_beq]; with_reducible rfl)) (by simp only [go_sem, Nat.reduceBEq, Nat.reduceEqDiff, Nat.reduceAdd, ↓reduceIte, reduceCtorEq, List.reduceReplicate, List.replicate]; rfl) ?_)
          refine RunT.nil ?_
          refine Tri.seq (Tri.drwT (mixed) (cfgC_ok.pins _) ?_)
          repeat (first | refine RunD.one (by first | exact wantedA_none rfl | (simp only [go_sem, Bool.true_beq, Bool.false_beq]; done) | (simp only [go_sem, Bool.true_beq, Bool.false_beq]; with_reducible rfl)) (by simp (maxSteps := 2000000) (disch := first | decide | omega | (simp only [List.length_append, List.length_cons, List.length_nil, List.length_take, List.length_drop]; omega)) only [Tryd.f41, kMix, kTurn, cfgC, tyTab, shaG, hK, go_sem, ↓reduceIte, reduceCtorEq, Nat.reduceLT, Nat.reduceSub, Nat.reduceAdd, Nat.reduceMul, Nat.reduceEqDiff, Nat.reduceBEq, Nat.reduceBNe, Nat.reduceLeDiff, Nat.reduceDiv, Nat.reduceMod, Nat.reducePow, List.reduceReplicate, UInt8.reduceOfNat, UInt32.reduceOfNat, UInt64.reduceOfNat, Int.reduceLE, Int.reduceLT, Int.reduceNeg, Int.reduceToNat, Int.reduceAdd, Int.reduceSub, Int.reduceMul, Int.reduceEq, UInt64.reduceToNat, UInt8.reduceToNat, UInt32.reduceToNat]; rfl) (by simp only [go_sem, Nat.reduceBEq, Nat.reduceEqDiff, Nat.reduceAdd, ↓reduceIte, reduceCtorEq, List.reduceReplicate, List.replicate]; rfl) (by first | exact True.intro | (simp only [Obs, and_true, true_and]; omega) | (simp [Obs, AV.sizeL, AV.size, Kd.sz]; done) | (simp [Obs, AV.sizeL, AV.size, Kd.sz]; omega)) ?_ | refine RunD.not (by first | (simp only [go_sem, Bool.true_beq, Bool.false_beq]; done) | (simp only [go_sem, Bool.true_beq, Bool.false_beq]; with_reducible rfl)) (by simp only [go_sem, Nat.reduceBEq, Nat.reduceEqDiff, Nat.reduceAdd, ↓reduceIte, reduceCtorEq, List.reduceReplicate, List.replicate]; rfl) ?_)
          refine RunD.nil ?_
          refine ⟨by kernel_rfl, ?_⟩
          refine Tri.seq (Tri.drwT (mixed) (cfgC_ok.pins _) ?_)
          repeat (first | refine RunD.one (by first | exact wantedA_none rfl | (simp only [go_sem, Bool.true_beq, Bool.false_beq]; done) | (simp only [go_sem, Bool.true_beq, Bool.false_beq]; with_reducible rfl)) (by simp (maxSteps := 2000000) (disch := first | decide | omega | (simp only [List.length_append, List.length_cons, List.length_nil, List.length_take, List.length_drop]; omega)) only [Tryd.f41, kMix, kTurn, cfgC, tyTab, shaG, hK, go_sem, ↓reduceIte, reduceCtorEq, Nat.reduceLT, Nat.reduceSub, Nat.reduceAdd, Nat.reduceMul, Nat.reduceEqDiff, Nat.reduceBEq, Nat.reduceBNe, Nat.reduceLeDiff, Nat.reduceDiv, Nat.reduceMod, Nat.reducePow, List.reduceReplicate, UInt8.reduceOfNat, UInt32.reduceOfNat, UInt64.reduceOfNat, Int.reduceLE, Int.reduceLT, Int.reduceNeg, Int.reduceToNat, Int.reduceAdd, Int.reduceSub, Int.reduceMul, Int.reduceEq, UInt64.reduceToNat, UInt8.reduceToNat, UInt32.reduceToNat]; rfl) (by simp only [go_sem, Nat.reduceBEq, Nat.reduceEqDiff, Nat.reduceAdd, ↓reduceIte, reduceCtorEq, List.reduceReplicate, List.replicate]; rfl) (by first | exact True.intro | (simp only [Obs, and_true, true_and]; omega) | (simp [Obs, AV.sizeL, AV.size, Kd.sz]; done) | (simp [Obs, AV.sizeL, AV.size, Kd.sz]; omega)) ?_ | refine RunD.not (by first | (simp only [go_sem, Bool.true_beq, Bool.false_beq]; done) | (simp only [go_sem, Bool.true_beq, Bool.false_beq]; with_reducible rfl)) (by simp only [go_sem, Nat.reduceBEq, Nat.reduceEqDiff, Nat.reduceAdd, ↓reduceIte, reduceCtorEq, List.reduceReplicate, List.replicate]; rfl) ?_)
          refine RunD.nil ?_
          refine ⟨by kernel_rfl, ?_⟩
          refine Tri.seq (Tri.regT (cfgC_ok.pins _) ?_)
          repeat (first | refine RunT.one (by first | exact wantedA_none rfl | (simp only [go_sem, Bool.true_beq, Bool.false_beq]; done) | (simp only [go_sem, Bool.true_beq, Bool.false_beq]; with_reducible rfl)) (by simp (maxSteps := 2000000) (disch := first | decide | omega | (simp only [List.length_append, List.length_cons, List.length_nil, List.length_take, List.length_drop]; omega)) only [Tryd.f41, kMix, kTurn, cfgC, tyTab, shaG, hK, go_sem, ↓reduceIte, reduceCtorEq, Nat.reduceLT, Nat.reduceSub, Nat.reduceAdd, Nat.reduceMul, Nat.reduceEqDiff, Nat.reduceBEq, Nat.reduceBNe, Nat.reduceLeDiff, Nat.reduceDiv, Nat.reduceMod, Nat.reducePow, List.reduceReplicate, UInt8.reduceOfNat, UInt32.reduceOfNat, UInt64.reduceOfNat, Int.reduceLE, Int.reduceLT, Int.reduceNeg, Int.reduceToNat, Int.reduceAdd, Int.reduceSub, Int.reduceMul, Int.reduceEq, UInt64.reduceToNat, UInt8.reduceToNat, UInt32.reduceToNat]; rfl) (by simp only [go_sem, Nat.reduceBEq, Nat.reduceEqDiff, Nat.reduceAdd, ↓reduceIte, reduceCtorEq, List.reduceReplicate, List.replicate]; rfl) (by first | exact True.intro | (simp only [Obs, and_true, true_and]; omega) | (simp [Obs, AV.sizeL, AV.size, Kd.sz]; done) | (simp [Obs, AV.sizeL, AV.size, Kd.sz]; omega)) ?_ | refine RunT.not (by first | (simp only [go_sem, Bool.true_beq, Bool.false_beq]; done) | (simp only [go_sem, Bool.true_beq, Bool.false_beq]; with_reducible rfl)) (by simp only [go_sem, Nat.reduceBEq, Nat.reduceEqDiff, Nat.reduceAdd, ↓reduceIte, reduceCtorEq, List.reduceReplicate, List.replicate]; rfl) ?_)
          refine RunT.nil ?_
          refine (Tri.rgnT (cfgC_ok.pins _) ?_)
          repeat (first | refine RunT.one (by first | exact wantedA_none rfl | (simp only [go_sem, Bool.true_beq, Bool.false_beq]; done) | (simp only [go_sem, Bool.true_beq, Bool.false_beq]; with_reducible rfl)) (by simp (maxSteps := 2000000) (disch := first | decide | omega | (simp only [List.length_append, List.length_cons, List.length_nil, List.length_take, List.length_drop]; omega)) only [Tryd.f41, kMix, kTurn, cfgC, tyTab, shaG, hK, go_sem, ↓reduceIte, reduceCtorEq, Nat.reduceLT, Nat.reduceSub, Nat.reduceAdd, Nat.reduceMul, Nat.reduceEqDiff, Nat.reduceBEq, Nat.reduceBNe, Nat.reduceLeDiff, Nat.reduceDiv, Nat.reduceMod, Nat.reducePow, List.reduceReplicate, UInt8.reduceOfNat, UInt32.reduceOfNat, UInt64.reduceOfNat, Int.reduceLE, Int.reduceLT, Int.reduceNeg, Int.reduceToNat, Int.reduceAdd, Int.reduceSub, Int.reduceMul, Int.reduceEq, UInt64.reduceToNat, UInt8.reduceToNat, UInt32.reduceToNat]; rfl) (by simp only [go_sem, Nat.reduceBEq, Nat.reduceEqDiff, Nat.reduceAdd, ↓reduceIte, reduceCtorEq, List.reduceReplicate, List.replicate]; rfl) (by first | exact True.intro | (simp only [Obs, and_true, true_and]; omega) | (simp [Obs, AV.sizeL, AV.size, Kd.sz]; done) | (simp [Obs, AV.sizeL, AV.size, Kd.sz]; omega)) ?_ | refine RunT.not (by first | (simp only [go_sem, Bool.true_beq, Bool.false_beq]; done) | (simp only [go_sem, Bool.true_beq, Bool.false_beq]; with_reducible rfl)) (by simp only [go_sem, Nat.reduceBEq, Nat.reduceEqDiff, Nat.reduceAdd, ↓reduceIte, reduceCtorEq, List.reduceReplicate, List.replicate]; rfl) ?_)
          refine RunT.nil ?_
          try simp only [InBlock, Then]
          refine (Tri.rgnT (cfgC_ok.pins _) ?_)
          repeat (first | refine RunT.one (by first | exact wantedA_none rfl | (simp only [go_sem, Bool.true_beq, Bool.false_beq]; done) | (simp only [go_sem, Bool.true_beq, Bool.false_beq]; with_reducible rfl)) (by simp (maxSteps := 2000000) (disch := first | decide | omega | (simp only [List.length_append, List.length_cons, List.length_nil, List.length_take, List.length_drop]; omega)) only [Tryd.f41, kMix, kTurn, cfgC, tyTab, shaG, hK, go_sem, ↓reduceIte, reduceCtorEq, Nat.reduceLT, Nat.reduceSub, Nat.reduceAdd, Nat.reduceMul, Nat.reduceEqDiff, Nat.reduceBEq, Nat.reduceBNe, Nat.reduceLeDiff, Nat.reduceDiv, Nat.reduceMod, Nat.reducePow, List.reduceReplicate, UInt8.reduceOfNat, UInt32.reduceOfNat, UInt64.reduceOfNat, Int.reduceLE, Int.reduceLT, Int.reduceNeg, Int.reduceToNat, Int.reduceAdd, Int.reduceSub, Int.reduceMul, Int.reduceEq, UInt64.reduceToNat, UInt8.reduceToNat, UInt32.reduceToNat]; rfl) (by simp only [go_sem, Nat.reduceBEq, Nat.reduceEqDiff, Nat.reduceAdd, ↓reduceIte, reduceCtorEq, List.reduceReplicate, List.replicate]; rfl) (by first | exact True.intro | (simp only [Obs, and_true, true_and]; omega) | (simp [Obs, AV.sizeL, AV.size, Kd.sz]; done) | (simp [Obs, AV.sizeL, AV.size, Kd.sz]; omega)) ?_ | refine RunT.not (by first | (simp only [go_sem, Bool.true_beq, Bool.false_beq]; done) | (simp only [go_sem, Bool.true_beq, Bool.false_beq]; with_reducible rfl)) (by simp only [go_sem, Nat.reduceBEq, Nat.reduceEqDiff, Nat.reduceAdd, ↓reduceIte, reduceCtorEq, List.reduceReplicate, List.replicate]; rfl) ?_)
          refine RunT.nil ?_
          try simp only [InBlock, Then]
          refine ⟨i+1, (by omega), (by omega), Wk.of ?_ ?_ rfl rfl⟩
          · simp only [lessTs, List.reduceReplicate, List.cons_append, List.nil_append, rnI, hs] <;> ((repeat' apply And.intro) <;> first | rfl | trivial)
          · simp only [lessHs, rnI, hs] <;> ((repeat' apply And.intro) <;> first | rfl | trivial)
        · have he' : i = 64 := by have := of_decide_eq_false he; omega
          subst he'
          subst hs
          refine Tri.exit ?_
          simp only [Then, InBlock, if_true]
          generalize hs : rnI st K W 64 = s
          refine Tri.seq (Tri.seq ?_)
          refine Tri.at (by first | (simp only [Tryd.f41, kMix, kTurn, cfgC, tyTab, shaG, hK, Con.start, go_sem, ↓reduceIte, reduceCtorEq, Nat.reduceLT, Nat.reduceSub, Nat.reduceAdd, Nat.reduceMul, Nat.reduceEqDiff, Nat.reduceBEq, Nat.reduceBNe, Nat.reduceLeDiff, Nat.reduceDiv, Nat.reduceMod, Nat.reducePow, List.reduceReplicate, UInt8.reduceOfNat, UInt32.reduceOfNat, UInt64.reduceOfNat, Int.reduceLE, Int.reduceLT, Int.reduceNeg, Int.reduceToNat, Int.reduceAdd, Int.reduceSub, Int.reduceMul, Int.reduceEq, UInt64.reduceToNat, UInt8.reduceToNat, UInt32.reduceToNat]; rfl) | rfl) ?_
          refine (Tri.rgnT (cfgC_ok.pins _) ?_)
          repeat (first | refine RunT.one (by first | exact wantedA_none rfl | (simp only [go_sem, Bool.true_beq, Bool.false_beq]; done) | (simp only [go_sem, Bool.true_beq, Bool.false_beq]; with_reducible rfl)) (by simp (maxSteps := 2000000) (disch := first | decide | omega | (simp only [List.length_append, List.length_cons, List.length_nil, List.length_take, List.length_drop]; omega)) only [Tryd.f41, kMix, kTurn, cfgC, tyTab, shaG, hK, go_sem, ↓reduceIte, reduceCtorEq, Nat.reduceLT, Nat.reduceSub, Nat.reduceAdd, Nat.reduceMul, Nat.reduceEqDiff, Nat.reduceBEq, Nat.reduceBNe, Nat.reduceLeDiff, Nat.reduceDiv, Nat.reduceMod, Nat.reducePow, List.reduceReplicate, UInt8.reduceOfNat, UInt32.reduceOfNat, UInt64.reduceOfNat, Int.reduceLE, Int.reduceLT, Int.reduceNeg, Int.reduceToNat, Int.reduceAdd, Int.reduceSub, Int.reduceMul, Int.reduceEq, UInt64.reduceToNat, UInt8.reduceToNat, UInt32.reduceToNat]; rfl) (by simp only [go_sem, Nat.reduceBEq, Nat.reduceEqDiff, Nat.reduceAdd, ↓reduceIte, reduceCtorEq, List.reduceReplicate, List.replicate]; rfl) (by first | exact True.intro | (simp only [Obs, and_true, true_and]; omega) | (simp [Obs, AV.sizeL, AV.size, Kd.sz]; done) | (simp [Obs, AV.sizeL, AV.size, Kd.sz]; omega)) ?_ | refine RunT.not (by first | (simp only [go_sem, Bool.true_beq, Bool.false_beq]; done) | (simp only [go_sem, Bool.true_beq, Bool.false_beq]; with_reducible rfl)) (by simp only [go_sem, Nat.reduceBEq, Nat.reduceEqDiff, Nat.reduceAdd, ↓reduceIte, reduceCtorEq, List.reduceReplicate, List.replicate]; rfl) ?_)
          refine RunT.nil ?_
          try simp only [InBlock, Then]
          refine Tri.block ?_
          refine Tri.loop (fun i : Nat => (⟨[none, none, none, none, some (.ptr 2 [] 0), none, none, none, none, some (.ptr 4 [] 0), none, none, none, none, none, none, none, none, none, none, none, none, none, none, none, none, none, none, none, none, none, none, none, none, none, none, none, none, none, none, none, none, none, none, none, none, none, none, none, none, none, none, none, none, none, none, none, none, none, none, none, none, none, none, none, none, none, none, none, none, none, none, none, none, none, none, none, none, none, none, none, none, none, none, none, none, none, none, none, none, none, none, none, none, none, none, none, none, none, none, none, none, none, none, none, none, none, none, none, none, none, none, none, none, none, none, none, none, none, none, none, none, none, none, none, none, none, none, none, none, none, none, none, some (.pure w8 st), some (.int .i64 (i : Int))] ++ List.replicate 11 none, [.live (.pure w8 st), .live (.pure c64 p), .live (.pure w8 Z), .live (.pure w64 W), .live (.pure w8 (fiI st s i))]⟩ : AS)) (· ≤ 8) (fun k => 8 - k) 0 ?_ (Nat.zero_le _) ?_
          · refine Wk.of ?_ ?_ rfl rfl
            · simp only [lessTs, List.reduceReplicate, List.cons_append, List.nil_append, fiI] <;> ((repeat' apply And.intro) <;> first | rfl | trivial)
            · simp only [lessHs, fiI] <;> ((repeat' apply And.intro) <;> first | rfl | trivial)
          · intro i hi
            refine Tri.at (by first | (simp only [Tryd.f41, kMix, kTurn, cfgC, tyTab, shaG, hK, Con.start, go_sem, ↓reduceIte, reduceCtorEq, Nat.reduceLT, Nat.reduceSub, Nat.reduceAdd, Nat.reduceMul, Nat.reduceEqDiff, Nat.reduceBEq, Nat.reduceBNe, Nat.reduceLeDiff, Nat.reduceDiv, Nat.reduceMod, Nat.reducePow, List.reduceReplicate, UInt8.reduceOfNat, UInt32.reduceOfNat, UInt64.reduceOfNat, Int.reduceLE, Int.reduceLT, Int.reduceNeg, Int.reduceToNat, Int.reduceAdd, Int.reduceSub, Int.reduceMul, Int.reduceEq, UInt64.reduceToNat, UInt8.reduceToNat, UInt32.reduceToNat]; rfl) | rfl) ?_
            refine Tri.seq (Tri.regT (cfgC_ok.pins _) ?_)
            repeat (first | refine RunT.one (by first | exact wantedA_none rfl | (simp only [go_sem, Bool.true_beq, Bool.false_beq]; done) | (simp only [go_sem, Bool.true_beq, Bool.false_beq]; with_reducible rfl)) (by simp (maxSteps := 2000000) (disch := first | decide | omega | (simp only [List.length_append, List.length_cons, List.length_nil, List.length_take, List.length_drop]; omega)) only [Tryd.f41, kMix, kTurn, cfgC, tyTab, shaG, hK, go_sem, ↓reduceIte, reduceCtorEq, Nat.reduceLT, Nat.reduceSub, Nat.reduceAdd, Nat.reduceMul, Nat.reduceEqDiff, Nat.reduceBEq, Nat.reduceBNe, Nat.reduceLeDiff, Nat.reduceDiv, Nat.reduceMod, Nat.reducePow, List.reduceReplicate, UInt8.reduceOfNat, UInt32.reduceOfNat, UInt64.reduceOfNat, Int.reduceLE, Int.reduceLT, Int.reduceNeg, Int.reduceToNat, Int.reduceAdd, Int.reduceSub, Int.reduceMul, Int.reduceEq, UInt64.reduceToNat, UInt8.reduceToNat, UInt32.reduceToNat]; rfl) (by simp only [go_sem, Nat.reduceBEq, Nat.reduceEqDiff, Nat.reduceAdd, ↓reduceIte, reduceCtorEq, List.reduceReplicate, List.replicate]; rfl) (by first | exact True.intro | (simp only [Obs, and_true, true_and]; omega) | (simp [Obs, AV.sizeL, AV.size, Kd.sz]; done) | (simp [Obs, AV.sizeL, AV.size, Kd.sz]; omega)) ?_ | refine RunT.not (by first | (simp only [go_sem, Bool.true_beq, Bool.false_beq]; done) | (simp only [go_sem, Bool.true_beq, Bool.false_beq]; with_reducible rfl)) (by simp only [go_sem, Nat.reduceBEq, Nat.reduceEqDiff, Nat.reduceAdd, ↓reduceIte, reduceCtorEq, List.reduceReplicate, List.replicate]; rfl) ?_)
            refine RunT.nil ?_
            refine Tri.seq ?_
            refine Tri.split (by simp only [AS.ev, go_sem, ↓reduceIte, reduceCtorEq, Nat.reduceLT, Nat.reduceSub, Nat.reduceAdd, Nat.reduceMul, Nat.reduceEqDiff, Nat.reduceBEq, Nat.reduceBNe, Nat.reduceLeDiff, Nat.reduceDiv, Nat.reduceMod, Nat.reducePow, List.reduceReplicate, UInt8.reduceOfNat, UInt32.reduceOfNat, UInt64.reduceOfNat, Int.reduceLE, Int.reduceLT, Int.reduceNeg, Int.reduceToNat, Int.reduceAdd, Int.reduceSub, Int.reduceMul, Int.reduceEq, UInt64.reduceToNat, UInt8.reduceToNat, UInt32.reduceToNat]; rfl) (fun he => ?_) (fun he => ?_)
            · have he' : i < 8 := by have := of_decide_eq_true he; omega
              refine Tri.skp ?_
              refine Tri.seq (Tri.block ?_)
              refine Tri.seq (Tri.regT (cfgC_ok.pins _) ?_)
              repeat (first | refine RunT.one (by first | exact wantedA_none rfl | (simp only [go_sem, Bool.true_beq, Bool.false_beq]; done) | (simp only [go_sem, Bool.true_beq, Bool.false_beq]; with_reducible rfl)) (by simp (maxSteps := 2000000) (disch := first | decide | omega | (simp only [List.length_append, List.length_cons, List.length_nil, List.length_take, List.length_drop]; omega)) only [Tryd.f41, kMix, kTurn, cfgC, tyTab, shaG, hK, go_sem, ↓reduceIte, reduceCtorEq, Nat.reduceLT, Nat.reduceSub, Nat.reduceAdd, Nat.reduceMul, Nat.reduceEqDiff, Nat.reduceBEq, Nat.reduceBNe, Nat.reduceLeDiff, Nat.reduceDiv, Nat.reduceMod, Nat.reducePow, List.reduceReplicate, UInt8.reduceOfNat, UInt32.reduceOfNat, UInt64.reduceOfNat, Int.reduceLE, Int.reduceLT, Int.reduceNeg, Int.reduceToNat, Int.reduceAdd, Int.reduceSub, Int.reduceMul, Int.reduceEq, UInt64.reduceToNat, UInt8.reduceToNat, UInt32.reduceToNat]; rfl) (by simp only [go_sem, Nat.reduceBEq, Nat.reduceEqDiff, Nat.reduceAdd, ↓reduceIte, reduceCtorEq, List.reduceReplicate, List.replicate]; rfl) (by first | exact True.intro | (simp only [Obs, and_true, true_and]; omega) | (simp [Obs, AV.sizeL, AV.size, Kd.sz]; done) | (simp [Obs, AV.sizeL, AV.size, Kd.sz]; omega)) ?_ | refine RunT.not (by first | (simp only [go_sem, Bool.true_beq, Bool.false_beq]; done) | (simp only [go_sem, Bool.true_beq, Bool.false_beq]; with_reducible rfl)) (by simp only [go_sem, Nat.reduceBEq, Nat.reduceEqDiff, Nat.reduceAdd, ↓reduceIte, reduceCtorEq, List.reduceReplicate, List.replicate]; rfl) ?_)
              refine RunT.nil ?_
              refine (Tri.rgnT (cfgC_ok.pins _) ?_)
              repeat (first | refine RunT.one (by first | exact wantedA_none rfl | (simp only [go_sem, Bool.true_beq, Bool.false_beq]; done) | (simp only [go_sem, Bool.true_beq, Bool.false_beq]; with_reducible rfl)) (by simp (maxSteps := 2000000) (disch := first | decide | omega | (simp only [List.length_append, List.length_cons, List.length_nil, List.length_take, List.length_drop]; omega)) only [Tryd.f41, kMix, kTurn, cfgC, tyTab, shaG, hK, go_sem, ↓reduceIte, reduceCtorEq, Nat.reduceLT, Nat.reduceSub, Nat.reduceAdd, Nat.reduceMul, Nat.reduceEqDiff, Nat.reduceBEq, Nat.reduceBNe, Nat.reduceLeDiff, Nat.reduceDiv, Nat.reduceMod, Nat.reducePow, List.reduceReplicate, UInt8.reduceOfNat, UInt32.reduceOfNat, UInt64.reduceOfNat, Int.reduceLE, Int.reduceLT, Int.reduceNeg, Int.reduceToNat, Int.reduceAdd, Int.reduceSub, Int.reduceMul, Int.reduceEq, UInt64.reduceToNat, UInt8.reduceToNat, UInt32.reduceToNat]; rfl) (by simp only [go_sem, Nat.reduceBEq, Nat.reduceEqDiff, Nat.reduceAdd, ↓reduceIte, reduceCtorEq, List.reduceReplicate, List.replicate]; rfl) (by first | exact True.intro | (simp only [Obs, and_true, true_and]; omega) | (simp [Obs, AV.sizeL, AV.size, Kd.sz]; done) | (simp [Obs, AV.sizeL, AV.size, Kd.sz]; omega)) ?_ | refine RunT.not (by first | (simp only [go_sem, Bool.true_beq, Bool.false_beq]; done) | (simp only [go_sem, Bool.true_beq, Bool.false_beq]; with_reducible rfl)) (by simp only [go_sem, Nat.reduceBEq, Nat.reduceEqDiff, Nat.reduceAdd, ↓reduceIte, reduceCtorEq, List.reduceReplicate, List.replicate]; rfl) ?_)
              refine RunT.nil ?_
              try simp only [InBlock, Then]
              refine (Tri.rgnT (cfgC_ok.pins _) ?_)
              repeat (first | refine RunT.one (by first | exact wantedA_none rfl | (simp only [go_sem, Bool.true_beq, Bool.false_beq]; done) | (simp only [go_sem, Bool.true_beq, Bool.false_beq]; with_reducible rfl)) (by simp (maxSteps := 2000000) (disch := first | decide | omega | (simp only [List.length_append, List.length_cons, List.length_nil, List.length_take, List.length_drop]; omega)) only [Tryd.f41, kMix, kTurn, cfgC, tyTab, shaG, hK, go_sem, ↓reduceIte, reduceCtorEq, Nat.reduceLT, Nat.reduceSub, Nat.reduceAdd, Nat.reduceMul, Nat.reduceEqDiff, Nat.reduceBEq, Nat.reduceBNe, Nat.reduceLeDiff, Nat.reduceDiv, Nat.reduceMod, Nat.reducePow, List.reduceReplicate, UInt8.reduceOfNat, UInt32.reduceOfNat, UInt64.reduceOfNat, Int.reduceLE, Int.reduceLT, Int.reduceNeg, Int.reduceToNat, Int.reduceAdd, Int.reduceSub, Int.reduceMul, Int.reduceEq, UInt64.reduceToNat, UInt8.reduceToNat, UInt32.reduceToNat]; rfl) (by simp only [go_sem, Nat.reduceBEq, Nat.reduceEqDiff, Nat.reduceAdd, ↓reduceIte, reduceCtorEq, List.reduceReplicate, List.replicate]; rfl) (by first | exact True.intro | (simp only [Obs, and_true, true_and]; omega) | (simp [Obs, AV.sizeL, AV.size, Kd.sz]; done) | (simp [Obs, AV.sizeL, AV.size, Kd.sz]; omega)) ?_ | refine RunT.not (by first | (simp only [go_sem, Bool.true_beq, Bool.false_beq]; done) | (simp only [go_sem, Bool.true_beq, Bool.false_beq]; with_reducible rfl)) (by simp only [go_sem, Nat.reduceBEq, Nat.reduceEqDiff, Nat.reduceAdd, ↓reduceIte, reduceCtorEq, List.reduceReplicate, List.replicate]; rfl) ?_)
              refine RunT.nil ?_
              try simp only [InBlock, Then]
              refine ⟨i+1, (by omega), (by omega), Wk.of ?_ ?_ rfl rfl⟩
              · simp only [lessTs, List.reduceReplicate, List.cons_append, List.nil_append, fiI] <;> ((repeat' apply And.intro) <;> first | rfl | trivial)
              · simp only [lessHs, fiI] <;> ((repeat' apply And.intro) <;> first | rfl | trivial)
            · have he' : i = 8 := by have := of_decide_eq_false he; omega
              subst he'
              refine Tri.exit ?_
              simp only [Then, InBlock, if_true]
              refine Tri.seq (Tri.regT (cfgC_ok.pins _) ?_)
              repeat (first | refine RunT.one (by first | exact wantedA_none rfl | (simp only [go_sem, Bool.true_beq, Bool.false_beq]; done) | (simp only [go_sem, Bool.true_beq, Bool.false_beq]; with_reducible rfl)) (by simp (maxSteps := 2000000) (disch := first | decide | omega | (simp only [List.length_append, List.length_cons, List.length_nil, List.length_take, List.length_drop]; omega)) only [Tryd.f41, kMix, kTurn, cfgC, tyTab, shaG, hK, go_sem, ↓reduceIte, reduceCtorEq, Nat.reduceLT, Nat.reduceSub, Nat.reduceAdd, Nat.reduceMul, Nat.reduceEqDiff, Nat.reduceBEq, Nat.reduceBNe, Nat.reduceLeDiff, Nat.reduceDiv, Nat.reduceMod, Nat.reducePow, List.reduceReplicate, UInt8.reduceOfNat, UInt32.reduceOfNat, UInt64.reduceOfNat, Int.reduceLE, Int.reduceLT, Int.reduceNeg, Int.reduceToNat, Int.reduceAdd, Int.reduceSub, Int.reduceMul, Int.reduceEq, UInt64.reduceToNat, UInt8.reduceToNat, UInt32.reduceToNat]; rfl) (by simp only [go_sem, Nat.reduceBEq, Nat.reduceEqDiff, Nat.reduceAdd, ↓reduceIte, reduceCtorEq, List.reduceReplicate, List.replicate]; rfl) (by first | exact True.intro | (simp only [Obs, and_true, true_and]; omega) | (simp [Obs, AV.sizeL, AV.size, Kd.sz]; done) | (simp [Obs, AV.sizeL, AV.size, Kd.sz]; omega)) ?_ | refine RunT.not (by first | (simp only [go_sem, Bool.true_beq, Bool.false_beq]; done) | (simp only [go_sem, Bool.true_beq, Bool.false_beq]; with_reducible rfl)) (by simp only [go_sem, Nat.reduceBEq, Nat.reduceEqDiff, Nat.reduceAdd, ↓reduceIte, reduceCtorEq, List.reduceReplicate, List.replicate]; rfl) ?_)
              refine RunT.nil ?_
              refine Tri.ret ?_
              refine Con.fin (.inl rfl) (by simp only [Tryd.f41, cfgC, tyTab, resA, resA1, go_sem, ↓reduceIte, reduceCtorEq, Nat.reduceLT, Nat.reduceSub, Nat.reduceAdd, Nat.reduceMul, Nat.reduceEqDiff, Nat.reduceBEq, Nat.reduceBNe, Nat.reduceLeDiff, Nat.reduceDiv, Nat.reduceMod, Nat.reducePow, List.reduceReplicate, UInt8.reduceOfNat, UInt32.reduceOfNat, UInt64.reduceOfNat, Int.reduceLE, Int.reduceLT, Int.reduceNeg, Int.reduceToNat, Int.reduceAdd, Int.reduceSub, Int.reduceMul, Int.reduceEq, UInt64.reduceToNat, UInt8.reduceToNat, UInt32.reduceToNat]; rfl) (by simp only [Obs, and_true, true_and]) (by rw [← hs, ← hK, ← hW]; rfl) trivial rfl rfl
theorem mix_sum : FSumOK Tryd.prog cfgC.G 41 kMix.sum := Con.sumOK cfgC_ok kMix Tryd.func41 rfl rfl (Con.of_inv _ _ _) mix_body
end Go.Proofs.YticgfjalikmniaaDoor

namespace Go.Proofs.YticgfjalikmniaaDoor
open Go.Vc Go.Proofs
set_option linter.unusedSimpArgs false
set_option linter.unusedVariables false
set_option maxRecDepth 10000
set_option maxHeartbeats 4000000
-- SEM
abbrev hasF : List FK := [.f w8, .s (.int .u8), .f (.int .u64)]
def kNewH : Con := Con.of [] (fun _ => []) (fun _ => ⟨.ptr 0 [] 0, [.agg [.pure w8 stt0, .tsl 1 [] 0 0 1 0, .int .u64 0], .pure (.arr 0 (.int .u8)) []]⟩)
theorem newH_body (p : kNewH.Par) (hp : ∀ q ∈ kNewH.pre p, q) : BodyOK Tryd.prog cfgC Tryd.f20 (Tryd.f20.body.get rfl) kNewH p := by
  refine ⟨?_, Nat.zero_le _, rfl, rfl⟩
  show Tri _ _ _ (Code.seq _ (Code.seq _ _)) _
  refine Tri.at (by first | (simp only [Tryd.f20, kNewH, cfgC, tyTab, shaG, hasT, Con.start, go_sem, ↓reduceIte, reduceCtorEq, Nat.reduceLT, Nat.reduceSub, Nat.reduceAdd, Nat.reduceMul, Nat.reduceEqDiff, Nat.reduceBEq, Nat.reduceBNe, Nat.reduceLeDiff, Nat.reduceDiv, Nat.reduceMod, Nat.reducePow, List.reduceReplicate, UInt8.reduceOfNat, UInt32.reduceOfNat, UInt64.reduceOfNat, Int.reduceLE, Int.reduceLT, Int.reduceNeg, Int.reduceToNat, Int.reduceAdd, Int.reduceSub, Int.reduceMul, Int.reduceEq, UInt64.reduceToNat, UInt8.reduceToNat, UInt32.reduceToNat]; rfl) | rfl) ?_
  refine Tri.seq (Tri.regT (cfgC_ok.pins _) ?_)
  repeat (first | refine RunT.one (by first | exact wantedA_none rfl | (simp only [go_sem, Bool.true_beq, Bool.false_beq]; done) | (simp only [go_sem, Bool.true_beq, Bool.false_beq]; with_reducible rfl)) (by simp (maxSteps := 2000000) (disch := first | decide | omega | (simp only [List.length_append, List.length_cons, List.length_nil, List.length_take, List.length_drop]; omega)) only [Tryd.f20, kNewH, cfgC, tyTab, shaG, hasT, go_sem, ↓reduceIte, reduceCtorEq, Nat.reduceLT, Nat.reduceSub, Nat.reduceAdd, Nat.reduceMul, Nat.reduceEqDiff, Nat.reduceBEq, Nat.reduceBNe, Nat.reduceLeDiff, Nat.reduceDiv, Nat.reduceMod, Nat.reducePow, List.reduceReplicate, UInt8.reduceOfNat, UInt32.reduceOfNat, UInt64.reduceOfNat, Int.reduceLE, Int.reduceLT, Int.reduceNeg, Int.reduceToNat, Int.reduceAdd, Int.reduceSub, Int.reduceMul, Int.reduceEq, UInt64.reduceToNat, UInt8.reduceToNat, UInt32.reduceToNat]; rfl) (by simp only [go_sem, Nat.reduceBEq, Nat.reduceEqDiff, Nat.reduceAdd, ↓reduceIte, reduceCtorEq, List.reduceReplicate, List.replicate]; rfl) (by first | exact True.intro | (simp only [Obs, and_true, true_and]; omega) | (simp [Obs, AV.sizeL, AV.size, Kd.sz]; done) | (simp [Obs, AV.sizeL, AV.size, Kd.sz]; omega)) ?_ | refine RunT.not (by first | (simp only [go_sem, Bool.true_beq, Bool.false_beq]; done) | (simp only [go_sem, Bool.true_beq, Bool.false_beq]; with_reducible rfl)) (by simp only [go_sem, Nat.reduceBEq, Nat.reduceEqDiff, Nat.reduceAdd, ↓reduceIte, reduceCtorEq, List.reduceReplicate, List.replicate]; rfl) ?_)
  refine RunT.nil ?_
  generalize hS0 : stt0 = S0
  refine Tri.seq (Tri.regT (cfgC_ok.pins _) ?_)
  repeat (first | refine RunT.one (by first | exact wantedA_none rfl | (simp only [go_sem, Bool.true_beq, Bool.false_beq]; done) | (simp only [go_sem, Bool.true_beq, Bool.false_beq]; with_reducible rfl)) (by simp (maxSteps := 2000000) (disch := first | decide | omega | (simp only [List.length_append, List.length_cons, List.length_nil, List.length_take, List.length_drop]; omega)) only [Tryd.f20, kNewH, cfgC, tyTab, shaG, hasT, hS0, go_sem, ↓reduceIte, reduceCtorEq, Nat.reduceLT, Nat.reduceSub, Nat.reduceAdd, Nat.reduceMul, Nat.reduceEqDiff, Nat.reduceBEq, Nat.reduceBNe, Nat.reduceLeDiff, Nat.reduceDiv, Nat.reduceMod, Nat.reducePow, List.reduceReplicate, UInt8.reduceOfNat, UInt32.reduceOfNat, UInt64.reduceOfNat, Int.reduceLE, Int.reduceLT, Int.reduceNeg, Int.reduceToNat, Int.reduceAdd, Int.reduceSub, Int.reduceMul, Int.reduceEq, UInt64.reduceToNat, UInt8.reduceToNat, UInt32.reduceToNat]; rfl) (by simp only [go_sem, Nat.reduceBEq, Nat.reduceEqDiff, Nat.reduceAdd, ↓reduceIte, reduceCtorEq, List.reduceReplicate, List.replicate]; rfl) (by first | exact True.intro | (simp only [Obs, and_true, true_and]; omega) | (simp [Obs, AV.sizeL, AV.size, Kd.sz]; done) | (simp [Obs, AV.sizeL, AV.size, Kd.sz]; omega)) ?_ | refine RunT.not (by first | (simp only [go_sem, Bool.true_beq, Bool.false_beq]; done) | (simp only [go_sem, Bool.true_beq, Bool.false_beq]; with_reducible rfl)) (by simp only [go_sem, Nat.reduceBEq, Nat.reduceEqDiff, Nat.reduceAdd, ↓reduceIte, reduceCtorEq, List.reduceReplicate, List.replicate]; rfl) ?_)
  refine RunT.nil ?_
  refine Tri.ph 0 1 (.int .u8) 1 rfl rfl rfl ?_
  refine Tri.ret ?_
  refine Con.fin (.inl rfl) (by simp only [Tryd.f20, cfgC, tyTab, resA, resA1, go_sem, ↓reduceIte, reduceCtorEq, Nat.reduceLT, Nat.reduceSub, Nat.reduceAdd, Nat.reduceMul, Nat.reduceEqDiff, Nat.reduceBEq, Nat.reduceBNe, Nat.reduceLeDiff, Nat.reduceDiv, Nat.reduceMod, Nat.reducePow, List.reduceReplicate, UInt8.reduceOfNat, UInt32.reduceOfNat, UInt64.reduceOfNat, Int.reduceLE, Int.reduceLT, Int.reduceNeg, Int.reduceToNat, Int.reduceAdd, Int.reduceSub, Int.reduceMul, Int.reduceEq, UInt64.reduceToNat, UInt8.reduceToNat, UInt32.reduceToNat]; rfl) (by simp only [Obs, and_true, true_and]) rfl ?_ rfl rfl
  refine ⟨?_, rfl, trivial⟩
  rw [← hS0]
  rfl
theorem newH_sum : FSumOK Tryd.prog cfgC.G 20 kNewH.sum := Con.sumOK cfgC_ok kNewH Tryd.func20 rfl rfl (Con.of_inv _ _ _) newH_body
/-- Chunks are mixed in. -/
def adS (st : List UInt32) (A : List UInt8) : Nat → List UInt32
  | 0 => st
  | k + 1 => mixS (adS st A k) (List.take 64 (List.drop (64 * k) A))
theorem rnS_len (s : List UInt32) (k w : UInt32) (h : s.length = 8) : (rnS s k w).length = 8 := by
  simp only [rnS, cpS, List.length_set, List.length_append, List.length_take, List.length_drop, h]
  rfl
theorem rnI_len (s K w : List UInt32) (h : s.length = 8) : ∀ i, (rnI s K w i).length = 8
  | 0 => h
  | i + 1 => rnS_len _ _ _ (rnI_len s K w h i)
theorem fiI_len (st s : List UInt32) (h : s.length = 8) : ∀ i, (fiI st s i).length = 8
  | 0 => h
  | i + 1 => by simp only [fiI, List.length_set]; exact fiI_len st s h i
theorem mixS_len {st : List UInt32} (p : List UInt8) (h : st.length = 8) : (mixS st p).length = 8 := fiI_len _ _ (rnI_len _ _ _ h _) _
theorem adS_len {st : List UInt32} (A : List UInt8) (h : st.length = 8) : ∀ k, (adS st A k).length = 8
  | 0 => h
  | k + 1 => mixS_len _ (adS_len A h k)
def addA (r : SV UInt8) (b : List UInt8) : List UInt8 := List.take r.len (List.drop r.i r.xs) ++ b
def kAdd : Con := Con.ofO [.o hasF, .a (.v (.slice false (.int .u8)))] [1]
  (fun x => [List.length (α := UInt32) x.1.1 = 8, x.1.2.1.i + x.1.2.1.len ≤ x.1.2.1.N, x.1.2.1.len + List.length (α := UInt8) x.2.1 ≤ 1048576])
  (fun x => ⟨.tuple [], [.agg [.pure w8 (adS x.1.1 (addA x.1.2.1 x.2.1) ((x.1.2.1.len + List.length (α := UInt8) x.2.1) / 64)),
      .tsl 1 [] (64 * ((x.1.2.1.len + List.length (α := UInt8) x.2.1) / 64)) (64 * ((x.1.2.1.len + List.length (α := UInt8) x.2.1) / 64)) 1 (x.1.2.1.len + List.length (α := UInt8) x.2.1 - 64 * ((x.1.2.1.len + List.length (α := UInt8) x.2.1) / 64)),
      .int .u64 ((x.1.2.2.1 : UInt64) + UInt64.ofInt ((List.length (α := UInt8) x.2.1 : Nat) : Int))],
    .pure (.arr (x.1.2.1.len + List.length (α := UInt8) x.2.1) (.int .u8)) (addA x.1.2.1 x.2.1)]⟩)
def cfgD : Cfg2 := { ty := tyTab, fn := fun | 41 => some kMix.sum | _ => none, G := shaG, pin := [], eq := fun _ => none }
theorem cfgD_ok : CfgOK Tryd.prog cfgD := ⟨tysOK, (fun f s h => by
  simp only [cfgD] at h
  split at h
  · injection h with h; subst h; exact mix_sum
  · cases h), (fun t d h => by cases h)⟩
theorem add_body (p : kAdd.Par) (hp : ∀ q ∈ kAdd.pre p, q) : BodyOK Tryd.prog cfgD Tryd.f21 (Tryd.f21.body.get rfl) kAdd p := by
  obtain ⟨⟨(st : List UInt32), ⟨N, r0, rl, (xs : List UInt8)⟩, (cn : UInt64), u0⟩, (b : List UInt8), u⟩ := p
  obtain ⟨hst, hN, hL, _⟩ := Obs.of hp
  replace hst : st.length = 8 := hst
  replace hN : r0 + rl ≤ N := hN
  replace hL : rl + b.length ≤ 1048576 := hL
  refine ⟨?_, Nat.le_refl _, rfl, rfl⟩
  show Tri _ _ _ (Code.seq _ (Code.seq _ (Code.block _ (Code.loop (Code.seq (Code.seq _ (Code.cond _ _ _)) (Code.block _ (Code.seq _ _))))))) _
  refine Tri.at (by first | (simp only [Tryd.f21, kAdd, kMix, cfgD, tyTab, hasT, Con.ofO, argO, argO1, heapO, heapO1, fldF, blkF, OK.cnt, OK.cnt1, FK.cnt, AK.cnt, argA, heapA, Kd.sz, AV.ofKd, Con.start, go_sem, ↓reduceIte, reduceCtorEq, Nat.reduceLT, Nat.reduceSub, Nat.reduceAdd, Nat.reduceMul, Nat.reduceEqDiff, Nat.reduceBEq, Nat.reduceBNe, Nat.reduceLeDiff, Nat.reduceDiv, Nat.reduceMod, Nat.reducePow, List.reduceReplicate, UInt8.reduceOfNat, UInt32.reduceOfNat, UInt64.reduceOfNat, Int.reduceLE, Int.reduceLT, Int.reduceNeg, Int.reduceToNat, Int.reduceAdd, Int.reduceSub, Int.reduceMul, Int.reduceEq, UInt64.reduceToNat, UInt8.reduceToNat, UInt32.reduceToNat]; rfl) | rfl) ?_
  refine Tri.seq (Tri.regT (cfgD_ok.pins _) ?_)
  repeat (first | refine RunT.one (by first | exact wantedA_none rfl | (simp only [go_sem, Bool.true_beq, Bool.false_beq]; done) | (simp only [go_sem, Bool.true_beq, Bool.false_beq]; with_reducible rfl)) (by simp (maxSteps := 2000000) (disch := first | decide | omega | (simp only [List.length_append, List.length_cons, List.length_nil, List.length_take, List.length_drop]; omega)) only [Tryd.f21, kAdd, kMix, cfgD, tyTab, hasT, Con.ofO, argO, argO1, heapO, heapO1, fldF, blkF, OK.cnt, OK.cnt1, FK.cnt, AK.cnt, argA, heapA, Kd.sz, AV.ofKd, go_sem, ↓reduceIte, reduceCtorEq, Nat.reduceLT, Nat.reduceSub, Nat.reduceAdd, Nat.reduceMul, Nat.reduceEqDiff, Nat.reduceBEq, Nat.reduceBNe, Nat.reduceLeDiff, Nat.reduceDiv, Nat.reduceMod, Nat.reducePow, List.reduceReplicate, UInt8.reduceOfNat, UInt32.reduceOfNat, UInt64.reduceOfNat, Int.reduceLE, Int.reduceLT, Int.reduceNeg, Int.reduceToNat, Int.reduceAdd, Int.reduceSub, Int.reduceMul, Int.reduceEq, UInt64.reduceToNat, UInt8.reduceToNat, UInt32.reduceToNat]; rfl) (by simp only [go_sem, Nat.reduceBEq, Nat.reduceEqDiff, Nat.reduceAdd, ↓reduceIte, reduceCtorEq, List.reduceReplicate, List.replicate]; rfl) (by first | exact True.intro | (simp only [Obs, and_true, true_and]; omega) | (simp [Obs, AV.sizeL, AV.size, Kd.sz]; done) | (simp [Obs, AV.sizeL, AV.size, Kd.sz]; omega)) ?_ | refine RunT.not (by first | (simp only [go_sem, Bool.true_beq, Bool.false_beq]; done) | (simp only [go_sem, Bool.true_beq, Bool.false_beq]; with_reducible rfl)) (by simp only [go_sem, Nat.reduceBEq, Nat.reduceEqDiff, Nat.reduceAdd, ↓reduceIte, reduceCtorEq, List.reduceReplicate, List.replicate]; rfl) ?_)
  refine RunT.nil ?_
  refine Tri.seq (Tri.regT (cfgD_ok.pins _) ?_)
  repeat (first | refine RunT.one (by first | exact wantedA_none rfl | (simp only [go_sem, Bool.true_beq, Bool.false_beq]; done) | (simp only [go_sem, Bool.true_beq, Bool.false_beq]; with_reducible rfl)) (by simp (maxSteps := 2000000) (disch := first | decide | omega | (simp only [List.length_append, List.length_cons, List.length_nil, List.length_take, List.length_drop]; omega)) only [Tryd.f21, kAdd, kMix, cfgD, tyTab, hasT, Con.ofO, argO, argO1, heapO, heapO1, fldF, blkF, OK.cnt, OK.cnt1, FK.cnt, AK.cnt, argA, heapA, Kd.sz, AV.ofKd, go_sem, ↓reduceIte, reduceCtorEq, Nat.reduceLT, Nat.reduceSub, Nat.reduceAdd, Nat.reduceMul, Nat.reduceEqDiff, Nat.reduceBEq, Nat.reduceBNe, Nat.reduceLeDiff, Nat.reduceDiv, Nat.reduceMod, Nat.reducePow, List.reduceReplicate, UInt8.reduceOfNat, UInt32.reduceOfNat, UInt64.reduceOfNat, Int.reduceLE, Int.reduceLT, Int.reduceNeg, Int.reduceToNat, Int.reduceAdd, Int.reduceSub, Int.reduceMul, Int.reduceEq, UInt64.reduceToNat, UInt8.reduceToNat, UInt32.reduceToNat]; rfl) (by simp only [go_sem, Nat.reduceBEq, Nat.reduceEqDiff, Nat.reduceAdd, ↓reduceIte, reduceCtorEq, List.reduceReplicate, List.replicate]; rfl) (by first | exact True.intro | (simp only [Obs, and_true, true_and]; omega) | (simp [Obs, AV.sizeL, AV.size, Kd.sz]; done) | (simp [Obs, AV.sizeL, AV.size, Kd.sz]; omega)) ?_ | refine RunT.not (by first | (simp only [go_sem, Bool.true_beq, Bool.false_beq]; done) | (simp only [go_sem, Bool.true_beq, Bool.false_beq]; with_reducible rfl)) (by simp only [go_sem, Nat.reduceBEq, Nat.reduceEqDiff, Nat.reduceAdd, ↓reduceIte, reduceCtorEq, List.reduceReplicate, List.replicate]; rfl) ?_)
  refine RunT.nil ?_
  refine Tri.block ?_
  generalize hA : List.take rl (List.drop r0 xs) ++ b = A
  generalize hM : rl + b.length = M
  have hM' : M ≤ 1048576 := by omega
  refine Tri.loop (fun k : Nat => (⟨[some (.ptr 0 [] 0)] ++ List.replicate 51 none, [.live (.agg [.pure w8 (adS st A k), .tsl 1 [] (64 * k) (64 * k) 1 (M - 64 * k), .int .u64 (cn + UInt64.ofInt (b.length : Int))]), .live (.pure (.arr M (.int .u8)) A)]⟩ : AS)) (fun k => 64 * k ≤ M) (fun k => M - 64 * k) 0 ?_ (by omega) ?_
  · refine Wk.of ?_ ?_ rfl rfl
    · simp only [lessTs, List.reduceReplicate, List.cons_append, List.nil_append, adS] <;> ((repeat' apply And.intro) <;> first | rfl | trivial)
    · simp only [lessHs, adS] <;> ((repeat' apply And.intro) <;> first | rfl | trivial)
  · intro k hk
    generalize hs : adS st A k = s
    have hs8 : s.length = 8 := by rw [← hs]; exact adS_len A hst k
    refine Tri.seq (Tri.seq ?_)
    refine Tri.at (by first | (simp only [Tryd.f21, kAdd, kMix, cfgD, tyTab, hasT, Con.ofO, argO, argO1, heapO, heapO1, fldF, blkF, OK.cnt, OK.cnt1, FK.cnt, AK.cnt, argA, heapA, Kd.sz, AV.ofKd, Con.start, go_sem, ↓reduceIte, reduceCtorEq, Nat.reduceLT, Nat.reduceSub, Nat.reduceAdd, Nat.reduceMul, Nat.reduceEqDiff, Nat.reduceBEq, Nat.reduceBNe, Nat.reduceLeDiff, Nat.reduceDiv, Nat.reduceMod, Nat.reducePow, List.reduceReplicate, UInt8.reduceOfNat, UInt32.reduceOfNat, UInt64.reduceOfNat, Int.reduceLE, Int.reduceLT, Int.reduceNeg, Int.reduceToNat, Int.reduceAdd, Int.reduceSub, Int.reduceMul, Int.reduceEq, UInt64.reduceToNat, UInt8.reduceToNat, UInt32.reduceToNat]; rfl) | rfl) ?_
    refine (Tri.rgnT (cfgD_ok.pins _) ?_)
    repeat (first | refine RunT.one (by first | exact wantedA_none rfl | (simp only [go_sem, Bool.true_beq, Bool.false_beq]; done) | (simp only [go_sem, Bool.true_beq, Bool.false_beq]; with_reducible rfl)) (by simp (maxSteps := 2000000) (disch := first | decide | omega | (simp only [List.length_append, List.length_cons, List.length_nil, List.length_take, List.length_drop]; omega)) only [Tryd.f21, kAdd, kMix, cfgD, tyTab, hasT, Con.ofO, argO, argO1, heapO, heapO1, fldF, blkF, OK.cnt, OK.cnt1, FK.cnt, AK.cnt, argA, heapA, Kd.sz, AV.ofKd, go_sem, ↓reduceIte, reduceCtorEq, Nat.reduceLT, Nat.reduceSub, Nat.reduceAdd, Nat.reduceMul, Nat.reduceEqDiff, Nat.reduceBEq, Nat.reduceBNe, Nat.reduceLeDiff, Nat.reduceDiv, Nat.reduceMod, Nat.reducePow, List.reduceReplicate, UInt8.reduceOfNat, UInt32.reduceOfNat, UInt64.reduceOfNat, Int.reduceLE, Int.reduceLT, Int.reduceNeg, Int.reduceToNat, Int.reduceAdd, Int.reduceSub, Int.reduceMul, Int.reduceEq, UInt64.reduceToNat, UInt8.reduceToNat, UInt32.reduceToNat]; rfl) (by simp only [go_sem, Nat.reduceBEq, Nat.reduceEqDiff, Nat.reduceAdd, ↓reduceIte, reduceCtorEq, List.reduceReplicate, List.replicate]; rfl) (by first | exact True.intro | (simp only [Obs, and_true, true_and]; omega) | (simp [Obs, AV.sizeL, AV.size, Kd.sz]; done) | (simp [Obs, AV.sizeL, AV.size, Kd.sz]; omega)) ?_ | refine RunT.not (by first | (simp only [go_sem, Bool.true_beq, Bool.false_beq]; done) | (simp only [go_sem, Bool.true_beq, Bool.false_beq]; with_reducible rfl)) (by simp only [go_sem, Nat.reduceBEq, Nat.reduceEqDiff, Nat.reduceAdd, ↓reduceIte, reduceCtorEq, List.reduceReplicate, List.replicate]; rfl) ?_)
    refine RunT.nil ?_
    try simp only [InBlock, Then]
    refine Tri.split (by simp only [AS.ev, go_sem, ↓reduceIte, reduceCtorEq, Nat.reduceLT, Nat.reduceSub, Nat.reduceAdd, Nat.reduceMul, Nat.reduceEqDiff, Nat.reduceBEq, Nat.reduceBNe, Nat.reduceLeDiff, Nat.reduceDiv, Nat.reduceMod, Nat.reducePow, List.reduceReplicate, UInt8.reduceOfNat, UInt32.reduceOfNat, UInt64.reduceOfNat, Int.reduceLE, Int.reduceLT, Int.reduceNeg, Int.reduceToNat, Int.reduceAdd, Int.reduceSub, Int.reduceMul, Int.reduceEq, UInt64.reduceToNat, UInt8.reduceToNat, UInt32.reduceToNat]; rfl) (fun hc => ?_) (fun hc => ?_)
    · have hc' : 64 ≤ M - 64 * k := by
        have : ¬ ((M - 64 * k : Nat) : Int) < 64 := by simpa using hc
        omega
      refine Tri.skp ?_
      refine Tri.block ?_
      refine Tri.seq (Tri.drwT (mixed) (cfgD_ok.pins _) ?_)
      repeat (first | refine RunD.one (by first | exact wantedA_none rfl | (simp only [go_sem, Bool.true_beq, Bool.false_beq]; done) | (simp only [go_sem, Bool.true_beq, Bool.false_beq]; with_reducible rfl)) (by simp (maxSteps := 2000000) (disch := first | decide | omega | (simp only [List.length_append, List.length_cons, List.length_nil, List.length_take, List.length_drop]; omega)) only [Tryd.f21, kAdd, kMix, cfgD, tyTab, hasT, Con.ofO, argO, argO1, heapO, heapO1, fldF, blkF, OK.cnt, OK.cnt1, FK.cnt, AK.cnt, argA, heapA, Kd.sz, AV.ofKd, go_sem, ↓reduceIte, reduceCtorEq, Nat.reduceLT, Nat.reduceSub, Nat.reduceAdd, Nat.reduceMul, Nat.reduceEqDiff, Nat.reduceBEq, Nat.reduceBNe, Nat.reduceLeDiff, Nat.reduceDiv, Nat.reduceMod, Nat.reducePow, List.reduceReplicate, UInt8.reduceOfNat, UInt32.reduceOfNat, UInt64.reduceOfNat, Int.reduceLE, Int.reduceLT, Int.reduceNeg, Int.reduceToNat, Int.reduceAdd, Int.reduceSub, Int.reduceMul, Int.reduceEq, UInt64.reduceToNat, UInt8.reduceToNat, UInt32.reduceToNat]; rfl) (by simp only [go_sem, Nat.reduceBEq, Nat.reduceEqDiff, Nat.reduceAdd, ↓reduceIte, reduceCtorEq, List.reduceReplicate, List.replicate]; rfl) (by first | exact True.intro | (simp only [Obs, and_true, true_and]; omega) | (simp [Obs, AV.sizeL, AV.size, Kd.sz]; done) | (simp [Obs, AV.sizeL, AV.size, Kd.sz]; omega)) ?_ | refine RunD.not (by first | (simp only [go_sem, Bool.true_beq, Bool.false_beq]; done) | (simp only [go_sem, Bool.true_beq, Bool.false_beq]; with_reducible rfl)) (by simp only [go_sem, Nat.reduceBEq, Nat.reduceEqDiff, Nat.reduceAdd, ↓reduceIte, reduceCtorEq, List.reduceReplicate, List.replicate]; rfl) ?_)
      refine RunD.nil ?_
      refine ⟨by kernel_rfl, ?_⟩
      refine (Tri.rgnT (cfgD_ok.pins _) ?_)
      repeat (first | refine RunT.one (by first | exact wantedA_none rfl | (simp only [go_sem, Bool.true_beq, Bool.false_beq]; done) | (simp only [go_sem, Bool.true_beq, Bool.false_beq]; with_reducible rfl)) (by simp (maxSteps := 2000000) (disch := first | decide | omega | (simp only [List.length_append, List.length_cons, List.length_nil, List.length_take, List.length_drop]; omega)) only [Tryd.f21, kAdd, kMix, cfgD, tyTab, hasT, Con.ofO, argO, argO1, heapO, heapO1, fldF, blkF, OK.cnt, OK.cnt1, FK.cnt, AK.cnt, argA, heapA, Kd.sz, AV.ofKd, go_sem, ↓reduceIte, reduceCtorEq, Nat.reduceLT, Nat.reduceSub, Nat.reduceAdd, Nat.reduceMul, Nat.reduceEqDiff, Nat.reduceBEq, Nat.reduceBNe, Nat.reduceLeDiff, Nat.reduceDiv, Nat.reduceMod, Nat.reducePow, List.reduceReplicate, UInt8.reduceOfNat, UInt32.reduceOfNat, UInt64.reduceOfNat, Int.reduceLE, Int.reduceLT, Int.reduceNeg, Int.reduceToNat, Int.reduceAdd, Int.reduceSub, Int.reduceMul, Int.reduceEq, UInt64.reduceToNat, UInt8.reduceToNat, UInt32.reduceToNat]; rfl) (by simp only [go_sem, Nat.reduceBEq, Nat.reduceEqDiff, Nat.reduceAdd, ↓reduceIte, reduceCtorEq, List.reduceReplicate, List.replicate]; rfl) (by first | exact True.intro | (simp only [Obs, and_true, true_and]; omega) | (simp [Obs, AV.sizeL, AV.size, Kd.sz]; done) | (simp [Obs, AV.sizeL, AV.size, Kd.sz]; omega)) ?_ | refine RunT.not (by first | (simp only [go_sem, Bool.true_beq, Bool.false_beq]; done) | (simp only [go_sem, Bool.true_beq, Bool.false_beq]; with_reducible rfl)) (by simp only [go_sem, Nat.reduceBEq, Nat.reduceEqDiff, Nat.reduceAdd, ↓reduceIte, reduceCtorEq, List.reduceReplicate, List.replicate]; rfl) ?_)
      refine RunT.nil ?_
      try simp only [InBlock, Then]
      have e1 : M - 64 * k - 64 = M - 64 * (k + 1) := by omega
      refine ⟨k + 1, (by omega), (by omega), Wk.of ?_ ?_ rfl rfl⟩
      · simp only [lessTs, List.reduceReplicate, List.cons_append, List.nil_append] <;> ((repeat' apply And.intro) <;> first | rfl | trivial)
      · rw [e1]
        refine ⟨?_, rfl, trivial⟩
        rw [← hs]
        rfl
    · have hc' : M - 64 * k < 64 := by
        have : ((M - 64 * k : Nat) : Int) < 64 := by simpa using hc
        omega
      have hq : k = M / 64 := by omega
      refine Tri.exit ?_
      simp only [Then, InBlock, if_true]
      refine Con.fin (.inr rfl) (by simp only [Tryd.f21, resA, resA1, go_sem, ↓reduceIte, reduceCtorEq, Nat.reduceLT, Nat.reduceSub, Nat.reduceAdd, Nat.reduceMul, Nat.reduceEqDiff, Nat.reduceBEq, Nat.reduceBNe, Nat.reduceLeDiff, Nat.reduceDiv, Nat.reduceMod, Nat.reducePow, List.reduceReplicate, UInt8.reduceOfNat, UInt32.reduceOfNat, UInt64.reduceOfNat, Int.reduceLE, Int.reduceLT, Int.reduceNeg, Int.reduceToNat, Int.reduceAdd, Int.reduceSub, Int.reduceMul, Int.reduceEq, UInt64.reduceToNat, UInt8.reduceToNat, UInt32.reduceToNat]; rfl) (by trivial) rfl ?_ rfl rfl
      subst hM hA hs
      rw [hq]
      refine ⟨rfl, rfl, trivial⟩
theorem add_sum : FSumOK Tryd.prog cfgD.G 21 kAdd.sum := Con.sumOK cfgD_ok kAdd Tryd.func21 rfl rfl (Con.ofO_inv _ _ _ _) add_body
end Go.Proofs.YticgfjalikmniaaDoor

namespace Go.Proofs.YticgfjalikmniaaDoor
open Go.Vc Go.Proofs
set_option linter.unusedSimpArgs false
set_option linter.unusedVariables false
set_option maxRecDepth 10000
set_option maxHeartbeats 4000000
-- SEM
/-- How many noughts are put behind so many bytes. -/
def padZ (l : Nat) : Nat := (64 - (l + 9) % 64) % 64
def tlI (t : List UInt8) (n : UInt64) : Nat → List UInt8
  | 0 => t
  | j + 1 => tlI t n j ++ [(n >>> UInt64.ofNat (8 * (7 - j))).toUInt8]
theorem tlI_len (t : List UInt8) (n : UInt64) : ∀ j, (tlI t n j).length = t.length + j
  | 0 => rfl
  | j + 1 => by simp only [tlI, List.length_append, tlI_len t n j, List.length_cons, List.length_nil]; omega
def t0S (l : Nat) : List UInt8 := 128 :: List.replicate (padZ l) 0
/-- What is put behind so many bytes. -/
def tailS (l : Nat) (n : UInt64) : List UInt8 := tlI (t0S l) n 8
def ouK (x : UInt32) (o : List UInt8) (i : Nat) : Nat → List UInt8
  | 0 => o
  | k + 1 => (ouK x o i k).set (4 * i + k) (x >>> UInt32.ofNat (8 * (3 - k))).toUInt8
def ouI (s : List UInt32) : Nat → List UInt8
  | 0 => Kd.dflt h32
  | i + 1 => ouK (s.getD i 0) (ouI s i) i 4
def sumS (st : List UInt32) (r : List UInt8) (len : Nat) (cn : UInt64) : List UInt8 :=
  ouI (adS st (r ++ tailS len (cn * 8)) ((len + (padZ len + 1 + 8)) / 64)) 8
def kSumH : Con := Con.ofO [.o hasF] []
  (fun x => [List.length (α := UInt32) x.1.1 = 8, x.1.2.1.i + x.1.2.1.len ≤ x.1.2.1.N, x.1.2.1.len ≤ 1000000, List.length (α := UInt8) x.1.2.1.xs = x.1.2.1.N])
  (fun x => ⟨.pure h32 (sumS x.1.1 (List.take x.1.2.1.len (List.drop x.1.2.1.i x.1.2.1.xs)) x.1.2.1.len x.1.2.2.1), [.agg [.pure w8 x.1.1, .tsl 1 [] x.1.2.1.i x.1.2.1.i 1 x.1.2.1.len, .int .u64 x.1.2.2.1], .pure (.arr x.1.2.1.N (.int .u8)) x.1.2.1.xs]⟩)
def cfgE : Cfg2 := { ty := tyTab, fn := fun | 21 => some kAdd.sum | _ => none, G := shaG, pin := [], eq := fun _ => none }
theorem cfgE_ok : CfgOK Tryd.prog cfgE := ⟨tysOK, (fun f s h => by
  simp only [cfgE] at h
  split at h
  · injection h with h; subst h; exact add_sum
  · cases h), (fun t d h => by cases h)⟩
theorem sumH_body (p : kSumH.Par) (hp : ∀ q ∈ kSumH.pre p, q) : BodyOK Tryd.prog cfgE Tryd.f22 (Tryd.f22.body.get rfl) kSumH p := by
  obtain ⟨⟨(st : List UInt32), ⟨N, r0, rl, (xs : List UInt8)⟩, (cn : UInt64), u0⟩, u⟩ := p
  obtain ⟨hst, hN, hL, hx, _⟩ := Obs.of hp
  replace hst : st.length = 8 := hst
  replace hN : r0 + rl ≤ N := hN
  replace hL : rl ≤ 1000000 := hL
  replace hx : xs.length = N := hx
  refine ⟨?_, Nat.le_refl _, rfl, rfl⟩
  show Tri _ _ _ (Code.seq _ (Code.seq _ (Code.seq _ (Code.seq (Code.block _ (Code.loop (Code.seq (Code.seq _ (Code.cond _ _ _)) (Code.block _ _)))) (Code.seq _ (Code.seq (Code.seq _ (Code.block _ (Code.loop (Code.seq (Code.seq _ (Code.cond _ _ _)) (Code.seq (Code.block _ _) _))))) (Code.seq _ (Code.seq (Code.seq _ (Code.block _ (Code.loop (Code.seq _ (Code.seq (Code.cond _ _ _) (Code.seq (Code.block _ (Code.seq _ (Code.seq _ (Code.block _ (Code.loop (Code.seq _ (Code.seq (Code.cond _ _ _) (Code.seq (Code.block _ (Code.seq _ _)) _)))))))) _)))))) (Code.seq _ _))))))))) _
  refine Tri.at (by first | (simp only [Tryd.f22, kSumH, kAdd, cfgE, tyTab, hasT, Con.ofO, argO, argO1, heapO, heapO1, fldF, blkF, OK.cnt, OK.cnt1, FK.cnt, AK.cnt, argA, heapA, Kd.sz, AV.ofKd, rdO, rdO1, rdOb, rdF, rdT, castK_self, Nat.mul_one, take1, List.take_nil, Con.start, go_sem, ↓reduceIte, reduceCtorEq, Nat.reduceLT, Nat.reduceSub, Nat.reduceAdd, Nat.reduceMul, Nat.reduceEqDiff, Nat.reduceBEq, Nat.reduceBNe, Nat.reduceLeDiff, Nat.reduceDiv, Nat.reduceMod, Nat.reducePow, List.reduceReplicate, UInt8.reduceOfNat, UInt32.reduceOfNat, UInt64.reduceOfNat, Int.reduceLE, Int.reduceLT, Int.reduceNeg, Int.reduceToNat, Int.reduceAdd, Int.reduceSub, Int.reduceMul, Int.reduceEq, UInt64.reduceToNat, UInt8.reduceToNat, UInt32.reduceToNat]; rfl) | rfl) ?_
  generalize hR : List.take rl (List.drop r0 xs) = R
  have hRl : R.length = rl := by rw [← hR, List.length_take, List.length_drop]; omega
  refine Tri.seq (Tri.regT (cfgE_ok.pins _) ?_)
  repeat (first | refine RunT.one (by first | exact wantedA_none rfl | (simp only [go_sem, Bool.true_beq, Bool.false_beq]; done) | (simp only [go_sem, Bool.true_beq, Bool.false_beq]; with_reducible rfl)) (by simp (maxSteps := 2000000) (disch := first | decide | omega | (simp only [List.length_append, List.length_cons, List.length_nil, List.length_take, List.length_drop]; omega)) only [Tryd.f22, kSumH, kAdd, cfgE, tyTab, hasT, Con.ofO, argO, argO1, heapO, heapO1, fldF, blkF, OK.cnt, OK.cnt1, FK.cnt, AK.cnt, argA, heapA, Kd.sz, AV.ofKd, rdO, rdO1, rdOb, rdF, rdT, castK_self, Nat.mul_one, take1, List.take_nil, hR, hRl, go_sem, ↓reduceIte, reduceCtorEq, Nat.reduceLT, Nat.reduceSub, Nat.reduceAdd, Nat.reduceMul, Nat.reduceEqDiff, Nat.reduceBEq, Nat.reduceBNe, Nat.reduceLeDiff, Nat.reduceDiv, Nat.reduceMod, Nat.reducePow, List.reduceReplicate, UInt8.reduceOfNat, UInt32.reduceOfNat, UInt64.reduceOfNat, Int.reduceLE, Int.reduceLT, Int.reduceNeg, Int.reduceToNat, Int.reduceAdd, Int.reduceSub, Int.reduceMul, Int.reduceEq, UInt64.reduceToNat, UInt8.reduceToNat, UInt32.reduceToNat]; rfl) (by simp only [go_sem, Nat.reduceBEq, Nat.reduceEqDiff, Nat.reduceAdd, ↓reduceIte, reduceCtorEq, List.reduceReplicate, List.replicate]; rfl) (by first | exact True.intro | (simp only [Obs, and_true, true_and]; omega) | (simp [Obs, AV.sizeL, AV.size, Kd.sz]; done) | (simp [Obs, AV.sizeL, AV.size, Kd.sz]; omega)) ?_ | refine RunT.not (by first | (simp only [go_sem, Bool.true_beq, Bool.false_beq]; done) | (simp only [go_sem, Bool.true_beq, Bool.false_beq]; with_reducible rfl)) (by simp only [go_sem, Nat.reduceBEq, Nat.reduceEqDiff, Nat.reduceAdd, ↓reduceIte, reduceCtorEq, List.reduceReplicate, List.replicate]; rfl) ?_)
  refine RunT.nil ?_
  refine Tri.seq (Tri.drwT (mixed) (cfgE_ok.pins _) ?_)
  repeat (first | refine RunD.one (by first | exact wantedA_none rfl | (simp only [go_sem, Bool.true_beq, Bool.false_beq]; done) | (simp only [go_sem, Bool.true_beq, Bool.false_beq]; with_reducible rfl)) (by simp (maxSteps := 2000000) (disch := first | decide | omega | (simp only [List.length_append, List.length_cons, List.length_nil, List.length_take, List.length_drop]; omega)) only [Tryd.f22, kSumH, kAdd, cfgE, tyTab, hasT, Con.ofO, argO, argO1, heapO, heapO1, fldF, blkF, OK.cnt, OK.cnt1, FK.cnt, AK.cnt, argA, heapA, Kd.sz, AV.ofKd, rdO, rdO1, rdOb, rdF, rdT, castK_self, Nat.mul_one, take1, List.take_nil, hR, hRl, go_sem, ↓reduceIte, reduceCtorEq, Nat.reduceLT, Nat.reduceSub, Nat.reduceAdd, Nat.reduceMul, Nat.reduceEqDiff, Nat.reduceBEq, Nat.reduceBNe, Nat.reduceLeDiff, Nat.reduceDiv, Nat.reduceMod, Nat.reducePow, List.reduceReplicate, UInt8.reduceOfNat, UInt32.reduceOfNat, UInt64.reduceOfNat, Int.reduceLE, Int.reduceLT, Int.reduceNeg, Int.reduceToNat, Int.reduceAdd, Int.reduceSub, Int.reduceMul, Int.reduceEq, UInt64.reduceToNat, UInt8.reduceToNat, UInt32.reduceToNat]; rfl) (by simp only [go_sem, Nat.reduceBEq, Nat.reduceEqDiff, Nat.reduceAdd, ↓reduceIte, reduceCtorEq, List.reduceReplicate, List.replicate]; rfl) (by first | exact True.intro | (simp only [Obs, and_true, true_and]; omega) | (simp [Obs, AV.sizeL, AV.size, Kd.sz]; done) | (simp [Obs, AV.sizeL, AV.size, Kd.sz]; omega)) ?_ | refine RunD.not (by first | (simp only [go_sem, Bool.true_beq, Bool.false_beq]; done) | (simp only [go_sem, Bool.true_beq, Bool.false_beq]; with_reducible rfl)) (by simp only [go_sem, Nat.reduceBEq, Nat.reduceEqDiff, Nat.reduceAdd, ↓reduceIte, reduceCtorEq, List.reduceReplicate, List.replicate]; rfl) ?_)
  refine RunD.nil ?_
  refine ⟨by kernel_rfl, ?_⟩
  refine Tri.seq (Tri.regT (cfgE_ok.pins _) ?_)
  repeat (first | refine RunT.one (by first | exact wantedA_none rfl | (simp only [go_sem, Bool.true_beq, Bool.false_beq]; done) | (simp only [go_sem, Bool.true_beq, Bool.false_beq]; with_reducible rfl)) (by simp (maxSteps := 2000000) (disch := first | decide | omega | (simp only [List.length_append, List.length_cons, List.length_nil, List.length_take, List.length_drop]; omega)) only [Tryd.f22, kSumH, kAdd, cfgE, tyTab, hasT, Con.ofO, argO, argO1, heapO, heapO1, fldF, blkF, OK.cnt, OK.cnt1, FK.cnt, AK.cnt, argA, heapA, Kd.sz, AV.ofKd, rdO, rdO1, rdOb, rdF, rdT, castK_self, Nat.mul_one, take1, List.take_nil, hR, hRl, go_sem, ↓reduceIte, reduceCtorEq, Nat.reduceLT, Nat.reduceSub, Nat.reduceAdd, Nat.reduceMul, Nat.reduceEqDiff, Nat.reduceBEq, Nat.reduceBNe, Nat.reduceLeDiff, Nat.reduceDiv, Nat.reduceMod, Nat.reducePow, List.reduceReplicate, UInt8.reduceOfNat, UInt32.reduceOfNat, UInt64.reduceOfNat, Int.reduceLE, Int.reduceLT, Int.reduceNeg, Int.reduceToNat, Int.reduceAdd, Int.reduceSub, Int.reduceMul, Int.reduceEq, UInt64.reduceToNat, UInt8.reduceToNat, UInt32.reduceToNat]; rfl) (by simp only [go_sem, Nat.reduceBEq, Nat.reduceEqDiff, Nat.reduceAdd, ↓reduceIte, reduceCtorEq, List.reduceReplicate, List.replicate]; rfl) (by first | exact True.intro | (simp only [Obs, and_true, true_and]; omega) | (simp [Obs, AV.sizeL, AV.size, Kd.sz]; done) | (simp [Obs, AV.sizeL, AV.size, Kd.sz]; omega)) ?_ | refine RunT.not (by first | (simp only [go_sem, Bool.true_beq, Bool.false_beq]; done) | (simp only [go_sem, Bool.true_beq, Bool.false_beq]; with_reducible rfl)) (by simp only [go_sem, Nat.reduceBEq, Nat.reduceEqDiff, Nat.reduceAdd, ↓reduceIte, reduceCtorEq, List.reduceReplicate, List.replicate]; rfl) ?_)
  refine RunT.nil ?_
  obtain ⟨Z, hZ⟩ : ∃ Z : List UInt8, Z = Kd.dflt h32 := ⟨_, rfl⟩
  have hp64 : padZ rl < 64 := by unfold padZ; omega
  refine Tri.seq (Tri.block ?_)
  refine Tri.loop (fun j : Nat => (⟨[some (.ptr 0 [] 0), none, some (.ptr 2 [] 0), some (.ptr 4 [] 0), some (.tsl 5 [] 0 0 1 (j + 1))] ++ List.replicate 73 none, [.live (.agg [.pure w8 st, .tsl 1 [] r0 r0 1 rl, .int .u64 cn]), .live (.pure (.arr N (.int .u8)) xs), .live (.pure h32 Z), .live (.pure (.arr rl (.int .u8)) R), .live (.agg [.pure w8 st, .tsl 3 [] 0 0 1 rl, .int .u64 0]), .live (.pure (.arr (j + 1) (.int .u8)) (128 :: List.replicate j 0))]⟩ : AS)) (fun j => j ≤ padZ rl) (fun k => padZ rl - k) 0 ?_ (Nat.zero_le _) ?_
  · refine Wk.of ?_ ?_ rfl rfl
    · simp only [lessTs, List.reduceReplicate, List.cons_append, List.nil_append] <;> ((repeat' apply And.intro) <;> first | rfl | trivial)
    · refine ⟨rfl, rfl, ?_, arrEq (by omega) rfl, rfl, rfl, trivial⟩
      rw [hZ]
      rfl
  · intro j hj
    have htk : List.take (j + 1) (128 :: List.replicate j (0 : UInt8)) = 128 :: List.replicate j 0 := List.take_of_length_le (by simp)
    generalize hT : (128 :: List.replicate j (0 : UInt8)) = T at htk
    refine Tri.seq (Tri.seq ?_)
    refine Tri.at (by first | (simp only [Tryd.f22, kSumH, kAdd, cfgE, tyTab, hasT, Con.ofO, argO, argO1, heapO, heapO1, fldF, blkF, OK.cnt, OK.cnt1, FK.cnt, AK.cnt, argA, heapA, Kd.sz, AV.ofKd, rdO, rdO1, rdOb, rdF, rdT, castK_self, Nat.mul_one, take1, List.take_nil, hR, hRl, htk, Con.start, go_sem, ↓reduceIte, reduceCtorEq, Nat.reduceLT, Nat.reduceSub, Nat.reduceAdd, Nat.reduceMul, Nat.reduceEqDiff, Nat.reduceBEq, Nat.reduceBNe, Nat.reduceLeDiff, Nat.reduceDiv, Nat.reduceMod, Nat.reducePow, List.reduceReplicate, UInt8.reduceOfNat, UInt32.reduceOfNat, UInt64.reduceOfNat, Int.reduceLE, Int.reduceLT, Int.reduceNeg, Int.reduceToNat, Int.reduceAdd, Int.reduceSub, Int.reduceMul, Int.reduceEq, UInt64.reduceToNat, UInt8.reduceToNat, UInt32.reduceToNat]; rfl) | rfl) ?_
    refine (Tri.rgnT (cfgE_ok.pins _) ?_)
    repeat (first | refine RunT.one (by first | exact wantedA_none rfl | (simp only [go_sem, Bool.true_beq, Bool.false_beq]; done) | (simp only [go_sem, Bool.true_beq, Bool.false_beq]; with_reducible rfl)) (by simp (maxSteps := 2000000) (disch := first | decide | omega | (simp only [List.length_append, List.length_cons, List.length_nil, List.length_take, List.length_drop]; omega)) only [Tryd.f22, kSumH, kAdd, cfgE, tyTab, hasT, Con.ofO, argO, argO1, heapO, heapO1, fldF, blkF, OK.cnt, OK.cnt1, FK.cnt, AK.cnt, argA, heapA, Kd.sz, AV.ofKd, rdO, rdO1, rdOb, rdF, rdT, castK_self, Nat.mul_one, take1, List.take_nil, hR, hRl, htk, go_sem, ↓reduceIte, reduceCtorEq, Nat.reduceLT, Nat.reduceSub, Nat.reduceAdd, Nat.reduceMul, Nat.reduceEqDiff, Nat.reduceBEq, Nat.reduceBNe, Nat.reduceLeDiff, Nat.reduceDiv, Nat.reduceMod, Nat.reducePow, List.reduceReplicate, UInt8.reduceOfNat, UInt32.reduceOfNat, UInt64.reduceOfNat, Int.reduceLE, Int.reduceLT, Int.reduceNeg, Int.reduceToNat, Int.reduceAdd, Int.reduceSub, Int.reduceMul, Int.reduceEq, UInt64.reduceToNat, UInt8.reduceToNat, UInt32.reduceToNat]; rfl) (by simp only [go_sem, Nat.reduceBEq, Nat.reduceEqDiff, Nat.reduceAdd, ↓reduceIte, reduceCtorEq, List.reduceReplicate, List.replicate]; rfl) (by first | exact True.intro | (simp only [Obs, and_true, true_and]; omega) | (simp [Obs, AV.sizeL, AV.size, Kd.sz]; done) | (simp [Obs, AV.sizeL, AV.size, Kd.sz]; omega)) ?_ | refine RunT.not (by first | (simp only [go_sem, Bool.true_beq, Bool.false_beq]; done) | (simp only [go_sem, Bool.true_beq, Bool.false_beq]; with_reducible rfl)) (by simp only [go_sem, Nat.reduceBEq, Nat.reduceEqDiff, Nat.reduceAdd, ↓reduceIte, reduceCtorEq, List.reduceReplicate, List.replicate]; rfl) ?_)
    refine RunT.nil ?_
    try simp only [InBlock, Then]
    refine Tri.split (by simp only [AS.ev, go_sem, ↓reduceIte, reduceCtorEq, Nat.reduceLT, Nat.reduceSub, Nat.reduceAdd, Nat.reduceMul, Nat.reduceEqDiff, Nat.reduceBEq, Nat.reduceBNe, Nat.reduceLeDiff, Nat.reduceDiv, Nat.reduceMod, Nat.reducePow, List.reduceReplicate, UInt8.reduceOfNat, UInt32.reduceOfNat, UInt64.reduceOfNat, Int.reduceLE, Int.reduceLT, Int.reduceNeg, Int.reduceToNat, Int.reduceAdd, Int.reduceSub, Int.reduceMul, Int.reduceEq, UInt64.reduceToNat, UInt8.reduceToNat, UInt32.reduceToNat]; rfl) (fun hc => ?_) (fun hc => ?_)
    · have hc' : ¬ (rl + (j + 1) + 8) % 64 = 0 := by
        have : ¬ (((rl + (j + 1) + 8) % 64 : Nat) : Int) = 0 := by simpa using hc
        omega
      refine Tri.skp ?_
      refine Tri.block ?_
      refine (Tri.rgnT (cfgE_ok.pins _) ?_)
      repeat (first | refine RunT.one (by first | exact wantedA_none rfl | (simp only [go_sem, Bool.true_beq, Bool.false_beq]; done) | (simp only [go_sem, Bool.true_beq, Bool.false_beq]; with_reducible rfl)) (by simp (maxSteps := 2000000) (disch := first | decide | omega | (simp only [List.length_append, List.length_cons, List.length_nil, List.length_take, List.length_drop]; omega)) only [Tryd.f22, kSumH, kAdd, cfgE, tyTab, hasT, Con.ofO, argO, argO1, heapO, heapO1, fldF, blkF, OK.cnt, OK.cnt1, FK.cnt, AK.cnt, argA, heapA, Kd.sz, AV.ofKd, rdO, rdO1, rdOb, rdF, rdT, castK_self, Nat.mul_one, take1, List.take_nil, hR, hRl, htk, go_sem, ↓reduceIte, reduceCtorEq, Nat.reduceLT, Nat.reduceSub, Nat.reduceAdd, Nat.reduceMul, Nat.reduceEqDiff, Nat.reduceBEq, Nat.reduceBNe, Nat.reduceLeDiff, Nat.reduceDiv, Nat.reduceMod, Nat.reducePow, List.reduceReplicate, UInt8.reduceOfNat, UInt32.reduceOfNat, UInt64.reduceOfNat, Int.reduceLE, Int.reduceLT, Int.reduceNeg, Int.reduceToNat, Int.reduceAdd, Int.reduceSub, Int.reduceMul, Int.reduceEq, UInt64.reduceToNat, UInt8.reduceToNat, UInt32.reduceToNat]; rfl) (by simp only [go_sem, Nat.reduceBEq, Nat.reduceEqDiff, Nat.reduceAdd, ↓reduceIte, reduceCtorEq, List.reduceReplicate, List.replicate]; rfl) (by first | exact True.intro | (simp only [Obs, and_true, true_and]; omega) | (simp [Obs, AV.sizeL, AV.size, Kd.sz]; done) | (simp [Obs, AV.sizeL, AV.size, Kd.sz]; omega)) ?_ | refine RunT.not (by first | (simp only [go_sem, Bool.true_beq, Bool.false_beq]; done) | (simp only [go_sem, Bool.true_beq, Bool.false_beq]; with_reducible rfl)) (by simp only [go_sem, Nat.reduceBEq, Nat.reduceEqDiff, Nat.reduceAdd, ↓reduceIte, reduceCtorEq, List.reduceReplicate, List.replicate]; rfl) ?_)
      refine RunT.nil ?_
      try simp only [InBlock, Then]
      refine ⟨j + 1, (by unfold padZ at *; omega), (by unfold padZ at *; omega), Wk.of ?_ ?_ rfl rfl⟩
      · simp only [lessTs, List.reduceReplicate, List.cons_append, List.nil_append] <;> ((repeat' apply And.intro) <;> first | rfl | trivial)
      · refine ⟨rfl, rfl, rfl, rfl, rfl, arrEq rfl ?_, trivial⟩
        rw [← hT, List.replicate_succ']
        rfl
    · have hc' : (rl + (j + 1) + 8) % 64 = 0 := by
        have : (((rl + (j + 1) + 8) % 64 : Nat) : Int) = 0 := by simpa using hc
        omega
      have hz : j = padZ rl := by unfold padZ at *; omega
      refine Tri.exit ?_
      simp only [Then, InBlock, if_true]
      refine Tri.seq (Tri.regT (cfgE_ok.pins _) ?_)
      repeat (first | refine RunT.one (by first | exact wantedA_none rfl | (simp only [go_sem, Bool.true_beq, Bool.false_beq]; done) | (simp only [go_sem, Bool.true_beq, Bool.false_beq]; with_reducible rfl)) (by simp (maxSteps := 2000000) (disch := first | decide | omega | (simp only [List.length_append, List.length_cons, List.length_nil, List.length_take, List.length_drop]; omega)) only [Tryd.f22, kSumH, kAdd, cfgE, tyTab, hasT, Con.ofO, argO, argO1, heapO, heapO1, fldF, blkF, OK.cnt, OK.cnt1, FK.cnt, AK.cnt, argA, heapA, Kd.sz, AV.ofKd, rdO, rdO1, rdOb, rdF, rdT, castK_self, Nat.mul_one, take1, List.take_nil, hR, hRl, htk, go_sem, ↓reduceIte, reduceCtorEq, Nat.reduceLT, Nat.reduceSub, Nat.reduceAdd, Nat.reduceMul, Nat.reduceEqDiff, Nat.reduceBEq, Nat.reduceBNe, Nat.reduceLeDiff, Nat.reduceDiv, Nat.reduceMod, Nat.reducePow, List.reduceReplicate, UInt8.reduceOfNat, UInt32.reduceOfNat, UInt64.reduceOfNat, Int.reduceLE, Int.reduceLT, Int.reduceNeg, Int.reduceToNat, Int.reduceAdd, Int.reduceSub, Int.reduceMul, Int.reduceEq, UInt64.reduceToNat, UInt8.reduceToNat, UInt32.reduceToNat]; rfl) (by simp only [go_sem, Nat.reduceBEq, Nat.reduceEqDiff, Nat.reduceAdd, ↓reduceIte, reduceCtorEq, List.reduceReplicate, List.replicate]; rfl) (by first | exact True.intro | (simp only [Obs, and_true, true_and]; omega) | (simp [Obs, AV.sizeL, AV.size, Kd.sz]; done) | (simp [Obs, AV.sizeL, AV.size, Kd.sz]; omega)) ?_ | refine RunT.not (by first | (simp only [go_sem, Bool.true_beq, Bool.false_beq]; done) | (simp only [go_sem, Bool.true_beq, Bool.false_beq]; with_reducible rfl)) (by simp only [go_sem, Nat.reduceBEq, Nat.reduceEqDiff, Nat.reduceAdd, ↓reduceIte, reduceCtorEq, List.reduceReplicate, List.replicate]; rfl) ?_)
      refine RunT.nil ?_
      refine Tri.seq (Tri.seq ?_)
      refine (Tri.rgnT (cfgE_ok.pins _) ?_)
      repeat (first | refine RunT.one (by first | exact wantedA_none rfl | (simp only [go_sem, Bool.true_beq, Bool.false_beq]; done) | (simp only [go_sem, Bool.true_beq, Bool.false_beq]; with_reducible rfl)) (by simp (maxSteps := 2000000) (disch := first | decide | omega | (simp only [List.length_append, List.length_cons, List.length_nil, List.length_take, List.length_drop]; omega)) only [Tryd.f22, kSumH, kAdd, cfgE, tyTab, hasT, Con.ofO, argO, argO1, heapO, heapO1, fldF, blkF, OK.cnt, OK.cnt1, FK.cnt, AK.cnt, argA, heapA, Kd.sz, AV.ofKd, rdO, rdO1, rdOb, rdF, rdT, castK_self, Nat.mul_one, take1, List.take_nil, hR, hRl, htk, go_sem, ↓reduceIte, reduceCtorEq, Nat.reduceLT, Nat.reduceSub, Nat.reduceAdd, Nat.reduceMul, Nat.reduceEqDiff, Nat.reduceBEq, Nat.reduceBNe, Nat.reduceLeDiff, Nat.reduceDiv, Nat.reduceMod, Nat.reducePow, List.reduceReplicate, UInt8.reduceOfNat, UInt32.reduceOfNat, UInt64.reduceOfNat, Int.reduceLE, Int.reduceLT, Int.reduceNeg, Int.reduceToNat, Int.reduceAdd, Int.reduceSub, Int.reduceMul, Int.reduceEq, UInt64.reduceToNat, UInt8.reduceToNat, UInt32.reduceToNat]; rfl) (by simp only [go_sem, Nat.reduceBEq, Nat.reduceEqDiff, Nat.reduceAdd, ↓reduceIte, reduceCtorEq, List.reduceReplicate, List.replicate]; rfl) (by first | exact True.intro | (simp only [Obs, and_true, true_and]; omega) | (simp [Obs, AV.sizeL, AV.size, Kd.sz]; done) | (simp [Obs, AV.sizeL, AV.size, Kd.sz]; omega)) ?_ | refine RunT.not (by first | (simp only [go_sem, Bool.true_beq, Bool.false_beq]; done) | (simp only [go_sem, Bool.true_beq, Bool.false_beq]; with_reducible rfl)) (by simp only [go_sem, Nat.reduceBEq, Nat.reduceEqDiff, Nat.reduceAdd, ↓reduceIte, reduceCtorEq, List.reduceReplicate, List.replicate]; rfl) ?_)
      refine RunT.nil ?_
      try simp only [InBlock, Then]
      refine Tri.block ?_
      have hTl : T.length = j + 1 := by rw [← hT]; simp
      have hT0 : T = t0S rl := by rw [← hT, hz]; rfl
      refine Tri.loop (fun k : Nat => (⟨[some (.ptr 0 [] 0), none, some (.ptr 2 [] 0), some (.ptr 4 [] 0), some (.tsl 5 [] 0 0 1 (j + 1 + k)), some (.int .u64 (cn * 8)), some (.int .i64 (7 - (k : Int)))] ++ List.replicate 71 none, [.live (.agg [.pure w8 st, .tsl 1 [] r0 r0 1 rl, .int .u64 cn]), .live (.pure (.arr N (.int .u8)) xs), .live (.pure h32 Z), .live (.pure (.arr rl (.int .u8)) R), .live (.agg [.pure w8 st, .tsl 3 [] 0 0 1 rl, .int .u64 0]), .live (.pure (.arr (j + 1 + k) (.int .u8)) (tlI T (cn * 8) k))]⟩ : AS)) (fun k => k ≤ 8) (fun k => 8 - k) 0 ?_ (Nat.zero_le _) ?_
      · refine Wk.of ?_ ?_ rfl rfl
        · simp only [lessTs, List.reduceReplicate, List.cons_append, List.nil_append] <;> ((repeat' apply And.intro) <;> first | rfl | trivial)
        · simp only [lessHs] <;> ((repeat' apply And.intro) <;> first | rfl | trivial)
      · intro k hk
        generalize hU : tlI T (cn * 8) k = U
        have hUl : U.length = j + 1 + k := by rw [← hU, tlI_len, hTl]
        have htu : List.take (j + 1 + k) U = U := List.take_of_length_le (by omega)
        refine Tri.seq (Tri.seq ?_)
        refine Tri.at (by first | (simp only [Tryd.f22, kSumH, kAdd, cfgE, tyTab, hasT, Con.ofO, argO, argO1, heapO, heapO1, fldF, blkF, OK.cnt, OK.cnt1, FK.cnt, AK.cnt, argA, heapA, Kd.sz, AV.ofKd, rdO, rdO1, rdOb, rdF, rdT, castK_self, Nat.mul_one, take1, List.take_nil, hR, hRl, htk, Con.start, go_sem, ↓reduceIte, reduceCtorEq, Nat.reduceLT, Nat.reduceSub, Nat.reduceAdd, Nat.reduceMul, Nat.reduceEqDiff, Nat.reduceBEq, Nat.reduceBNe, Nat.reduceLeDiff, Nat.reduceDiv, Nat.reduceMod, Nat.reducePow, List.reduceReplicate, UInt8.reduceOfNat, UInt32.reduceOfNat, UInt64.reduceOfNat, Int.reduceLE, Int.reduceLT, Int.reduceNeg, Int.reduceToNat, Int.reduceAdd, Int.reduceSub, Int.reduceMul, Int.reduceEq, UInt64.reduceToNat, UInt8.reduceToNat, UInt32.reduceToNat]; rfl) | rfl) ?_
        refine (Tri.rgnT (cfgE_ok.pins _) ?_)
        repeat (first | refine RunT.one (by first | exact wantedA_none rfl | (simp only [go_sem, Bool.true_beq, Bool.false_beq]; done) | (simp only [go_sem, Bool.true_beq, Bool.false_beq]; with_reducible rfl)) (by simp (maxSteps := 2000000) (disch := first | decide | omega | (simp only [List.length_append, List.length_cons, List.length_nil, List.length_take, List.length_drop]; omega)) only [Tryd.f22, kSumH, kAdd, cfgE, tyTab, hasT, Con.ofO, argO, argO1, heapO, heapO1, fldF, blkF, OK.cnt, OK.cnt1, FK.cnt, AK.cnt, argA, heapA, Kd.sz, AV.ofKd, rdO, rdO1, rdOb, rdF, rdT, castK_self, Nat.mul_one, take1, List.take_nil, hR, hRl, htk, go_sem, ↓reduceIte, reduceCtorEq, Nat.reduceLT, Nat.reduceSub, Nat.reduceAdd, Nat.reduceMul, Nat.reduceEqDiff, Nat.reduceBEq, Nat.reduceBNe, Nat.reduceLeDiff, Nat.reduceDiv, Nat.reduceMod, Nat.reducePow, List.reduceReplicate, UInt8.reduceOfNat, UInt32.reduceOfNat, UInt64.reduceOfNat, Int.reduceLE, Int.reduceLT, Int.reduceNeg, Int.reduceToNat, Int.reduceAdd, Int.reduceSub, Int.reduceMul, Int.reduceEq, UInt64.reduceToNat, UInt8.reduceToNat, UInt32.reduceToNat]; rfl) (by simp only [go_sem, Nat.reduceBEq, Nat.reduceEqDiff, Nat.reduceAdd, ↓reduceIte, reduceCtorEq, List.reduceReplicate, List.replicate]; rfl) (by first | exact True.intro | (simp only [Obs, and_true, true_and]; omega) | (simp [Obs, AV.sizeL, AV.size, Kd.sz]; done) | (simp [Obs, AV.sizeL, AV.size, Kd.sz]; omega)) ?_ | refine RunT.not (by first | (simp only [go_sem, Bool.true_beq, Bool.false_beq]; done) | (simp only [go_sem, Bool.true_beq, Bool.false_beq]; with_reducible rfl)) (by simp only [go_sem, Nat.reduceBEq, Nat.reduceEqDiff, Nat.reduceAdd, ↓reduceIte, reduceCtorEq, List.reduceReplicate, List.replicate]; rfl) ?_)
        refine RunT.nil ?_
        try simp only [InBlock, Then]
        refine Tri.split (by simp only [AS.ev, go_sem, ↓reduceIte, reduceCtorEq, Nat.reduceLT, Nat.reduceSub, Nat.reduceAdd, Nat.reduceMul, Nat.reduceEqDiff, Nat.reduceBEq, Nat.reduceBNe, Nat.reduceLeDiff, Nat.reduceDiv, Nat.reduceMod, Nat.reducePow, List.reduceReplicate, UInt8.reduceOfNat, UInt32.reduceOfNat, UInt64.reduceOfNat, Int.reduceLE, Int.reduceLT, Int.reduceNeg, Int.reduceToNat, Int.reduceAdd, Int.reduceSub, Int.reduceMul, Int.reduceEq, UInt64.reduceToNat, UInt8.reduceToNat, UInt32.reduceToNat]; rfl) (fun hd => ?_) (fun hd => ?_)
        · have hd' : k < 8 := by
            have : ¬ ((7 : Int) - (k : Int) < 0) := by simpa using hd
            omega
          obtain ⟨m, hm⟩ : ∃ m : Nat, (7 : Int) - (k : Int) = (m : Int) := ⟨7 - k, by omega⟩
          have hm7 : m = 7 - k := by omega
          refine Tri.skp ?_
          refine Tri.seq (Tri.block ?_)
          refine Tri.at (by first | (simp only [Tryd.f22, kSumH, kAdd, cfgE, tyTab, hasT, Con.ofO, argO, argO1, heapO, heapO1, fldF, blkF, OK.cnt, OK.cnt1, FK.cnt, AK.cnt, argA, heapA, Kd.sz, AV.ofKd, rdO, rdO1, rdOb, rdF, rdT, castK_self, Nat.mul_one, take1, List.take_nil, hR, hRl, htu, hm, Con.start, go_sem, ↓reduceIte, reduceCtorEq, Nat.reduceLT, Nat.reduceSub, Nat.reduceAdd, Nat.reduceMul, Nat.reduceEqDiff, Nat.reduceBEq, Nat.reduceBNe, Nat.reduceLeDiff, Nat.reduceDiv, Nat.reduceMod, Nat.reducePow, List.reduceReplicate, UInt8.reduceOfNat, UInt32.reduceOfNat, UInt64.reduceOfNat, Int.reduceLE, Int.reduceLT, Int.reduceNeg, Int.reduceToNat, Int.reduceAdd, Int.reduceSub, Int.reduceMul, Int.reduceEq, UInt64.reduceToNat, UInt8.reduceToNat, UInt32.reduceToNat]; rfl) | rfl) ?_
          refine (Tri.rgnT (cfgE_ok.pins _) ?_)
          repeat (first | refine RunT.one (by first | exact wantedA_none rfl | (simp only [go_sem, Bool.true_beq, Bool.false_beq]; done) | (simp only [go_sem, Bool.true_beq, Bool.false_beq]; with_reducible rfl)) (by simp (maxSteps := 2000000) (disch := first | decide | omega | (simp only [List.length_append, List.length_cons, List.length_nil, List.length_take, List.length_drop]; omega)) only [Tryd.f22, kSumH, kAdd, cfgE, tyTab, hasT, Con.ofO, argO, argO1, heapO, heapO1, fldF, blkF, OK.cnt, OK.cnt1, FK.cnt, AK.cnt, argA, heapA, Kd.sz, AV.ofKd, rdO, rdO1, rdOb, rdF, rdT, castK_self, Nat.mul_one, take1, List.take_nil, hR, hRl, htu, hm, go_sem, ↓reduceIte, reduceCtorEq, Nat.reduceLT, Nat.reduceSub, Nat.reduceAdd, Nat.reduceMul, Nat.reduceEqDiff, Nat.reduceBEq, Nat.reduceBNe, Nat.reduceLeDiff, Nat.reduceDiv, Nat.reduceMod, Nat.reducePow, List.reduceReplicate, UInt8.reduceOfNat, UInt32.reduceOfNat, UInt64.reduceOfNat, Int.reduceLE, Int.reduceLT, Int.reduceNeg, Int.reduceToNat, Int.reduceAdd, Int.reduceSub, Int.reduceMul, Int.reduceEq, UInt64.reduceToNat, UInt8.reduceToNat, UInt32.reduceToNat]; rfl) (by simp only [go_sem, Nat.reduceBEq, Nat.reduceEqDiff, Nat.reduceAdd, ↓reduceIte, reduceCtorEq, List.reduceReplicate, List.replicate]; rfl) (by first | exact True.intro | (simp only [Obs, and_true, true_and]; omega) | (simp [Obs, AV.sizeL, AV.size, Kd.sz]; done) | (simp [Obs, AV.sizeL, AV.size, Kd.sz]; omega)) ?_ | refine RunT.not (by first | (simp only [go_sem, Bool.true_beq, Bool.false_beq]; done) | (simp only [go_sem, Bool.true_beq, Bool.false_beq]; with_reducible rfl)) (by simp only [go_sem, Nat.reduceBEq, Nat.reduceEqDiff, Nat.reduceAdd, ↓reduceIte, reduceCtorEq, List.reduceReplicate, List.replicate]; rfl) ?_)
          refine RunT.nil ?_
          try simp only [InBlock, Then]
          refine (Tri.rgnT (cfgE_ok.pins _) ?_)
          repeat (first | refine RunT.one (by first | exact wantedA_none rfl | (simp only [go_sem, Bool.true_beq, Bool.false_beq]; done) | (simp only [go_sem, Bool.true_beq, Bool.false_beq]; with_reducible rfl)) (by simp (maxSteps := 2000000) (disch := first | decide | omega | (simp only [List.length_append, List.length_cons, List.length_nil, List.length_take, List.length_drop]; omega)) only [Tryd.f22, kSumH, kAdd, cfgE, tyTab, hasT, Con.ofO, argO, argO1, heapO, heapO1, fldF, blkF, OK.cnt, OK.cnt1, FK.cnt, AK.cnt, argA, heapA, Kd.sz, AV.ofKd, rdO, rdO1, rdOb, rdF, rdT, castK_self, Nat.mul_one, take1, List.take_nil, hR, hRl, htu, hm, go_sem, ↓reduceIte, reduceCtorEq, Nat.reduceLT, Nat.reduceSub, Nat.reduceAdd, Nat.reduceMul, Nat.reduceEqDiff, Nat.reduceBEq, Nat.reduceBNe, Nat.reduceLeDiff, Nat.reduceDiv, Nat.reduceMod, Nat.reducePow, List.reduceReplicate, UInt8.reduceOfNat, UInt32.reduceOfNat, UInt64.reduceOfNat, Int.reduceLE, Int.reduceLT, Int.reduceNeg, Int.reduceToNat, Int.reduceAdd, Int.reduceSub, Int.reduceMul, Int.reduceEq, UInt64.reduceToNat, UInt8.reduceToNat, UInt32.reduceToNat]; rfl) (by simp only [go_sem, Nat.reduceBEq, Nat.reduceEqDiff, Nat.reduceAdd, ↓reduceIte, reduceCtorEq, List.reduceReplicate, List.replicate]; rfl) (by first | exact True.intro | (simp only [Obs, and_true, true_and]; omega) | (simp [Obs, AV.sizeL, AV.size, Kd.sz]; done) | (simp [Obs, AV.sizeL, AV.size, Kd.sz]; omega)) ?_ | refine RunT.not (by first | (simp only [go_sem, Bool.true_beq, Bool.false_beq]; done) | (simp only [go_sem, Bool.true_beq, Bool.false_beq]; with_reducible rfl)) (by simp only [go_sem, Nat.reduceBEq, Nat.reduceEqDiff, Nat.reduceAdd, ↓reduceIte, reduceCtorEq, List.reduceReplicate, List.replicate]; rfl) ?_)
          refine RunT.nil ?_
          try simp only [InBlock, Then]
          refine ⟨k + 1, (by omega), (by omega), Wk.of ?_ ?_ rfl rfl⟩
          · have hm1 : (m : Int) - 1 = 7 - ((k + 1 : Nat) : Int) := by omega
            simp only [lessTs, List.reduceReplicate, List.cons_append, List.nil_append, hm1] <;> ((repeat' apply And.intro) <;> first | rfl | trivial)
          · refine ⟨rfl, rfl, rfl, rfl, rfl, arrEq rfl ?_, trivial⟩
            rw [tlI, hU, hm7]
        · have hd' : k = 8 := by
            have : (7 : Int) - (k : Int) < 0 := by simpa using hd
            omega
          subst hd'
          refine Tri.exit ?_
          simp only [Then, InBlock, if_true]
          have htR : List.take rl R = R := List.take_of_length_le (by omega)
          refine Tri.seq (Tri.regT (cfgE_ok.pins _) ?_)
          repeat (first | refine RunT.one (by first | exact wantedA_none rfl | (simp only [go_sem, Bool.true_beq, Bool.false_beq]; done) | (simp only [go_sem, Bool.true_beq, Bool.false_beq]; with_reducible rfl)) (by simp (maxSteps := 2000000) (disch := first | decide | omega | (simp only [List.length_append, List.length_cons, List.length_nil, List.length_take, List.length_drop]; omega)) only [Tryd.f22, kSumH, kAdd, cfgE, tyTab, hasT, Con.ofO, argO, argO1, heapO, heapO1, fldF, blkF, OK.cnt, OK.cnt1, FK.cnt, AK.cnt, argA, heapA, Kd.sz, AV.ofKd, rdO, rdO1, rdOb, rdF, rdT, castK_self, Nat.mul_one, take1, List.take_nil, hR, hRl, htu, htR, hUl, addA, go_sem, ↓reduceIte, reduceCtorEq, Nat.reduceLT, Nat.reduceSub, Nat.reduceAdd, Nat.reduceMul, Nat.reduceEqDiff, Nat.reduceBEq, Nat.reduceBNe, Nat.reduceLeDiff, Nat.reduceDiv, Nat.reduceMod, Nat.reducePow, List.reduceReplicate, UInt8.reduceOfNat, UInt32.reduceOfNat, UInt64.reduceOfNat, Int.reduceLE, Int.reduceLT, Int.reduceNeg, Int.reduceToNat, Int.reduceAdd, Int.reduceSub, Int.reduceMul, Int.reduceEq, UInt64.reduceToNat, UInt8.reduceToNat, UInt32.reduceToNat]; rfl) (by simp only [go_sem, Nat.reduceBEq, Nat.reduceEqDiff, Nat.reduceAdd, ↓reduceIte, reduceCtorEq, List.reduceReplicate, List.replicate]; rfl) (by first | exact True.intro | (simp only [Obs, and_true, true_and]; omega) | (simp [Obs, AV.sizeL, AV.size, Kd.sz]; done) | (simp [Obs, AV.sizeL, AV.size, Kd.sz]; omega)) ?_ | refine RunT.not (by first | (simp only [go_sem, Bool.true_beq, Bool.false_beq]; done) | (simp only [go_sem, Bool.true_beq, Bool.false_beq]; with_reducible rfl)) (by simp only [go_sem, Nat.reduceBEq, Nat.reduceEqDiff, Nat.reduceAdd, ↓reduceIte, reduceCtorEq, List.reduceReplicate, List.replicate]; rfl) ?_)
          refine RunT.nil ?_
          generalize hs2 : adS st (R ++ U) ((rl + (j + 1 + 8)) / 64) = s2
          have hout : sumS st R rl cn = ouI s2 8 := by
            rw [← hs2, ← hU, hT0, hz]
            rfl
          refine Tri.seq (Tri.seq ?_)
          refine Tri.at (by first | (simp only [Tryd.f22, kSumH, kAdd, cfgE, tyTab, hasT, Con.ofO, argO, argO1, heapO, heapO1, fldF, blkF, OK.cnt, OK.cnt1, FK.cnt, AK.cnt, argA, heapA, Kd.sz, AV.ofKd, rdO, rdO1, rdOb, rdF, rdT, castK_self, Nat.mul_one, take1, List.take_nil, hR, hRl, Con.start, go_sem, ↓reduceIte, reduceCtorEq, Nat.reduceLT, Nat.reduceSub, Nat.reduceAdd, Nat.reduceMul, Nat.reduceEqDiff, Nat.reduceBEq, Nat.reduceBNe, Nat.reduceLeDiff, Nat.reduceDiv, Nat.reduceMod, Nat.reducePow, List.reduceReplicate, UInt8.reduceOfNat, UInt32.reduceOfNat, UInt64.reduceOfNat, Int.reduceLE, Int.reduceLT, Int.reduceNeg, Int.reduceToNat, Int.reduceAdd, Int.reduceSub, Int.reduceMul, Int.reduceEq, UInt64.reduceToNat, UInt8.reduceToNat, UInt32.reduceToNat]; rfl) | rfl) ?_
          refine (Tri.rgnT (cfgE_ok.pins _) ?_)
          repeat (first | refine RunT.one (by first | exact wantedA_none rfl | (simp only [go_sem, Bool.true_beq, Bool.false_beq]; done) | (simp only [go_sem, Bool.true_beq, Bool.false_beq]; with_reducible rfl)) (by simp (maxSteps := 2000000) (disch := first | decide | omega | (simp only [List.length_append, List.length_cons, List.length_nil, List.length_take, List.length_drop]; omega)) only [Tryd.f22, kSumH, kAdd, cfgE, tyTab, hasT, Con.ofO, argO, argO1, heapO, heapO1, fldF, blkF, OK.cnt, OK.cnt1, FK.cnt, AK.cnt, argA, heapA, Kd.sz, AV.ofKd, rdO, rdO1, rdOb, rdF, rdT, castK_self, Nat.mul_one, take1, List.take_nil, hR, hRl, go_sem, ↓reduceIte, reduceCtorEq, Nat.reduceLT, Nat.reduceSub, Nat.reduceAdd, Nat.reduceMul, Nat.reduceEqDiff, Nat.reduceBEq, Nat.reduceBNe, Nat.reduceLeDiff, Nat.reduceDiv, Nat.reduceMod, Nat.reducePow, List.reduceReplicate, UInt8.reduceOfNat, UInt32.reduceOfNat, UInt64.reduceOfNat, Int.reduceLE, Int.reduceLT, Int.reduceNeg, Int.reduceToNat, Int.reduceAdd, Int.reduceSub, Int.reduceMul, Int.reduceEq, UInt64.reduceToNat, UInt8.reduceToNat, UInt32.reduceToNat]; rfl) (by simp only [go_sem, Nat.reduceBEq, Nat.reduceEqDiff, Nat.reduceAdd, ↓reduceIte, reduceCtorEq, List.reduceReplicate, List.replicate]; rfl) (by first | exact True.intro | (simp only [Obs, and_true, true_and]; omega) | (simp [Obs, AV.sizeL, AV.size, Kd.sz]; done) | (simp [Obs, AV.sizeL, AV.size, Kd.sz]; omega)) ?_ | refine RunT.not (by first | (simp only [go_sem, Bool.true_beq, Bool.false_beq]; done) | (simp only [go_sem, Bool.true_beq, Bool.false_beq]; with_reducible rfl)) (by simp only [go_sem, Nat.reduceBEq, Nat.reduceEqDiff, Nat.reduceAdd, ↓reduceIte, reduceCtorEq, List.reduceReplicate, List.replicate]; rfl) ?_)
          refine RunT.nil ?_
          try simp only [InBlock, Then]
          refine Tri.block ?_
          refine Tri.loop (fun i : Nat => (⟨[some (.ptr 0 [] 0), none, some (.ptr 2 [] 0), none, none, none, none, none, none, none, none, none, none, none, none, none, none, none, none, none, none, none, none, none, none, none, none, none, none, none, none, none, none, none, none, none, none, none, none, none, none, none, none, none, none, none, none, none, none, none, none, none, none, none, none, none, some (.pure w8 s2), some (.int .i64 (i : Int))] ++ List.replicate 20 none, [.live (.agg [.pure w8 st, .tsl 1 [] r0 r0 1 rl, .int .u64 cn]), .live (.pure (.arr N (.int .u8)) xs), .live (.pure h32 (ouI s2 i))]⟩ : AS)) (· ≤ 8) (fun k => 8 - k) 0 ?_ (Nat.zero_le _) ?_
          · refine Wk.of ?_ ?_ rfl rfl
            · simp only [lessTs, List.reduceReplicate, List.cons_append, List.nil_append, ouI, hZ] <;> ((repeat' apply And.intro) <;> first | rfl | trivial)
            · simp only [lessHs, ouI, hZ] <;> ((repeat' apply And.intro) <;> first | rfl | trivial)
          · intro i hi
            generalize hO : ouI s2 i = O
            refine Tri.at (by first | (simp only [Tryd.f22, kSumH, kAdd, cfgE, tyTab, hasT, Con.ofO, argO, argO1, heapO, heapO1, fldF, blkF, OK.cnt, OK.cnt1, FK.cnt, AK.cnt, argA, heapA, Kd.sz, AV.ofKd, rdO, rdO1, rdOb, rdF, rdT, castK_self, Nat.mul_one, take1, List.take_nil, hR, hRl, Con.start, go_sem, ↓reduceIte, reduceCtorEq, Nat.reduceLT, Nat.reduceSub, Nat.reduceAdd, Nat.reduceMul, Nat.reduceEqDiff, Nat.reduceBEq, Nat.reduceBNe, Nat.reduceLeDiff, Nat.reduceDiv, Nat.reduceMod, Nat.reducePow, List.reduceReplicate, UInt8.reduceOfNat, UInt32.reduceOfNat, UInt64.reduceOfNat, Int.reduceLE, Int.reduceLT, Int.reduceNeg, Int.reduceToNat, Int.reduceAdd, Int.reduceSub, Int.reduceMul, Int.reduceEq, UInt64.reduceToNat, UInt8.reduceToNat, UInt32.reduceToNat]; rfl) | rfl) ?_
            refine Tri.seq (Tri.regT (cfgE_ok.pins _) ?_)
            repeat (first | refine RunT.one (by first | exact wantedA_none rfl | (simp only [go_sem, Bool.true_beq, Bool.false_beq]; done) | (simp only [go_sem, Bool.true_beq, Bool.false_beq]; with_reducible rfl)) (by simp (maxSteps := 2000000) (disch := first | decide | omega | (simp only [List.length_append, List.length_cons, List.length_nil, List.length_take, List.length_drop]; omega)) only [Tryd.f22, kSumH, kAdd, cfgE, tyTab, hasT, Con.ofO, argO, argO1, heapO, heapO1, fldF, blkF, OK.cnt, OK.cnt1, FK.cnt, AK.cnt, argA, heapA, Kd.sz, AV.ofKd, rdO, rdO1, rdOb, rdF, rdT, castK_self, Nat.mul_one, take1, List.take_nil, hR, hRl, go_sem, ↓reduceIte, reduceCtorEq, Nat.reduceLT, Nat.reduceSub, Nat.reduceAdd, Nat.reduceMul, Nat.reduceEqDiff, Nat.reduceBEq, Nat.reduceBNe, Nat.reduceLeDiff, Nat.reduceDiv, Nat.reduceMod, Nat.reducePow, List.reduceReplicate, UInt8.reduceOfNat, UInt32.reduceOfNat, UInt64.reduceOfNat, Int.reduceLE, Int.reduceLT, Int.reduceNeg, Int.reduceToNat, Int.reduceAdd, Int.reduceSub, Int.reduceMul, Int.reduceEq, UInt64.reduceToNat, UInt8.reduceToNat, UInt32.reduceToNat]; rfl) (by simp only [go_sem, Nat.reduceBEq, Nat.reduceEqDiff, Nat.reduceAdd, ↓reduceIte, reduceCtorEq, List.reduceReplicate, List.replicate]; rfl) (by first | exact True.intro | (simp only [Obs, and_true, true_and]; omega) | (simp [Obs, AV.sizeL, AV.size, Kd.sz]; done) | (simp [Obs, AV.sizeL, AV.size, Kd.sz]; omega)) ?_ | refine RunT.not (by first | (simp only [go_sem, Bool.true_beq, Bool.false_beq]; done) | (simp only [go_sem, Bool.true_beq, Bool.false_beq]; with_reducible rfl)) (by simp only [go_sem, Nat.reduceBEq, Nat.reduceEqDiff, Nat.reduceAdd, ↓reduceIte, reduceCtorEq, List.reduceReplicate, List.replicate]; rfl) ?_)
            refine RunT.nil ?_
            refine Tri.seq ?_
            refine Tri.split (by simp only [AS.ev, go_sem, ↓reduceIte, reduceCtorEq, Nat.reduceLT, Nat.reduceSub, Nat.reduceAdd, Nat.reduceMul, Nat.reduceEqDiff, Nat.reduceBEq, Nat.reduceBNe, Nat.reduceLeDiff, Nat.reduceDiv, Nat.reduceMod, Nat.reducePow, List.reduceReplicate, UInt8.reduceOfNat, UInt32.reduceOfNat, UInt64.reduceOfNat, Int.reduceLE, Int.reduceLT, Int.reduceNeg, Int.reduceToNat, Int.reduceAdd, Int.reduceSub, Int.reduceMul, Int.reduceEq, UInt64.reduceToNat, UInt8.reduceToNat, UInt32.reduceToNat]; rfl) (fun he => ?_) (fun he => ?_)
            · have he' : i < 8 := by have := of_decide_eq_true he; omega
              refine Tri.skp ?_
              refine Tri.seq (Tri.block ?_)
              refine Tri.seq (Tri.regT (cfgE_ok.pins _) ?_)
              repeat (first | refine RunT.one (by first | exact wantedA_none rfl | (simp only [go_sem, Bool.true_beq, Bool.false_beq]; done) | (simp only [go_sem, Bool.true_beq, Bool.false_beq]; with_reducible rfl)) (by simp (maxSteps := 2000000) (disch := first | decide | omega | (simp only [List.length_append, List.length_cons, List.length_nil, List.length_take, List.length_drop]; omega)) only [Tryd.f22, kSumH, kAdd, cfgE, tyTab, hasT, Con.ofO, argO, argO1, heapO, heapO1, fldF, blkF, OK.cnt, OK.cnt1, FK.cnt, AK.cnt, argA, heapA, Kd.sz, AV.ofKd, rdO, rdO1, rdOb, rdF, rdT, castK_self, Nat.mul_one, take1, List.take_nil, hR, hRl, go_sem, ↓reduceIte, reduceCtorEq, Nat.reduceLT, Nat.reduceSub, Nat.reduceAdd, Nat.reduceMul, Nat.reduceEqDiff, Nat.reduceBEq, Nat.reduceBNe, Nat.reduceLeDiff, Nat.reduceDiv, Nat.reduceMod, Nat.reducePow, List.reduceReplicate, UInt8.reduceOfNat, UInt32.reduceOfNat, UInt64.reduceOfNat, Int.reduceLE, Int.reduceLT, Int.reduceNeg, Int.reduceToNat, Int.reduceAdd, Int.reduceSub, Int.reduceMul, Int.reduceEq, UInt64.reduceToNat, UInt8.reduceToNat, UInt32.reduceToNat]; rfl) (by simp only [go_sem, Nat.reduceBEq, Nat.reduceEqDiff, Nat.reduceAdd, ↓reduceIte, reduceCtorEq, List.reduceReplicate, List.replicate]; rfl) (by first | exact True.intro | (simp only [Obs, and_true, true_and]; omega) | (simp [Obs, AV.sizeL, AV.size, Kd.sz]; done) | (simp [Obs, AV.sizeL, AV.size, Kd.sz]; omega)) ?_ | refine RunT.not (by first | (simp only [go_sem, Bool.true_beq, Bool.false_beq]; done) | (simp only [go_sem, Bool.true_beq, Bool.false_beq]; with_reducible rfl)) (by simp only [go_sem, Nat.reduceBEq, Nat.reduceEqDiff, Nat.reduceAdd, ↓reduceIte, reduceCtorEq, List.reduceReplicate, List.replicate]; rfl) ?_)
              refine RunT.nil ?_
              generalize hX : s2.getD i 0 = X
              refine Tri.seq (Tri.regT (cfgE_ok.pins _) ?_)
              repeat (first | refine RunT.one (by first | exact wantedA_none rfl | (simp only [go_sem, Bool.true_beq, Bool.false_beq]; done) | (simp only [go_sem, Bool.true_beq, Bool.false_beq]; with_reducible rfl)) (by simp (maxSteps := 2000000) (disch := first | decide | omega | (simp only [List.length_append, List.length_cons, List.length_nil, List.length_take, List.length_drop]; omega)) only [Tryd.f22, kSumH, kAdd, cfgE, tyTab, hasT, Con.ofO, argO, argO1, heapO, heapO1, fldF, blkF, OK.cnt, OK.cnt1, FK.cnt, AK.cnt, argA, heapA, Kd.sz, AV.ofKd, rdO, rdO1, rdOb, rdF, rdT, castK_self, Nat.mul_one, take1, List.take_nil, hR, hRl, go_sem, ↓reduceIte, reduceCtorEq, Nat.reduceLT, Nat.reduceSub, Nat.reduceAdd, Nat.reduceMul, Nat.reduceEqDiff, Nat.reduceBEq, Nat.reduceBNe, Nat.reduceLeDiff, Nat.reduceDiv, Nat.reduceMod, Nat.reducePow, List.reduceReplicate, UInt8.reduceOfNat, UInt32.reduceOfNat, UInt64.reduceOfNat, Int.reduceLE, Int.reduceLT, Int.reduceNeg, Int.reduceToNat, Int.reduceAdd, Int.reduceSub, Int.reduceMul, Int.reduceEq, UInt64.reduceToNat, UInt8.reduceToNat, UInt32.reduceToNat]; rfl) (by simp only [go_sem, Nat.reduceBEq, Nat.reduceEqDiff, Nat.reduceAdd, ↓reduceIte, reduceCtorEq, List.reduceReplicate, List.replicate]; rfl) (by first | exact True.intro | (simp only [Obs, and_true, true_and]; omega) | (simp [Obs, AV.sizeL, AV.size, Kd.sz]; done) | (simp [Obs, AV.sizeL, AV.size, Kd.sz]; omega)) ?_ | refine RunT.not (by first | (simp only [go_sem, Bool.true_beq, Bool.false_beq]; done) | (simp only [go_sem, Bool.true_beq, Bool.false_beq]; with_reducible rfl)) (by simp only [go_sem, Nat.reduceBEq, Nat.reduceEqDiff, Nat.reduceAdd, ↓reduceIte, reduceCtorEq, List.reduceReplicate, List.replicate]; rfl) ?_)
              refine RunT.nil ?_
              refine Tri.block ?_
              refine Tri.loop (fun k : Nat => (⟨[some (.ptr 0 [] 0), none, some (.ptr 2 [] 0), none, none, none, none, some (.int .i64 (i : Int)), some (.int .u32 X), none, none, none, none, none, none, none, none, none, none, none, none, none, none, none, none, none, none, none, none, none, none, none, none, none, none, none, none, none, none, none, none, none, none, none, none, none, none, none, none, none, none, none, none, none, none, none, some (.pure w8 s2), some (.int .i64 (i : Int)), none, none, none, some (.int .i64 (k : Int))] ++ List.replicate 16 none, [.live (.agg [.pure w8 st, .tsl 1 [] r0 r0 1 rl, .int .u64 cn]), .live (.pure (.arr N (.int .u8)) xs), .live (.pure h32 (ouK X O i k))]⟩ : AS)) (· ≤ 4) (fun k => 4 - k) 0 ?_ (Nat.zero_le _) ?_
              · refine Wk.of ?_ ?_ rfl rfl
                · simp only [lessTs, List.reduceReplicate, List.cons_append, List.nil_append, ouK] <;> ((repeat' apply And.intro) <;> first | rfl | trivial)
                · simp only [lessHs, ouK] <;> ((repeat' apply And.intro) <;> first | rfl | trivial)
              · intro k hk
                refine Tri.at (by first | (simp only [Tryd.f22, kSumH, kAdd, cfgE, tyTab, hasT, Con.ofO, argO, argO1, heapO, heapO1, fldF, blkF, OK.cnt, OK.cnt1, FK.cnt, AK.cnt, argA, heapA, Kd.sz, AV.ofKd, rdO, rdO1, rdOb, rdF, rdT, castK_self, Nat.mul_one, take1, List.take_nil, hR, hRl, Con.start, go_sem, ↓reduceIte, reduceCtorEq, Nat.reduceLT, Nat.reduceSub, Nat.reduceAdd, Nat.reduceMul, Nat.reduceEqDiff, Nat.reduceBEq, Nat.reduceBNe, Nat.reduceLeDiff, Nat.reduceDiv, Nat.reduceMod, Nat.reducePow, List.reduceReplicate, UInt8.reduceOfNat, UInt32.reduceOfNat, UInt64.reduceOfNat, Int.reduceLE, Int.reduceLT, Int.reduceNeg, Int.reduceToNat, Int.reduceAdd, Int.reduceSub, Int.reduceMul, Int.reduceEq, UInt64.reduceToNat, UInt8.reduceToNat, UInt32.reduceToNat]; rfl) | rfl) ?_
                refine Tri.seq (Tri.regT (cfgE_ok.pins _) ?_)
                repeat (first | refine RunT.one (by first | exact wantedA_none rfl | (simp only [go_sem, Bool.true_beq, Bool.false_beq]; done) | (simp only [go_sem, Bool.true_beq, Bool.false_beq]; with_reducible rfl)) (by simp (maxSteps := 2000000) (disch := first | decide | omega | (simp only [List.length_append, List.length_cons, List.length_nil, List.length_take, List.length_drop]; omega)) only [Tryd.f22, kSumH, kAdd, cfgE, tyTab, hasT, Con.ofO, argO, argO1, heapO, heapO1, fldF, blkF, OK.cnt, OK.cnt1, FK.cnt, AK.cnt, argA, heapA, Kd.sz, AV.ofKd, rdO, rdO1, rdOb, rdF, rdT, castK_self, Nat.mul_one, take1, List.take_nil, hR, hRl, go_sem, ↓reduceIte, reduceCtorEq, Nat.reduceLT, Nat.reduceSub, Nat.reduceAdd, Nat.reduceMul, Nat.reduceEqDiff, Nat.reduceBEq, Nat.reduceBNe, Nat.reduceLeDiff, Nat.reduceDiv, Nat.reduceMod, Nat.reducePow, List.reduceReplicate, UInt8.reduceOfNat, UInt32.reduceOfNat, UInt64.reduceOfNat, Int.reduceLE, Int.reduceLT, Int.reduceNeg, Int.reduceToNat, Int.reduceAdd, Int.reduceSub, Int.reduceMul, Int.reduceEq, UInt64.reduceToNat, UInt8.reduceToNat, UInt32.reduceToNat]; rfl) (by simp only [go_sem, Nat.reduceBEq, Nat.reduceEqDiff, Nat.reduceAdd, ↓reduceIte, reduceCtorEq, List.reduceReplicate, List.replicate]; rfl) (by first | exact True.intro | (simp only [Obs, and_true, true_and]; omega) | (simp [Obs, AV.sizeL, AV.size, Kd.sz]; done) | (simp [Obs, AV.sizeL, AV.size, Kd.sz]; omega)) ?_ | refine RunT.not (by first | (simp only [go_sem, Bool.true_beq, Bool.false_beq]; done) | (simp only [go_sem, Bool.true_beq, Bool.false_beq]; with_reducible rfl)) (by simp only [go_sem, Nat.reduceBEq, Nat.reduceEqDiff, Nat.reduceAdd, ↓reduceIte, reduceCtorEq, List.reduceReplicate, List.replicate]; rfl) ?_)
                refine RunT.nil ?_
                refine Tri.seq ?_
                refine Tri.split (by simp only [AS.ev, go_sem, ↓reduceIte, reduceCtorEq, Nat.reduceLT, Nat.reduceSub, Nat.reduceAdd, Nat.reduceMul, Nat.reduceEqDiff, Nat.reduceBEq, Nat.reduceBNe, Nat.reduceLeDiff, Nat.reduceDiv, Nat.reduceMod, Nat.reducePow, List.reduceReplicate, UInt8.reduceOfNat, UInt32.reduceOfNat, UInt64.reduceOfNat, Int.reduceLE, Int.reduceLT, Int.reduceNeg, Int.reduceToNat, Int.reduceAdd, Int.reduceSub, Int.reduceMul, Int.reduceEq, UInt64.reduceToNat, UInt8.reduceToNat, UInt32.reduceToNat]; rfl) (fun hf => ?_) (fun hf => ?_)
                · have hf' : k < 4 := by have := of_decide_eq_true hf; omega
                  obtain ⟨m, hm⟩ : ∃ m : Nat, (3 : Int) - (k : Int) = (m : Int) := ⟨3 - k, by omega⟩
                  have hm3 : m = 3 - k := by omega
                  refine Tri.skp ?_
                  refine Tri.seq (Tri.block ?_)
                  refine Tri.seq (Tri.regT (cfgE_ok.pins _) ?_)
                  repeat (first | refine RunT.one (by first | exact wantedA_none rfl | (simp only [go_sem, Bool.true_beq, Bool.false_beq]; done) | (simp only [go_sem, Bool.true_beq, Bool.false_beq]; with_reducible rfl)) (by simp (maxSteps := 2000000) (disch := first | decide | omega | (simp only [List.length_append, List.length_cons, List.length_nil, List.length_take, List.length_drop]; omega)) only [Tryd.f22, kSumH, kAdd, cfgE, tyTab, hasT, Con.ofO, argO, argO1, heapO, heapO1, fldF, blkF, OK.cnt, OK.cnt1, FK.cnt, AK.cnt, argA, heapA, Kd.sz, AV.ofKd, rdO, rdO1, rdOb, rdF, rdT, castK_self, Nat.mul_one, take1, List.take_nil, hR, hRl, hm, go_sem, ↓reduceIte, reduceCtorEq, Nat.reduceLT, Nat.reduceSub, Nat.reduceAdd, Nat.reduceMul, Nat.reduceEqDiff, Nat.reduceBEq, Nat.reduceBNe, Nat.reduceLeDiff, Nat.reduceDiv, Nat.reduceMod, Nat.reducePow, List.reduceReplicate, UInt8.reduceOfNat, UInt32.reduceOfNat, UInt64.reduceOfNat, Int.reduceLE, Int.reduceLT, Int.reduceNeg, Int.reduceToNat, Int.reduceAdd, Int.reduceSub, Int.reduceMul, Int.reduceEq, UInt64.reduceToNat, UInt8.reduceToNat, UInt32.reduceToNat]; rfl) (by simp only [go_sem, Nat.reduceBEq, Nat.reduceEqDiff, Nat.reduceAdd, ↓reduceIte, reduceCtorEq, List.reduceReplicate, List.replicate]; rfl) (by first | exact True.intro | (simp only [Obs, and_true, true_and]; omega) | (simp [Obs, AV.sizeL, AV.size, Kd.sz]; done) | (simp [Obs, AV.sizeL, AV.size, Kd.sz]; omega)) ?_ | refine RunT.not (by first | (simp only [go_sem, Bool.true_beq, Bool.false_beq]; done) | (simp only [go_sem, Bool.true_beq, Bool.false_beq]; with_reducible rfl)) (by simp only [go_sem, Nat.reduceBEq, Nat.reduceEqDiff, Nat.reduceAdd, ↓reduceIte, reduceCtorEq, List.reduceReplicate, List.replicate]; rfl) ?_)
                  refine RunT.nil ?_
                  refine (Tri.rgnT (cfgE_ok.pins _) ?_)
                  repeat (first | refine RunT.one (by first | exact wantedA_none rfl | (simp only [go_sem, Bool.true_beq, Bool.false_beq]; done) | (simp only [go_sem, Bool.true_beq, Bool.false_beq]; with_reducible rfl)) (by simp (maxSteps := 2000000) (disch := first | decide | omega | (simp only [List.length_append, List.length_cons, List.length_nil, List.length_take, List.length_drop]; omega)) only [Tryd.f22, kSumH, kAdd, cfgE, tyTab, hasT, Con.ofO, argO, argO1, heapO, heapO1, fldF, blkF, OK.cnt, OK.cnt1, FK.cnt, AK.cnt, argA, heapA, Kd.sz, AV.ofKd, rdO, rdO1, rdOb, rdF, rdT, castK_self, Nat.mul_one, take1, List.take_nil, hR, hRl, hm, go_sem, ↓reduceIte, reduceCtorEq, Nat.reduceLT, Nat.reduceSub, Nat.reduceAdd, Nat.reduceMul, Nat.reduceEqDiff, Nat.reduceBEq, Nat.reduceBNe, Nat.reduceLeDiff, Nat.reduceDiv, Nat.reduceMod, Nat.reducePow, List.reduceReplicate, UInt8.reduceOfNat, UInt32.reduceOfNat, UInt64.reduceOfNat, Int.reduceLE, Int.reduceLT, Int.reduceNeg, Int.reduceToNat, Int.reduceAdd, Int.reduceSub, Int.reduceMul, Int.reduceEq, UInt64.reduceToNat, UInt8.reduceToNat, UInt32.reduceToNat]; rfl) (by simp only [go_sem, Nat.reduceBEq, Nat.reduceEqDiff, Nat.reduceAdd, ↓reduceIte, reduceCtorEq, List.reduceReplicate, List.replicate]; rfl) (by first | exact True.intro | (simp only [Obs, and_true, true_and]; omega) | (simp [Obs, AV.sizeL, AV.size, Kd.sz]; done) | (simp [Obs, AV.sizeL, AV.size, Kd.sz]; omega)) ?_ | refine RunT.not (by first | (simp only [go_sem, Bool.true_beq, Bool.false_beq]; done) | (simp only [go_sem, Bool.true_beq, Bool.false_beq]; with_reducible rfl)) (by simp only [go_sem, Nat.reduceBEq, Nat.reduceEqDiff, Nat.reduceAdd, ↓reduceIte, reduceCtorEq, List.reduceReplicate, List.replicate]; rfl) ?_)
                  refine RunT.nil ?_
                  try simp only [InBlock, Then]
                  refine (Tri.rgnT (cfgE_ok.pins _) ?_)
                  repeat (first | refine RunT.one (by first | exact wantedA_none rfl | (simp only [go_sem, Bool.true_beq, Bool.false_beq]; done) | (simp only [go_sem, Bool.true_beq, Bool.false_beq]; with_reducible rfl)) (by simp (maxSteps := 2000000) (disch := first | decide | omega | (simp only [List.length_append, List.length_cons, List.length_nil, List.length_take, List.length_drop]; omega)) only [Tryd.f22, kSumH, kAdd, cfgE, tyTab, hasT, Con.ofO, argO, argO1, heapO, heapO1, fldF, blkF, OK.cnt, OK.cnt1, FK.cnt, AK.cnt, argA, heapA, Kd.sz, AV.ofKd, rdO, rdO1, rdOb, rdF, rdT, castK_self, Nat.mul_one, take1, List.take_nil, hR, hRl, hm, go_sem, ↓reduceIte, reduceCtorEq, Nat.reduceLT, Nat.reduceSub, Nat.reduceAdd, Nat.reduceMul, Nat.reduceEqDiff, Nat.reduceBEq, Nat.reduceBNe, Nat.reduceLeDiff, Nat.reduceDiv, Nat.reduceMod, Nat.reducePow, List.reduceReplicate, UInt8.reduceOfNat, UInt32.reduceOfNat, UInt64.reduceOfNat, Int.reduceLE, Int.reduceLT, Int.reduceNeg, Int.reduceToNat, Int.reduceAdd, Int.reduceSub, Int.reduceMul, Int.reduceEq, UInt64.reduceToNat, UInt8.reduceToNat, UInt32.reduceToNat]; rfl) (by simp only [go_sem, Nat.reduceBEq, Nat.reduceEqDiff, Nat.reduceAdd, ↓reduceIte, reduceCtorEq, List.reduceReplicate, List.replicate]; rfl) (by first | exact True.intro | (simp only [Obs, and_true, true_and]; omega) | (simp [Obs, AV.sizeL, AV.size, Kd.sz]; done) | (simp [Obs, AV.sizeL, AV.size, Kd.sz]; omega)) ?_ | refine RunT.not (by first | (simp only [go_sem, Bool.true_beq, Bool.false_beq]; done) | (simp only [go_sem, Bool.true_beq, Bool.false_beq]; with_reducible rfl)) (by simp only [go_sem, Nat.reduceBEq, Nat.reduceEqDiff, Nat.reduceAdd, ↓reduceIte, reduceCtorEq, List.reduceReplicate, List.replicate]; rfl) ?_)
                  refine RunT.nil ?_
                  try simp only [InBlock, Then]
                  refine ⟨k+1, (by omega), (by omega), Wk.of ?_ ?_ rfl rfl⟩
                  · simp only [lessTs, List.reduceReplicate, List.cons_append, List.nil_append, ouK, ← hm3] <;> ((repeat' apply And.intro) <;> first | rfl | trivial)
                  · simp only [lessHs, ouK, ← hm3] <;> ((repeat' apply And.intro) <;> first | rfl | trivial)
                · have hf' : k = 4 := by have := of_decide_eq_false hf; omega
                  subst hf'
                  refine Tri.exit ?_
                  simp only [Then, InBlock, if_true]
                  refine (Tri.rgnT (cfgE_ok.pins _) ?_)
                  repeat (first | refine RunT.one (by first | exact wantedA_none rfl | (simp only [go_sem, Bool.true_beq, Bool.false_beq]; done) | (simp only [go_sem, Bool.true_beq, Bool.false_beq]; with_reducible rfl)) (by simp (maxSteps := 2000000) (disch := first | decide | omega | (simp only [List.length_append, List.length_cons, List.length_nil, List.length_take, List.length_drop]; omega)) only [Tryd.f22, kSumH, kAdd, cfgE, tyTab, hasT, Con.ofO, argO, argO1, heapO, heapO1, fldF, blkF, OK.cnt, OK.cnt1, FK.cnt, AK.cnt, argA, heapA, Kd.sz, AV.ofKd, rdO, rdO1, rdOb, rdF, rdT, castK_self, Nat.mul_one, take1, List.take_nil, hR, hRl, go_sem, ↓reduceIte, reduceCtorEq, Nat.reduceLT, Nat.reduceSub, Nat.reduceAdd, Nat.reduceMul, Nat.reduceEqDiff, Nat.reduceBEq, Nat.reduceBNe, Nat.reduceLeDiff, Nat.reduceDiv, Nat.reduceMod, Nat.reducePow, List.reduceReplicate, UInt8.reduceOfNat, UInt32.reduceOfNat, UInt64.reduceOfNat, Int.reduceLE, Int.reduceLT, Int.reduceNeg, Int.reduceToNat, Int.reduceAdd, Int.reduceSub, Int.reduceMul, Int.reduceEq, UInt64.reduceToNat, UInt8.reduceToNat, UInt32.reduceToNat]; rfl) (by simp only [go_sem, Nat.reduceBEq, Nat.reduceEqDiff, Nat.reduceAdd, ↓reduceIte, reduceCtorEq, List.reduceReplicate, List.replicate]; rfl) (by first | exact True.intro | (simp only [Obs, and_true, true_and]; omega) | (simp [Obs, AV.sizeL, AV.size, Kd.sz]; done) | (simp [Obs, AV.sizeL, AV.size, Kd.sz]; omega)) ?_ | refine RunT.not (by first | (simp only [go_sem, Bool.true_beq, Bool.false_beq]; done) | (simp only [go_sem, Bool.true_beq, Bool.false_beq]; with_reducible rfl)) (by simp only [go_sem, Nat.reduceBEq, Nat.reduceEqDiff, Nat.reduceAdd, ↓reduceIte, reduceCtorEq, List.reduceReplicate, List.replicate]; rfl) ?_)
                  refine RunT.nil ?_
                  try simp only [InBlock, Then]
                  refine ⟨i+1, (by omega), (by omega), Wk.of ?_ ?_ rfl rfl⟩
                  · simp only [lessTs, List.reduceReplicate, List.cons_append, List.nil_append, ouI, hO, hX] <;> ((repeat' apply And.intro) <;> first | rfl | trivial)
                  · simp only [lessHs, ouI, hO, hX] <;> ((repeat' apply And.intro) <;> first | rfl | trivial)
            · have he' : i = 8 := by have := of_decide_eq_false he; omega
              subst he'
              refine Tri.exit ?_
              simp only [Then, InBlock, if_true]
              refine Tri.seq (Tri.regT (cfgE_ok.pins _) ?_)
              repeat (first | refine RunT.one (by first | exact wantedA_none rfl | (simp only [go_sem, Bool.true_beq, Bool.false_beq]; done) | (simp only [go_sem, Bool.true_beq, Bool.false_beq]; with_reducible rfl)) (by simp (maxSteps := 2000000) (disch := first | decide | omega | (simp only [List.length_append, List.length_cons, List.length_nil, List.length_take, List.length_drop]; omega)) only [Tryd.f22, kSumH, kAdd, cfgE, tyTab, hasT, Con.ofO, argO, argO1, heapO, heapO1, fldF, blkF, OK.cnt, OK.cnt1, FK.cnt, AK.cnt, argA, heapA, Kd.sz, AV.ofKd, rdO, rdO1, rdOb, rdF, rdT, castK_self, Nat.mul_one, take1, List.take_nil, hR, hRl, go_sem, ↓reduceIte, reduceCtorEq, Nat.reduceLT, Nat.reduceSub, Nat.reduceAdd, Nat.reduceMul, Nat.reduceEqDiff, Nat.reduceBEq, Nat.reduceBNe, Nat.reduceLeDiff, Nat.reduceDiv, Nat.reduceMod, Nat.reducePow, List.reduceReplicate, UInt8.reduceOfNat, UInt32.reduceOfNat, UInt64.reduceOfNat, Int.reduceLE, Int.reduceLT, Int.reduceNeg, Int.reduceToNat, Int.reduceAdd, Int.reduceSub, Int.reduceMul, Int.reduceEq, UInt64.reduceToNat, UInt8.reduceToNat, UInt32.reduceToNat]; rfl) (by simp only [go_sem, Nat.reduceBEq, Nat.reduceEqDiff, Nat.reduceAdd, ↓reduceIte, reduceCtorEq, List.reduceReplicate, List.replicate]; rfl) (by first | exact True.intro | (simp only [Obs, and_true, true_and]; omega) | (simp [Obs, AV.sizeL, AV.size, Kd.sz]; done) | (simp [Obs, AV.sizeL, AV.size, Kd.sz]; omega)) ?_ | refine RunT.not (by first | (simp only [go_sem, Bool.true_beq, Bool.false_beq]; done) | (simp only [go_sem, Bool.true_beq, Bool.false_beq]; with_reducible rfl)) (by simp only [go_sem, Nat.reduceBEq, Nat.reduceEqDiff, Nat.reduceAdd, ↓reduceIte, reduceCtorEq, List.reduceReplicate, List.replicate]; rfl) ?_)
              refine RunT.nil ?_
              refine Tri.ret ?_
              refine Con.fin (.inl rfl) (by simp only [Tryd.f22, cfgE, tyTab, resA, resA1, go_sem, ↓reduceIte, reduceCtorEq, Nat.reduceLT, Nat.reduceSub, Nat.reduceAdd, Nat.reduceMul, Nat.reduceEqDiff, Nat.reduceBEq, Nat.reduceBNe, Nat.reduceLeDiff, Nat.reduceDiv, Nat.reduceMod, Nat.reducePow, List.reduceReplicate, UInt8.reduceOfNat, UInt32.reduceOfNat, UInt64.reduceOfNat, Int.reduceLE, Int.reduceLT, Int.reduceNeg, Int.reduceToNat, Int.reduceAdd, Int.reduceSub, Int.reduceMul, Int.reduceEq, UInt64.reduceToNat, UInt8.reduceToNat, UInt32.reduceToNat]; rfl) (by simp only [Obs, and_true, true_and]) ?_ ?_ rfl rfl
              · have e : (kSumH.out ((st, ⟨N, r0, rl, xs⟩, cn, u0), u)).v = .pure h32 O := by
                  show AV.pure h32 (sumS st (List.take rl (List.drop r0 xs)) rl cn) = _
                  rw [hR, hout, hO]
                rw [e]
                rfl
              · exact ⟨rfl, rfl, trivial⟩
theorem sumH_sum : FSumOK Tryd.prog cfgE.G 22 kSumH.sum := Con.sumOK cfgE_ok kSumH Tryd.func22 rfl rfl (Con.ofO_inv _ _ _ _) sumH_body
end Go.Proofs.YticgfjalikmniaaDoor

namespace Go.Proofs.YticgfjalikmniaaDoor
open Go.Vc Go.Proofs
set_option linter.unusedSimpArgs false
set_option linter.unusedVariables false
/-! ### What hashers hold -/
theorem adS_app (s : List UInt32) (A B : List UInt8) : ∀ k, 64 * k ≤ A.length → adS s (A ++ B) k = adS s A k
  | 0, _ => rfl
  | k + 1, h => by
    simp only [adS, adS_app s A B k (by omega)]
    rw [List.drop_append_of_le_length (by omega), List.take_append_of_le_length (by rw [List.length_drop]; omega)]
theorem adS_drop (s : List UInt32) (A : List UInt8) (q : Nat) : ∀ k, adS (adS s A q) (A.drop (64 * q)) k = adS s A (q + k)
  | 0 => rfl
  | k + 1 => by
    show mixS (adS (adS s A q) (A.drop (64 * q)) k) _ = mixS (adS s A (q + k)) _
    rw [adS_drop s A q k, List.drop_drop, show 64 * q + 64 * k = 64 * (q + k) by omega]
    rfl
/-- A hasher's cells. -/
structure HS where
  st : List UInt32
  N : Nat
  i : Nat
  len : Nat
  xs : List UInt8
  cn : UInt64
/-- A hasher to which so much came. -/
structure HS.OK (h : HS) (m : List UInt8) : Prop where
  st : h.st = adS stt0 m (m.length / 64)
  rest : List.take h.len (List.drop h.i h.xs) = m.drop (64 * (m.length / 64))
  len : h.len = m.length - 64 * (m.length / 64)
  in_ : h.i + h.len ≤ h.N
  xs : h.xs.length = h.N
  cn : h.cn = UInt64.ofInt (m.length : Int)
theorem stt0_len : stt0.length = 8 := rfl
theorem HS.OK.st8 {h : HS} {m : List UInt8} (k : h.OK m) : h.st.length = 8 := by rw [k.st]; exact adS_len _ stt0_len _
def HS.new : HS := ⟨stt0, 0, 0, 0, [], 0⟩
theorem HS.new_ok : HS.new.OK [] := ⟨rfl, rfl, rfl, Nat.le_refl _, rfl, rfl⟩
/-- What comes. -/
def HS.add (h : HS) (b : List UInt8) : HS :=
  let A := List.take h.len (List.drop h.i h.xs) ++ b
  let M := h.len + b.length
  ⟨adS h.st A (M / 64), M, 64 * (M / 64), M - 64 * (M / 64), A, h.cn + UInt64.ofInt (b.length : Int)⟩
theorem u64_add (a b : Nat) : UInt64.ofInt (a : Int) + UInt64.ofInt (b : Int) = UInt64.ofInt ((a + b : Nat) : Int) := by
  rw [Int.natCast_add, UInt64.ofInt_add]
theorem HS.OK.add {h : HS} {m b : List UInt8} (k : h.OK m) : (h.add b).OK (m ++ b) := by
  have hl : (List.take h.len (List.drop h.i h.xs)).length = h.len := by
    rw [k.rest, List.length_drop, k.len]
  have hq : 64 * (m.length / 64) ≤ m.length := by omega
  have e1 : (m ++ b).drop (64 * (m.length / 64)) = m.drop (64 * (m.length / 64)) ++ b := List.drop_append_of_le_length hq
  have e2 : (m ++ b).length / 64 = m.length / 64 + (h.len + b.length) / 64 := by rw [List.length_append, k.len]; omega
  have e3 : h.len + b.length - 64 * ((h.len + b.length) / 64) = (m ++ b).length - 64 * ((m ++ b).length / 64) := by rw [List.length_append, k.len]; omega
  refine ⟨?_, ?_, e3, ?_, ?_, ?_⟩
  · show adS h.st (List.take h.len (List.drop h.i h.xs) ++ b) ((h.len + b.length) / 64) = _
    rw [k.rest, ← e1, k.st, e2, ← adS_drop stt0 (m ++ b) (m.length / 64), adS_app stt0 m b _ hq]
  · show List.take (h.len + b.length - 64 * ((h.len + b.length) / 64)) (List.drop (64 * ((h.len + b.length) / 64)) (List.take h.len (List.drop h.i h.xs) ++ b)) = _
    rw [k.rest, ← e1, List.drop_drop, show 64 * (m.length / 64) + 64 * ((h.len + b.length) / 64) = 64 * ((m ++ b).length / 64) by omega]
    refine List.take_of_length_le ?_
    rw [List.length_drop]
    omega
  · show 64 * ((h.len + b.length) / 64) + (h.len + b.length - 64 * ((h.len + b.length) / 64)) ≤ h.len + b.length
    omega
  · show (List.take h.len (List.drop h.i h.xs) ++ b).length = h.len + b.length
    rw [List.length_append, hl]
  · show h.cn + UInt64.ofInt (b.length : Int) = _
    rw [k.cn, u64_add, List.length_append]
/-- The digest. -/
def dig (m : List UInt8) : List UInt8 := ouI (adS stt0 (m ++ tailS m.length (UInt64.ofInt (m.length : Int) * 8)) ((m.length + (padZ m.length + 1 + 8)) / 64)) 8
theorem HS.OK.sum {h : HS} {m : List UInt8} (k : h.OK m) : sumS h.st (List.take h.len (List.drop h.i h.xs)) h.len h.cn = dig m := by
  have hq : 64 * (m.length / 64) ≤ m.length := by omega
  have hp : padZ h.len = padZ m.length := by rw [k.len]; unfold padZ; omega
  unfold sumS dig
  have ht : tailS h.len (h.cn * 8) = tailS m.length (UInt64.ofInt (m.length : Int) * 8) := by
    unfold tailS t0S
    rw [hp, k.cn]
  rw [ht, k.rest, hp]
  generalize tailS m.length (UInt64.ofInt (m.length : Int) * 8) = t
  have e1 : (m ++ t).drop (64 * (m.length / 64)) = m.drop (64 * (m.length / 64)) ++ t := List.drop_append_of_le_length hq
  rw [← e1, k.st, ← adS_app stt0 m t _ hq, adS_drop]
  have : m.length / 64 + (h.len + (padZ m.length + 1 + 8)) / 64 = (m.length + (padZ m.length + 1 + 8)) / 64 := by rw [k.len]; omega
  rw [this]
theorem HS.OK.small {h : HS} {m : List UInt8} (k : h.OK m) : h.len < 64 := by rw [k.len]; omega
end Go.Proofs.YticgfjalikmniaaDoor

namespace Go.Proofs.YticgfjalikmniaaDoor
open Go.Vc Go.Proofs
set_option linter.unusedSimpArgs false
set_option linter.unusedVariables false
set_option maxRecDepth 10000
set_option maxHeartbeats 4000000
-- SEM
def cfgG : Cfg2 := { ty := tyTab, fn := fun | 20 => some kNewH.sum | 21 => some kAdd.sum | 22 => some kSumH.sum | _ => none, G := shaG, pin := [], eq := fun _ => none }
theorem cfgG_ok : CfgOK Tryd.prog cfgG := ⟨tysOK, (fun f s h => by
  simp only [cfgG] at h
  split at h
  · injection h with h; subst h; exact newH_sum
  · injection h with h; subst h; exact add_sum
  · injection h with h; subst h; exact sumH_sum
  · cases h), (fun t d h => by cases h)⟩
def kSum : Con := Con.of [.v (.slice false (.int .u8))] (fun x => [List.length (α := UInt8) x.1 ≤ 900000]) (fun x => ⟨.pure h32 (dig x.1), []⟩)
theorem sum_body (p : kSum.Par) (hp : ∀ q ∈ kSum.pre p, q) : BodyOK Tryd.prog cfgG Tryd.f18 (Tryd.f18.body.get rfl) kSum p := by
  obtain ⟨(b : List UInt8), u⟩ := p
  obtain ⟨hb, _⟩ := Obs.of hp
  replace hb : b.length ≤ 900000 := hb
  refine ⟨?_, Nat.zero_le _, rfl, rfl⟩
  show Tri _ _ _ (Code.seq _ (Code.seq _ (Code.seq _ (Code.seq _ _)))) _
  refine Tri.at (by first | (simp only [Tryd.f18, kSum, kNewH, kAdd, kSumH, cfgG, tyTab, hasT, Con.ofO, argO, argO1, heapO, heapO1, fldF, blkF, OK.cnt, OK.cnt1, FK.cnt, AK.cnt, argA, heapA, Kd.sz, AV.ofKd, rdO, rdO1, rdOb, rdF, rdT, castK_self, Nat.mul_one, take1, List.take_nil, Con.start, go_sem, ↓reduceIte, reduceCtorEq, Nat.reduceLT, Nat.reduceSub, Nat.reduceAdd, Nat.reduceMul, Nat.reduceEqDiff, Nat.reduceBEq, Nat.reduceBNe, Nat.reduceLeDiff, Nat.reduceDiv, Nat.reduceMod, Nat.reducePow, List.reduceReplicate, UInt8.reduceOfNat, UInt32.reduceOfNat, UInt64.reduceOfNat, Int.reduceLE, Int.reduceLT, Int.reduceNeg, Int.reduceToNat, Int.reduceAdd, Int.reduceSub, Int.reduceMul, Int.reduceEq, UInt64.reduceToNat, UInt8.reduceToNat, UInt32.reduceToNat]; rfl) | rfl) ?_
  refine Tri.seq (Tri.regT (cfgG_ok.pins _) ?_)
  repeat (first | refine RunT.one (by first | exact wantedA_none rfl | (simp only [go_sem, Bool.true_beq, Bool.false_beq]; done) | (simp only [go_sem, Bool.true_beq, Bool.false_beq]; with_reducible rfl)) (by simp (maxSteps := 2000000) (disch := first | decide | omega | (simp only [List.length_append, List.length_cons, List.length_nil, List.length_take, List.length_drop]; omega)) only [Tryd.f18, kSum, kNewH, kAdd, kSumH, cfgG, tyTab, hasT, Con.ofO, argO, argO1, heapO, heapO1, fldF, blkF, OK.cnt, OK.cnt1, FK.cnt, AK.cnt, argA, heapA, Kd.sz, AV.ofKd, rdO, rdO1, rdOb, rdF, rdT, castK_self, Nat.mul_one, take1, List.take_nil, go_sem, ↓reduceIte, reduceCtorEq, Nat.reduceLT, Nat.reduceSub, Nat.reduceAdd, Nat.reduceMul, Nat.reduceEqDiff, Nat.reduceBEq, Nat.reduceBNe, Nat.reduceLeDiff, Nat.reduceDiv, Nat.reduceMod, Nat.reducePow, List.reduceReplicate, UInt8.reduceOfNat, UInt32.reduceOfNat, UInt64.reduceOfNat, Int.reduceLE, Int.reduceLT, Int.reduceNeg, Int.reduceToNat, Int.reduceAdd, Int.reduceSub, Int.reduceMul, Int.reduceEq, UInt64.reduceToNat, UInt8.reduceToNat, UInt32.reduceToNat]; rfl) (by simp only [go_sem, Nat.reduceBEq, Nat.reduceEqDiff, Nat.reduceAdd, ↓reduceIte, reduceCtorEq, List.reduceReplicate, List.replicate]; rfl) (by first | exact True.intro | (simp only [Obs, and_true, true_and]; omega) | (simp [Obs, AV.sizeL, AV.size, Kd.sz]; done) | (simp [Obs, AV.sizeL, AV.size, Kd.sz]; omega)) ?_ | refine RunT.not (by first | (simp only [go_sem, Bool.true_beq, Bool.false_beq]; done) | (simp only [go_sem, Bool.true_beq, Bool.false_beq]; with_reducible rfl)) (by simp only [go_sem, Nat.reduceBEq, Nat.reduceEqDiff, Nat.reduceAdd, ↓reduceIte, reduceCtorEq, List.reduceReplicate, List.replicate]; rfl) ?_)
  refine RunT.nil ?_
  obtain ⟨h0, hh0⟩ : ∃ h, h = HS.new := ⟨_, rfl⟩
  have k0 : h0.OK [] := by rw [hh0]; exact HS.new_ok
  refine Tri.seq (Tri.regT (cfgG_ok.pins _) ?_)
  repeat (first | refine RunT.one (by first | exact wantedA_none rfl | (simp only [go_sem, Bool.true_beq, Bool.false_beq]; done) | (simp only [go_sem, Bool.true_beq, Bool.false_beq]; with_reducible rfl)) (by simp (maxSteps := 2000000) (disch := first | decide | omega | (simp only [List.length_append, List.length_cons, List.length_nil, List.length_take, List.length_drop]; omega)) only [Tryd.f18, kSum, kNewH, kAdd, kSumH, cfgG, tyTab, hasT, Con.ofO, argO, argO1, heapO, heapO1, fldF, blkF, OK.cnt, OK.cnt1, FK.cnt, AK.cnt, argA, heapA, Kd.sz, AV.ofKd, rdO, rdO1, rdOb, rdF, rdT, castK_self, Nat.mul_one, take1, List.take_nil, go_sem, ↓reduceIte, reduceCtorEq, Nat.reduceLT, Nat.reduceSub, Nat.reduceAdd, Nat.reduceMul, Nat.reduceEqDiff, Nat.reduceBEq, Nat.reduceBNe, Nat.reduceLeDiff, Nat.reduceDiv, Nat.reduceMod, Nat.reducePow, List.reduceReplicate, UInt8.reduceOfNat, UInt32.reduceOfNat, UInt64.reduceOfNat, Int.reduceLE, Int.reduceLT, Int.reduceNeg, Int.reduceToNat, Int.reduceAdd, Int.reduceSub, Int.reduceMul, Int.reduceEq, UInt64.reduceToNat, UInt8.reduceToNat, UInt32.reduceToNat]; rfl) (by simp only [go_sem, Nat.reduceBEq, Nat.reduceEqDiff, Nat.reduceAdd, ↓reduceIte, reduceCtorEq, List.reduceReplicate, List.replicate]; rfl) (by first | exact True.intro | (simp only [Obs, and_true, true_and]; omega) | (simp [Obs, AV.sizeL, AV.size, Kd.sz]; done) | (simp [Obs, AV.sizeL, AV.size, Kd.sz]; omega)) ?_ | refine RunT.not (by first | (simp only [go_sem, Bool.true_beq, Bool.false_beq]; done) | (simp only [go_sem, Bool.true_beq, Bool.false_beq]; with_reducible rfl)) (by simp only [go_sem, Nat.reduceBEq, Nat.reduceEqDiff, Nat.reduceAdd, ↓reduceIte, reduceCtorEq, List.reduceReplicate, List.replicate]; rfl) ?_)
  refine RunT.nil ?_
  have ks := k0.st8
  have kl := k0.small
  have ki := k0.in_
  refine Tri.weak (S' := (⟨[some (.pure (.slice false (.int .u8)) b), none, some (.ptr 0 [] 0), some (.ptr 1 [] 0)] ++ List.replicate 6 none, [.live (.pure h32 (Kd.dflt h32)), .live (.agg [.pure w8 h0.st, .tsl 2 [] h0.i h0.i 1 h0.len, .int .u64 h0.cn]), .live (.pure (.arr h0.N (.int .u8)) h0.xs)]⟩ : AS)) (by
    rw [hh0]
    refine Wk.of ?_ ?_ rfl rfl
    · simp only [lessTs, List.reduceReplicate, List.cons_append, List.nil_append] <;> ((repeat' apply And.intro) <;> first | rfl | trivial)
    · exact ⟨rfl, rfl, rfl, trivial⟩) ?_
  refine Tri.at (by first | (simp only [Tryd.f18, kSum, kNewH, kAdd, kSumH, cfgG, tyTab, hasT, Con.ofO, argO, argO1, heapO, heapO1, fldF, blkF, OK.cnt, OK.cnt1, FK.cnt, AK.cnt, argA, heapA, Kd.sz, AV.ofKd, rdO, rdO1, rdOb, rdF, rdT, castK_self, Nat.mul_one, take1, List.take_nil, Con.start, go_sem, ↓reduceIte, reduceCtorEq, Nat.reduceLT, Nat.reduceSub, Nat.reduceAdd, Nat.reduceMul, Nat.reduceEqDiff, Nat.reduceBEq, Nat.reduceBNe, Nat.reduceLeDiff, Nat.reduceDiv, Nat.reduceMod, Nat.reducePow, List.reduceReplicate, UInt8.reduceOfNat, UInt32.reduceOfNat, UInt64.reduceOfNat, Int.reduceLE, Int.reduceLT, Int.reduceNeg, Int.reduceToNat, Int.reduceAdd, Int.reduceSub, Int.reduceMul, Int.reduceEq, UInt64.reduceToNat, UInt8.reduceToNat, UInt32.reduceToNat]; rfl) | rfl) ?_
  refine Tri.seq (Tri.regT (cfgG_ok.pins _) ?_)
  repeat (first | refine RunT.one (by first | exact wantedA_none rfl | (simp only [go_sem, Bool.true_beq, Bool.false_beq]; done) | (simp only [go_sem, Bool.true_beq, Bool.false_beq]; with_reducible rfl)) (by simp (maxSteps := 2000000) (disch := first | decide | omega | (simp only [List.length_append, List.length_cons, List.length_nil, List.length_take, List.length_drop]; omega)) only [Tryd.f18, kSum, kNewH, kAdd, kSumH, cfgG, tyTab, hasT, Con.ofO, argO, argO1, heapO, heapO1, fldF, blkF, OK.cnt, OK.cnt1, FK.cnt, AK.cnt, argA, heapA, Kd.sz, AV.ofKd, rdO, rdO1, rdOb, rdF, rdT, castK_self, Nat.mul_one, take1, List.take_nil, go_sem, ↓reduceIte, reduceCtorEq, Nat.reduceLT, Nat.reduceSub, Nat.reduceAdd, Nat.reduceMul, Nat.reduceEqDiff, Nat.reduceBEq, Nat.reduceBNe, Nat.reduceLeDiff, Nat.reduceDiv, Nat.reduceMod, Nat.reducePow, List.reduceReplicate, UInt8.reduceOfNat, UInt32.reduceOfNat, UInt64.reduceOfNat, Int.reduceLE, Int.reduceLT, Int.reduceNeg, Int.reduceToNat, Int.reduceAdd, Int.reduceSub, Int.reduceMul, Int.reduceEq, UInt64.reduceToNat, UInt8.reduceToNat, UInt32.reduceToNat]; rfl) (by simp only [go_sem, Nat.reduceBEq, Nat.reduceEqDiff, Nat.reduceAdd, ↓reduceIte, reduceCtorEq, List.reduceReplicate, List.replicate]; rfl) (by first | exact True.intro | (simp only [Obs, and_true, true_and]; omega) | (simp [Obs, AV.sizeL, AV.size, Kd.sz]; done) | (simp [Obs, AV.sizeL, AV.size, Kd.sz]; omega)) ?_ | refine RunT.not (by first | (simp only [go_sem, Bool.true_beq, Bool.false_beq]; done) | (simp only [go_sem, Bool.true_beq, Bool.false_beq]; with_reducible rfl)) (by simp only [go_sem, Nat.reduceBEq, Nat.reduceEqDiff, Nat.reduceAdd, ↓reduceIte, reduceCtorEq, List.reduceReplicate, List.replicate]; rfl) ?_)
  refine RunT.nil ?_
  obtain ⟨h1, hh1⟩ : ∃ h, h = h0.add b := ⟨_, rfl⟩
  have k1 : h1.OK b := by rw [hh1]; exact k0.add
  have ks1 := k1.st8
  have kl1 := k1.small
  have ki1 := k1.in_
  have kx1 := k1.xs
  have kq1 := k1.sum
  refine Tri.weak (S' := (⟨[some (.pure (.slice false (.int .u8)) b), none, some (.ptr 0 [] 0), some (.ptr 1 [] 0)] ++ List.replicate 6 none, [.live (.pure h32 (Kd.dflt h32)), .live (.agg [.pure w8 h1.st, .tsl 2 [] h1.i h1.i 1 h1.len, .int .u64 h1.cn]), .live (.pure (.arr h1.N (.int .u8)) h1.xs)]⟩ : AS)) (by
    rw [hh1]
    refine Wk.of ?_ ?_ rfl rfl
    · simp only [lessTs, List.reduceReplicate, List.cons_append, List.nil_append] <;> ((repeat' apply And.intro) <;> first | rfl | trivial)
    · exact ⟨rfl, rfl, rfl, trivial⟩) ?_
  refine Tri.at (by first | (simp only [Tryd.f18, kSum, kNewH, kAdd, kSumH, cfgG, tyTab, hasT, Con.ofO, argO, argO1, heapO, heapO1, fldF, blkF, OK.cnt, OK.cnt1, FK.cnt, AK.cnt, argA, heapA, Kd.sz, AV.ofKd, rdO, rdO1, rdOb, rdF, rdT, castK_self, Nat.mul_one, take1, List.take_nil, kq1, Con.start, go_sem, ↓reduceIte, reduceCtorEq, Nat.reduceLT, Nat.reduceSub, Nat.reduceAdd, Nat.reduceMul, Nat.reduceEqDiff, Nat.reduceBEq, Nat.reduceBNe, Nat.reduceLeDiff, Nat.reduceDiv, Nat.reduceMod, Nat.reducePow, List.reduceReplicate, UInt8.reduceOfNat, UInt32.reduceOfNat, UInt64.reduceOfNat, Int.reduceLE, Int.reduceLT, Int.reduceNeg, Int.reduceToNat, Int.reduceAdd, Int.reduceSub, Int.reduceMul, Int.reduceEq, UInt64.reduceToNat, UInt8.reduceToNat, UInt32.reduceToNat]; rfl) | rfl) ?_
  refine Tri.seq (Tri.regT (cfgG_ok.pins _) ?_)
  repeat (first | refine RunT.one (by first | exact wantedA_none rfl | (simp only [go_sem, Bool.true_beq, Bool.false_beq]; done) | (simp only [go_sem, Bool.true_beq, Bool.false_beq]; with_reducible rfl)) (by simp (maxSteps := 2000000) (disch := first | decide | omega | (simp only [List.length_append, List.length_cons, List.length_nil, List.length_take, List.length_drop]; omega)) only [Tryd.f18, kSum, kNewH, kAdd, kSumH, cfgG, tyTab, hasT, Con.ofO, argO, argO1, heapO, heapO1, fldF, blkF, OK.cnt, OK.cnt1, FK.cnt, AK.cnt, argA, heapA, Kd.sz, AV.ofKd, rdO, rdO1, rdOb, rdF, rdT, castK_self, Nat.mul_one, take1, List.take_nil, kq1, go_sem, ↓reduceIte, reduceCtorEq, Nat.reduceLT, Nat.reduceSub, Nat.reduceAdd, Nat.reduceMul, Nat.reduceEqDiff, Nat.reduceBEq, Nat.reduceBNe, Nat.reduceLeDiff, Nat.reduceDiv, Nat.reduceMod, Nat.reducePow, List.reduceReplicate, UInt8.reduceOfNat, UInt32.reduceOfNat, UInt64.reduceOfNat, Int.reduceLE, Int.reduceLT, Int.reduceNeg, Int.reduceToNat, Int.reduceAdd, Int.reduceSub, Int.reduceMul, Int.reduceEq, UInt64.reduceToNat, UInt8.reduceToNat, UInt32.reduceToNat]; rfl) (by simp only [go_sem, Nat.reduceBEq, Nat.reduceEqDiff, Nat.reduceAdd, ↓reduceIte, reduceCtorEq, List.reduceReplicate, List.replicate]; rfl) (by first | exact True.intro | (simp only [Obs, and_true, true_and]; omega) | (simp [Obs, AV.sizeL, AV.size, Kd.sz]; done) | (simp [Obs, AV.sizeL, AV.size, Kd.sz]; omega)) ?_ | refine RunT.not (by first | (simp only [go_sem, Bool.true_beq, Bool.false_beq]; done) | (simp only [go_sem, Bool.true_beq, Bool.false_beq]; with_reducible rfl)) (by simp only [go_sem, Nat.reduceBEq, Nat.reduceEqDiff, Nat.reduceAdd, ↓reduceIte, reduceCtorEq, List.reduceReplicate, List.replicate]; rfl) ?_)
  refine RunT.nil ?_
  refine Tri.ret ?_
  refine Con.fin (.inl rfl) (by simp only [Tryd.f18, cfgG, tyTab, resA, resA1, go_sem, ↓reduceIte, reduceCtorEq, Nat.reduceLT, Nat.reduceSub, Nat.reduceAdd, Nat.reduceMul, Nat.reduceEqDiff, Nat.reduceBEq, Nat.reduceBNe, Nat.reduceLeDiff, Nat.reduceDiv, Nat.reduceMod, Nat.reducePow, List.reduceReplicate, UInt8.reduceOfNat, UInt32.reduceOfNat, UInt64.reduceOfNat, Int.reduceLE, Int.reduceLT, Int.reduceNeg, Int.reduceToNat, Int.reduceAdd, Int.reduceSub, Int.reduceMul, Int.reduceEq, UInt64.reduceToNat, UInt8.reduceToNat, UInt32.reduceToNat]; rfl) (by simp only [Obs, and_true, true_and]) rfl trivial rfl rfl
theorem sum_sum : FSumOK Tryd.prog cfgG.G 18 kSum.sum := Con.sumOK cfgG_ok kSum Tryd.func18 rfl rfl (Con.of_inv _ _ _) sum_body
end Go.Proofs.YticgfjalikmniaaDoor

namespace Go.Proofs.YticgfjalikmniaaDoor
open Go.Vc Go.Proofs
set_option linter.unusedSimpArgs false
set_option linter.unusedVariables false
set_option maxRecDepth 10000
set_option maxHeartbeats 4000000
-- SEM
def eqH : TypeId → Option Kd
  | 25 => some h32
  | _ => none
theorem eqH_ok : ∀ t d, eqH t = some d → TyEq Tryd.prog d t ∧ Tryd.prog.eqGuardType Tryd.prog.depth t = false ∧ d.ht ≤ 10000 ∧ d.isAgg = true := fun t d h => by
  simp only [eqH] at h
  split at h
  · injection h with h
    subst h
    exact ⟨⟨5, Tryd.underlying25, Tryd.underlying5, _, rfl, by kernel_rfl⟩, by kernel_rfl, by decide, rfl⟩
  · cases h
def cfgH : Cfg2 := { ty := tyTab, fn := fun | 18 => some kSum.sum | 20 => some kNewH.sum | 21 => some kAdd.sum | 22 => some kSumH.sum | _ => none, G := shaG, pin := [], eq := eqH }
theorem cfgH_ok : CfgOK Tryd.prog cfgH := ⟨tysOK, (fun f s h => by
  simp only [cfgH] at h
  split at h
  · injection h with h; subst h; exact sum_sum
  · injection h with h; subst h; exact newH_sum
  · injection h with h; subst h; exact add_sum
  · injection h with h; subst h; exact sumH_sum
  · cases h), eqH_ok⟩
theorem dig0 : strEq (List.take 4 (dig [])) [227, 176, 196, 66] = true := by kernel_rfl
theorem digA : strEq (List.take 4 (dig [97, 98, 99])) [186, 120, 22, 191] = true := by kernel_rfl
def kSpeaks : Con := Con.of [] (fun _ => []) (fun _ => ⟨.bool true, []⟩)
theorem speaks_body (p : kSpeaks.Par) (hp : ∀ q ∈ kSpeaks.pre p, q) : BodyOK Tryd.prog cfgH Tryd.f17 (Tryd.f17.body.get rfl) kSpeaks p := by
  refine ⟨?_, Nat.zero_le _, rfl, rfl⟩
  show Tri _ _ _ (Code.seq _ (Code.seq _ (Code.seq _ _))) _
  refine Tri.at (by first | (simp only [Tryd.f17, kSpeaks, kSum, cfgH, tyTab, dig0, digA, Con.start, go_sem, ↓reduceIte, reduceCtorEq, Nat.reduceLT, Nat.reduceSub, Nat.reduceAdd, Nat.reduceMul, Nat.reduceEqDiff, Nat.reduceBEq, Nat.reduceBNe, Nat.reduceLeDiff, Nat.reduceDiv, Nat.reduceMod, Nat.reducePow, List.reduceReplicate, UInt8.reduceOfNat, UInt32.reduceOfNat, UInt64.reduceOfNat, Int.reduceLE, Int.reduceLT, Int.reduceNeg, Int.reduceToNat, Int.reduceAdd, Int.reduceSub, Int.reduceMul, Int.reduceEq, UInt64.reduceToNat, UInt8.reduceToNat, UInt32.reduceToNat]; rfl) | rfl) ?_
  refine Tri.seq (Tri.regT (cfgH_ok.pins _) ?_)
  repeat (first | refine RunT.one (by first | exact wantedA_none rfl | (simp only [go_sem, Bool.true_beq, Bool.false_beq]; done) | (simp only [go_sem, Bool.true_beq, Bool.false_beq]; with_reducible rfl)) (by simp (maxSteps := 2000000) (disch := first | decide | omega | (simp only [List.length_append, List.length_cons, List.length_nil, List.length_take, List.length_drop]; omega)) only [Tryd.f17, kSpeaks, kSum, cfgH, tyTab, dig0, digA, go_sem, ↓reduceIte, reduceCtorEq, Nat.reduceLT, Nat.reduceSub, Nat.reduceAdd, Nat.reduceMul, Nat.reduceEqDiff, Nat.reduceBEq, Nat.reduceBNe, Nat.reduceLeDiff, Nat.reduceDiv, Nat.reduceMod, Nat.reducePow, List.reduceReplicate, UInt8.reduceOfNat, UInt32.reduceOfNat, UInt64.reduceOfNat, Int.reduceLE, Int.reduceLT, Int.reduceNeg, Int.reduceToNat, Int.reduceAdd, Int.reduceSub, Int.reduceMul, Int.reduceEq, UInt64.reduceToNat, UInt8.reduceToNat, UInt32.reduceToNat]; rfl) (by simp only [go_sem, Nat.reduceBEq, Nat.reduceEqDiff, Nat.reduceAdd, ↓reduceIte, reduceCtorEq, List.reduceReplicate, List.replicate]; rfl) (by first | exact True.intro | (simp only [Obs, and_true, true_and]; omega) | (simp [Obs, AV.sizeL, AV.size, Kd.sz]; done) | (simp [Obs, AV.sizeL, AV.size, Kd.sz]; omega)) ?_ | refine RunT.not (by first | (simp only [go_sem, Bool.true_beq, Bool.false_beq]; done) | (simp only [go_sem, Bool.true_beq, Bool.false_beq]; with_reducible rfl)) (by simp only [go_sem, Nat.reduceBEq, Nat.reduceEqDiff, Nat.reduceAdd, ↓reduceIte, reduceCtorEq, List.reduceReplicate, List.replicate]; rfl) ?_)
  refine RunT.nil ?_
  refine Tri.seq (Tri.regT (cfgH_ok.pins _) ?_)
  repeat (first | refine RunT.one (by first | exact wantedA_none rfl | (simp only [go_sem, Bool.true_beq, Bool.false_beq]; done) | (simp only [go_sem, Bool.true_beq, Bool.false_beq]; with_reducible rfl)) (by simp (maxSteps := 2000000) (disch := first | decide | omega | (simp only [List.length_append, List.length_cons, List.length_nil, List.length_take, List.length_drop]; omega)) only [Tryd.f17, kSpeaks, kSum, cfgH, tyTab, dig0, digA, go_sem, ↓reduceIte, reduceCtorEq, Nat.reduceLT, Nat.reduceSub, Nat.reduceAdd, Nat.reduceMul, Nat.reduceEqDiff, Nat.reduceBEq, Nat.reduceBNe, Nat.reduceLeDiff, Nat.reduceDiv, Nat.reduceMod, Nat.reducePow, List.reduceReplicate, UInt8.reduceOfNat, UInt32.reduceOfNat, UInt64.reduceOfNat, Int.reduceLE, Int.reduceLT, Int.reduceNeg, Int.reduceToNat, Int.reduceAdd, Int.reduceSub, Int.reduceMul, Int.reduceEq, UInt64.reduceToNat, UInt8.reduceToNat, UInt32.reduceToNat]; rfl) (by simp only [go_sem, Nat.reduceBEq, Nat.reduceEqDiff, Nat.reduceAdd, ↓reduceIte, reduceCtorEq, List.reduceReplicate, List.replicate]; rfl) (by first | exact True.intro | (simp only [Obs, and_true, true_and]; omega) | (simp [Obs, AV.sizeL, AV.size, Kd.sz]; done) | (simp [Obs, AV.sizeL, AV.size, Kd.sz]; omega)) ?_ | refine RunT.not (by first | (simp only [go_sem, Bool.true_beq, Bool.false_beq]; done) | (simp only [go_sem, Bool.true_beq, Bool.false_beq]; with_reducible rfl)) (by simp only [go_sem, Nat.reduceBEq, Nat.reduceEqDiff, Nat.reduceAdd, ↓reduceIte, reduceCtorEq, List.reduceReplicate, List.replicate]; rfl) ?_)
  refine RunT.nil ?_
  refine Tri.seq (Tri.regT (cfgH_ok.pins _) ?_)
  repeat (first | refine RunT.one (by first | exact wantedA_none rfl | (simp only [go_sem, Bool.true_beq, Bool.false_beq]; done) | (simp only [go_sem, Bool.true_beq, Bool.false_beq]; with_reducible rfl)) (by simp (maxSteps := 2000000) (disch := first | decide | omega | (simp only [List.length_append, List.length_cons, List.length_nil, List.length_take, List.length_drop]; omega)) only [Tryd.f17, kSpeaks, kSum, cfgH, tyTab, dig0, digA, go_sem, ↓reduceIte, reduceCtorEq, Nat.reduceLT, Nat.reduceSub, Nat.reduceAdd, Nat.reduceMul, Nat.reduceEqDiff, Nat.reduceBEq, Nat.reduceBNe, Nat.reduceLeDiff, Nat.reduceDiv, Nat.reduceMod, Nat.reducePow, List.reduceReplicate, UInt8.reduceOfNat, UInt32.reduceOfNat, UInt64.reduceOfNat, Int.reduceLE, Int.reduceLT, Int.reduceNeg, Int.reduceToNat, Int.reduceAdd, Int.reduceSub, Int.reduceMul, Int.reduceEq, UInt64.reduceToNat, UInt8.reduceToNat, UInt32.reduceToNat]; rfl) (by simp only [go_sem, Nat.reduceBEq, Nat.reduceEqDiff, Nat.reduceAdd, ↓reduceIte, reduceCtorEq, List.reduceReplicate, List.replicate]; rfl) (by first | exact True.intro | (simp only [Obs, and_true, true_and]; omega) | (simp [Obs, AV.sizeL, AV.size, Kd.sz]; done) | (simp [Obs, AV.sizeL, AV.size, Kd.sz]; omega)) ?_ | refine RunT.not (by first | (simp only [go_sem, Bool.true_beq, Bool.false_beq]; done) | (simp only [go_sem, Bool.true_beq, Bool.false_beq]; with_reducible rfl)) (by simp only [go_sem, Nat.reduceBEq, Nat.reduceEqDiff, Nat.reduceAdd, ↓reduceIte, reduceCtorEq, List.reduceReplicate, List.replicate]; rfl) ?_)
  refine RunT.nil ?_
  refine Tri.ret ?_
  refine Con.fin (.inl rfl) (by simp only [Tryd.f17, cfgH, tyTab, resA, resA1, go_sem, ↓reduceIte, reduceCtorEq, Nat.reduceLT, Nat.reduceSub, Nat.reduceAdd, Nat.reduceMul, Nat.reduceEqDiff, Nat.reduceBEq, Nat.reduceBNe, Nat.reduceLeDiff, Nat.reduceDiv, Nat.reduceMod, Nat.reducePow, List.reduceReplicate, UInt8.reduceOfNat, UInt32.reduceOfNat, UInt64.reduceOfNat, Int.reduceLE, Int.reduceLT, Int.reduceNeg, Int.reduceToNat, Int.reduceAdd, Int.reduceSub, Int.reduceMul, Int.reduceEq, UInt64.reduceToNat, UInt8.reduceToNat, UInt32.reduceToNat]; rfl) (by simp only [Obs, and_true, true_and]) rfl trivial rfl rfl
theorem speaks_sum : FSumOK Tryd.prog cfgH.G 17 kSpeaks.sum := Con.sumOK cfgH_ok kSpeaks Tryd.func17 rfl rfl (Con.of_inv _ _ _) speaks_body
end Go.Proofs.YticgfjalikmniaaDoor

namespace Go.Proofs.YticgfjalikmniaaDoor
open Go.Vc Go.Proofs
set_option linter.unusedSimpArgs false
set_option linter.unusedVariables false
set_option maxRecDepth 10000
set_option maxHeartbeats 4000000
-- SEM
/-! ### The hasher's contracts, over hashers as one thing -/
def hsM (st : List UInt32) (N i len : Nat) (xs : List UInt8) (cn : UInt64) : HS := ⟨st, N, i, len, xs, cn⟩
theorem hsM_eta (h : HS) : hsM h.st h.N h.i h.len h.xs h.cn = h := rfl
def HS.sum (h : HS) : List UInt8 := sumS h.st (List.take h.len (List.drop h.i h.xs)) h.len h.cn
theorem HS.OK.sum' {h : HS} {m : List UInt8} (k : h.OK m) : h.sum = dig m := k.sum
/-- What a caller has to know of a hasher. -/
def HS.fit (h : HS) : Prop := h.st.length = 8 ∧ h.i + h.len ≤ h.N ∧ h.len < 64 ∧ h.xs.length = h.N
theorem HS.OK.fit {h : HS} {m : List UInt8} (k : h.OK m) : h.st.length = 8 ∧ h.i + h.len ≤ h.N ∧ h.len < 64 ∧ h.xs.length = h.N := ⟨k.st8, k.in_, k.small, k.xs⟩
abbrev HS.hd (h : HS) (j : Nat) : AV := .agg [.pure w8 h.st, .tsl j [] h.i h.i 1 h.len, .int .u64 h.cn]
abbrev HS.bl (h : HS) : AV := .pure (.arr h.N (.int .u8)) h.xs
def kNewF : Con := Con.of [] (fun _ => []) (fun _ => ⟨.ptr 0 [] 0, [.agg [.pure w8 HS.new.st, .tsl 1 [] HS.new.i HS.new.i 1 HS.new.len, .int .u64 HS.new.cn], .pure (.arr HS.new.N (.int .u8)) HS.new.xs]⟩)
theorem kNewF_eq : kNewF = kNewH := rfl
theorem newF_sum : FSumOK Tryd.prog shaG 20 kNewF.sum := kNewF_eq ▸ newH_sum
def kAddF : Con := Con.ofO [.o hasF, .a (.v (.slice false (.int .u8)))] [1]
  (fun x => [List.length (α := UInt32) x.1.1 = 8, x.1.2.1.i + x.1.2.1.len ≤ x.1.2.1.N, x.1.2.1.len + List.length (α := UInt8) x.2.1 ≤ 1048576])
  (fun x => ⟨.tuple [], [.agg [.pure w8 ((hsM x.1.1 x.1.2.1.N x.1.2.1.i x.1.2.1.len x.1.2.1.xs x.1.2.2.1).add x.2.1).st, .tsl 1 [] ((hsM x.1.1 x.1.2.1.N x.1.2.1.i x.1.2.1.len x.1.2.1.xs x.1.2.2.1).add x.2.1).i ((hsM x.1.1 x.1.2.1.N x.1.2.1.i x.1.2.1.len x.1.2.1.xs x.1.2.2.1).add x.2.1).i 1 ((hsM x.1.1 x.1.2.1.N x.1.2.1.i x.1.2.1.len x.1.2.1.xs x.1.2.2.1).add x.2.1).len, .int .u64 ((hsM x.1.1 x.1.2.1.N x.1.2.1.i x.1.2.1.len x.1.2.1.xs x.1.2.2.1).add x.2.1).cn],
    .pure (.arr ((hsM x.1.1 x.1.2.1.N x.1.2.1.i x.1.2.1.len x.1.2.1.xs x.1.2.2.1).add x.2.1).N (.int .u8)) ((hsM x.1.1 x.1.2.1.N x.1.2.1.i x.1.2.1.len x.1.2.1.xs x.1.2.2.1).add x.2.1).xs]⟩)
theorem kAddF_eq : kAddF = kAdd := rfl
theorem addF_sum : FSumOK Tryd.prog shaG 21 kAddF.sum := kAddF_eq ▸ add_sum
def kSumF : Con := Con.ofO [.o hasF] []
  (fun x => [List.length (α := UInt32) x.1.1 = 8, x.1.2.1.i + x.1.2.1.len ≤ x.1.2.1.N, x.1.2.1.len ≤ 1000000, List.length (α := UInt8) x.1.2.1.xs = x.1.2.1.N])
  (fun x => ⟨.pure h32 (hsM x.1.1 x.1.2.1.N x.1.2.1.i x.1.2.1.len x.1.2.1.xs x.1.2.2.1).sum, [.agg [.pure w8 (hsM x.1.1 x.1.2.1.N x.1.2.1.i x.1.2.1.len x.1.2.1.xs x.1.2.2.1).st, .tsl 1 [] (hsM x.1.1 x.1.2.1.N x.1.2.1.i x.1.2.1.len x.1.2.1.xs x.1.2.2.1).i (hsM x.1.1 x.1.2.1.N x.1.2.1.i x.1.2.1.len x.1.2.1.xs x.1.2.2.1).i 1 (hsM x.1.1 x.1.2.1.N x.1.2.1.i x.1.2.1.len x.1.2.1.xs x.1.2.2.1).len, .int .u64 (hsM x.1.1 x.1.2.1.N x.1.2.1.i x.1.2.1.len x.1.2.1.xs x.1.2.2.1).cn], .pure (.arr (hsM x.1.1 x.1.2.1.N x.1.2.1.i x.1.2.1.len x.1.2.1.xs x.1.2.2.1).N (.int .u8)) (hsM x.1.1 x.1.2.1.N x.1.2.1.i x.1.2.1.len x.1.2.1.xs x.1.2.2.1).xs]⟩)
theorem kSumF_eq : kSumF = kSumH := rfl
theorem sumF_sum : FSumOK Tryd.prog shaG 22 kSumF.sum := kSumF_eq ▸ sumH_sum
attribute [go_sem] hsM_eta kNewF kAddF kSumF Con.ofO argO argO1 heapO heapO1 fldF blkF OK.cnt OK.cnt1 FK.cnt rdO rdO1 rdOb rdF rdT castK_self Nat.mul_one take1 List.take_nil
end Go.Proofs.YticgfjalikmniaaDoor
