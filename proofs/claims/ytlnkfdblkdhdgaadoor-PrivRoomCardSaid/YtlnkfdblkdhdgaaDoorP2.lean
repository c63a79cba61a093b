/- Part of a proof: No more boxes are open than there is room for; what is acknowledged makes room for as many -/
import Derived.Test.YtlnkfdblkdhdgaaDoorP1
import Derived.Test.YtlnkfdblkdhdgaaDoorVc4
import Derived.Test.YtlnkfdblkdhdgaaDoorVc3
set_option linter.unusedVariables false
set_option linter.unusedSimpArgs false
set_option linter.unusedSectionVars false
namespace Go.Proofs.YtlnkfdblkdhdgaaDoor
open Go.Vc Go.Proofs
abbrev u8K : Kd := .int .u8
abbrev a16 : Kd := .arr 16 (.int .u8)
abbrev a4 : Kd := .arr 4 (.int .u8)
abbrev a256 : Kd := .arr 256 (.int .u8)
abbrev a44 : Kd := .arr 44 a4
abbrev cipK : Kd := .st (.pair a256 (.pair a44 .unit))
abbrev tmK : Kd := .st (.pair k16 (.pair (.int .i64) (.pair (.slice true (.int .u8)) .unit)))
abbrev opL : Kd := .st (.pair (.int .i64) (.pair (.int .i64) (.pair (.int .i64) (.pair k16 (.pair (.slice true (.int .u8)) .unit)))))
def selT : TyI := ⟨.st [(4, 0, 1), (28, 1, 16), (83, 17, 1), (83, 18, 1), (84, 19, 1)], 20, 64, .agg [.bool false, .pure k16 (Kd.dflt k16), .int .u64 0, .int .u64 0, .nilsl], none, false⟩
def tyTabS : TypeId → Option TyI
  | 3 => some (.kd1 (.int .i64) (.int .i64) 8)
  | 4 => some (.kd1 .bool .bool 1)
  | 5 => some (.kd1 (.int .u8) (.int .u8) 1)
  | 9 => some (.kd1 .str .str 16)
  | 37 => some (.slice1 5)
  | 98 => some (.kd1 (.arr 32 5) h32 32)
  | 27 => some (.kd1 (.arr 16 5) k16 16)
  | 28 => some (.kd1 (.arr 16 5) k16 16)
  | 83 => some (.kd1 (.int .u64) (.int .u64) 8)
  | 25 => some (.ptr1 86)
  | 40 => some (.kd1 (.int .i64) (.int .i64) 8)
  | 164 => some (.kd1 (.int .u64) (.int .u64) 8)
  | 84 => some (.slice1 153)
  | 86 => some selT
  | 153 => some (.kd1 (.st [(28, 0, 16), (3, 16, 1), (37, 17, 1)]) tmK 48)
  | 207 => some (.ptr1 261)
  | 257 => some (.kd1 (.arr 256 5) a256 256)
  | 258 => some (.kd1 (.arr 4 5) a4 4)
  | 259 => some (.kd1 (.arr 44 258) a44 176)
  | 261 => some (.kd1 (.st [(257, 0, 256), (259, 256, 176)]) cipK 432)
  | 262 => some (.ptr1 258)
  | 282 => some (.ptr1 27)
  | _ => none
theorem selOK : TyOK Tryd.prog 86 selT :=
  TyOK.of (td := .st [(4, 0, 1), (28, 1, 16), (83, 17, 1), (83, 18, 1), (84, 19, 1)]) (Z := .agg #[.bool false, .int .u8 0, .int .u8 0, .int .u8 0, .int .u8 0, .int .u8 0, .int .u8 0, .int .u8 0, .int .u8 0, .int .u8 0, .int .u8 0, .int .u8 0, .int .u8 0, .int .u8 0, .int .u8 0, .int .u8 0, .int .u8 0, .int .u64 0, .int .u64 0, .slice none 0 0])
    ⟨_, Tryd.underlying86, by kernel_rfl, by kernel_rfl⟩ (by kernel_rfl)
    (fun c => .agg _ _ rfl (.agg _ _ (.cons _ _ [.bool false] _ (.bool false) (.cons (.pure k16 (Kd.dflt k16)) _ (List.replicate 16 (.int .u8 0)) _ (RC.ofKd (Kd.zero_reads k16)) (.cons _ _ [.int .u64 0] _ (.int .u64 0) (.cons _ _ [.int .u64 0] _ (.int .u64 0) (.cons .nilsl _ [.slice none 0 0] [] .nilsl .nil)))))))
    fun d hd => by cases hd
theorem tysSOK : TysOK Tryd.prog tyTabS := by
  intro t i h
  unfold tyTabS at h
  split at h <;> (try cases h)
  · exact TyOK.kd1 (td := .int .i64) Tryd.underlying3 (by kernel_rfl)
  · exact TyOK.kd1 (td := .bool) Tryd.underlying4 (by kernel_rfl)
  · exact TyOK.kd1 (td := .int .u8) Tryd.underlying5 (by kernel_rfl)
  · exact TyOK.kd1 (td := .str) Tryd.underlying9 (by kernel_rfl)
  · exact TyOK.slice1 Tryd.underlying37 (by kernel_rfl)
  · exact TyOK.kd1 (td := .arr 32 5) Tryd.underlying98 (by kernel_rfl)
  · exact TyOK.kd1 (td := .arr 16 5) Tryd.underlying27 (by kernel_rfl)
  · exact TyOK.kd1 (td := .arr 16 5) Tryd.underlying28 (by kernel_rfl)
  · exact TyOK.kd1 (td := .int .u64) Tryd.underlying83 (by kernel_rfl)
  · exact TyOK.ptr1 Tryd.underlying25 (by kernel_rfl)
  · exact TyOK.kd1 (td := .int .i64) Tryd.underlying40 (by kernel_rfl)
  · exact TyOK.kd1 (td := .int .u64) Tryd.underlying164 (by kernel_rfl)
  · exact TyOK.slice1 Tryd.underlying84 (by kernel_rfl)
  · exact selOK
  · exact TyOK.kd1 (td := .st [(28, 0, 16), (3, 16, 1), (37, 17, 1)]) ⟨_, Tryd.underlying153, by kernel_rfl, by kernel_rfl⟩ (by kernel_rfl)
  · exact TyOK.ptr1 Tryd.underlying207 (by kernel_rfl)
  · exact TyOK.kd1 (td := .arr 256 5) Tryd.underlying257 (by kernel_rfl)
  · exact TyOK.kd1 (td := .arr 4 5) Tryd.underlying258 (by kernel_rfl)
  · exact TyOK.kd1 (td := .arr 44 258) Tryd.underlying259 (by kernel_rfl)
  · exact TyOK.kd1 (td := .st [(257, 0, 256), (259, 256, 176)]) ⟨_, Tryd.underlying261, by kernel_rfl, by kernel_rfl⟩ (by kernel_rfl)
  · exact TyOK.ptr1 Tryd.underlying262 (by kernel_rfl)
  · exact TyOK.ptr1 Tryd.underlying282 (by kernel_rfl)
theorem tyTabS_ok : TysOK Tryd.prog tyTabS := tysSOK
end Go.Proofs.YtlnkfdblkdhdgaaDoor

namespace Go.Proofs.YtlnkfdblkdhdgaaDoor
open Go.Vc Go.Proofs
set_option maxRecDepth 10000
set_option maxHeartbeats 4000000
def rotL (x : UInt32) (n : Int) : UInt32 := shlT .u32 x (UInt64.ofInt n &&& 31).toNat ||| shrT .u32 x (32 - (UInt64.ofInt n &&& 31)).toNat
def kRotL : Con := Con.of [.v (.int .u32), .v (.int .i64)] (fun _ => []) (fun x => ⟨.int .u32 (rotL x.1 x.2.1), []⟩)
def cfgA : Cfg2 := { ty := tyTab, fn := fun _ => none, G := shaG, pin := [], eq := fun _ => none }
theorem cfgA_ok : CfgOK Tryd.prog cfgA := ⟨tysOK, (fun f s h => by cases h), (fun t d h => by cases h)⟩
theorem rotL_body (p : kRotL.Par) (hp : ∀ q ∈ kRotL.pre p, q) : BodyOK Tryd.prog cfgA Tryd.f158 (Tryd.f158.body.get rfl) kRotL p := by
  obtain ⟨(x : UInt32), (n : Int), u⟩ := p
  refine ⟨?_, Nat.le_refl _, rfl, rfl⟩
  show Tri _ _ _ (Code.seq _ (Code.seq _ (Code.seq _ _))) _
  refine Tri.at (by first | (simp only [Tryd.f158, kRotL, cfgA, tyTab, Con.start, go_sem]; rfl) | rfl) ?_
  refine Tri.seq (Tri.regT (cfgA_ok.pins _) ?_)
  repeat (first | refine RunT.oneA (hp := by simp (maxSteps := 2000000) (disch := first | decide | omega | (simp only [List.length_append, List.length_cons, List.length_nil, List.length_take, List.length_drop]; omega)) only [Tryd.f158, kRotL, cfgA, tyTab, go_sem]; rfl) (h := ?_) | refine RunT.notA (h := ?_))
  refine RunT.nil ?_
  refine Tri.seq (Tri.regT (cfgA_ok.pins _) ?_)
  repeat (first | refine RunT.oneA (hp := by simp (maxSteps := 2000000) (disch := first | decide | omega | (simp only [List.length_append, List.length_cons, List.length_nil, List.length_take, List.length_drop]; omega)) only [Tryd.f158, kRotL, cfgA, tyTab, go_sem]; rfl) (h := ?_) | refine RunT.notA (h := ?_))
  refine RunT.nil ?_
  refine Tri.seq (Tri.regT (cfgA_ok.pins _) ?_)
  repeat (first | refine RunT.oneA (hp := by simp (maxSteps := 2000000) (disch := first | decide | omega | (simp only [List.length_append, List.length_cons, List.length_nil, List.length_take, List.length_drop]; omega)) only [Tryd.f158, kRotL, cfgA, tyTab, go_sem]; rfl) (h := ?_) | refine RunT.notA (h := ?_))
  refine RunT.nil ?_
  refine Tri.ret ?_
  refine Con.fin (.inl rfl) (by simp only [Tryd.f158, cfgA, tyTab, resA, resA1, go_sem]; rfl) (by simp only [Obs, and_true, true_and]) rfl trivial rfl rfl
theorem rotL_sum : FSumOK Tryd.prog cfgA.G 158 kRotL.sum := Con.sumOK cfgA_ok kRotL Tryd.func158 rfl rfl (Con.of_inv _ _ _) rotL_body
end Go.Proofs.YtlnkfdblkdhdgaaDoor

namespace Go.Proofs.YtlnkfdblkdhdgaaDoor
open Go.Vc Go.Proofs
set_option maxRecDepth 10000
set_option maxHeartbeats 4000000
def turnS (x : UInt32) (a b c : Int) (sh : Bool) : UInt32 :=
  rotL x (IntKind.i64.wrap (0 - a)) ^^^ rotL x (IntKind.i64.wrap (0 - b)) ^^^ (if sh = true then shrT .u32 x c.toNat else rotL x (IntKind.i64.wrap (0 - c)))
def kTurn : Con := Con.of [.v (.int .u32), .v (.int .i64), .v (.int .i64), .v (.int .i64), .v .bool] (fun x => [0 ≤ toI .i64 x.2.2.2.1]) (fun x => ⟨.int .u32 (turnS x.1 x.2.1 x.2.2.1 x.2.2.2.1 x.2.2.2.2.1), []⟩)
def cfgB : Cfg2 := { ty := tyTab, fn := fun | 158 => some kRotL.sum | _ => none, G := shaG, pin := [], eq := fun _ => none }
theorem cfgB_ok : CfgOK Tryd.prog cfgB := ⟨tysOK, (fun f s h => by
  simp only [cfgB] at h
  split at h
  · injection h with h; subst h; exact .inl rotL_sum
  · cases h), (fun t d h => by cases h)⟩
theorem turn_body (p : kTurn.Par) (hp : ∀ q ∈ kTurn.pre p, q) : BodyOK Tryd.prog cfgB Tryd.f136 (Tryd.f136.body.get rfl) kTurn p := by
  obtain ⟨(x : UInt32), (a : Int), (b : Int), (c : Int), (sh : Bool), u⟩ := p
  obtain ⟨hc0, _⟩ := Obs.of hp
  replace hc0 : 0 ≤ c := hc0
  refine ⟨?_, Nat.le_refl _, rfl, rfl⟩
  show Tri _ _ _ (Code.seq _ (Code.seq _ (Code.seq (Code.seq _ (Code.cond _ _ _)) (Code.seq _ _)))) _
  refine Tri.at (by first | (simp only [Tryd.f136, kTurn, kRotL, cfgB, tyTab, Con.start, go_sem]; rfl) | rfl) ?_
  refine Tri.seq (Tri.regT (cfgB_ok.pins _) ?_)
  repeat (first | refine RunT.oneA (hp := by simp (maxSteps := 2000000) (disch := first | decide | omega | (simp only [List.length_append, List.length_cons, List.length_nil, List.length_take, List.length_drop]; omega)) only [Tryd.f136, kTurn, kRotL, cfgB, tyTab, go_sem]; rfl) (h := ?_) | refine RunT.notA (h := ?_))
  refine RunT.nil ?_
  refine Tri.seq (Tri.regT (cfgB_ok.pins _) ?_)
  repeat (first | refine RunT.oneA (hp := by simp (maxSteps := 2000000) (disch := first | decide | omega | (simp only [List.length_append, List.length_cons, List.length_nil, List.length_take, List.length_drop]; omega)) only [Tryd.f136, kTurn, kRotL, cfgB, tyTab, go_sem]; rfl) (h := ?_) | refine RunT.notA (h := ?_))
  refine RunT.nil ?_
  refine Tri.seq (Tri.seq ?_)
  refine (Tri.rgnT (cfgB_ok.pins _) ?_)
  repeat (first | refine RunT.oneA (hp := by simp (maxSteps := 2000000) (disch := first | decide | omega | (simp only [List.length_append, List.length_cons, List.length_nil, List.length_take, List.length_drop]; omega)) only [Tryd.f136, kTurn, kRotL, cfgB, tyTab, go_sem]; rfl) (h := ?_) | refine RunT.notA (h := ?_))
  refine RunT.nil ?_
  try simp only [InBlock, Then]
  refine Tri.split (by simp only [AS.ev, go_sem]; rfl) (fun hs => ?_) (fun hs => ?_)
  · subst hs
    refine (Tri.rgnT (cfgB_ok.pins _) ?_)
    repeat (first | refine RunT.oneA (hp := by simp (maxSteps := 2000000) (disch := first | decide | omega | (simp only [List.length_append, List.length_cons, List.length_nil, List.length_take, List.length_drop]; omega)) only [Tryd.f136, kTurn, kRotL, cfgB, tyTab, go_sem]; rfl) (h := ?_) | refine RunT.notA (h := ?_))
    refine RunT.nil ?_
    try simp only [InBlock, Then]
    refine Tri.seq (Tri.regT (cfgB_ok.pins _) ?_)
    repeat (first | refine RunT.oneA (hp := by simp (maxSteps := 2000000) (disch := first | decide | omega | (simp only [List.length_append, List.length_cons, List.length_nil, List.length_take, List.length_drop]; omega)) only [Tryd.f136, kTurn, kRotL, cfgB, tyTab, go_sem]; rfl) (h := ?_) | refine RunT.notA (h := ?_))
    refine RunT.nil ?_
    refine Tri.ret ?_
    refine Con.fin (.inl rfl) (by simp only [Tryd.f136, cfgB, tyTab, resA, resA1, go_sem]; rfl) (by simp only [Obs, and_true, true_and]) (by simp only [kTurn, Con.of, turnS, if_true]; rfl) trivial rfl rfl
  · subst hs
    refine Tri.skp ?_
    refine Tri.seq (Tri.regT (cfgB_ok.pins _) ?_)
    repeat (first | refine RunT.oneA (hp := by simp (maxSteps := 2000000) (disch := first | decide | omega | (simp only [List.length_append, List.length_cons, List.length_nil, List.length_take, List.length_drop]; omega)) only [Tryd.f136, kTurn, kRotL, cfgB, tyTab, go_sem]; rfl) (h := ?_) | refine RunT.notA (h := ?_))
    refine RunT.nil ?_
    refine Tri.ret ?_
    refine Con.fin (.inl rfl) (by simp only [Tryd.f136, cfgB, tyTab, resA, resA1, go_sem]; rfl) (by simp only [Obs, and_true, true_and]) (by simp only [kTurn, Con.of, turnS]; rfl) trivial rfl rfl
theorem turn_sum : FSumOK Tryd.prog cfgB.G 136 kTurn.sum := Con.sumOK cfgB_ok kTurn Tryd.func136 rfl rfl (Con.of_inv _ _ _) turn_body
end Go.Proofs.YtlnkfdblkdhdgaaDoor

namespace Go.Proofs.YtlnkfdblkdhdgaaDoor
open Go.Vc Go.Proofs
set_option maxRecDepth 10000
set_option maxHeartbeats 4000000
def wbI (p : List UInt8) (w : List UInt32) (i : Nat) : Nat → List UInt32
  | 0 => w
  | k + 1 => (wbI p w i k).set i (((wbI p w i k).getD i 0) <<< 8 ||| (p.getD (4 * i + k) 0).toUInt32)
def wI (p : List UInt8) : Nat → List UInt32
  | 0 => Kd.dflt w64
  | i + 1 => if i < 16 then wbI p (wI p i) i 4 else
    (wI p i).set i (turnS ((wI p i).getD (i - 2) 0) 17 19 10 true + (wI p i).getD (i - 7) 0 + turnS ((wI p i).getD (i - 15) 0) 7 18 3 true + (wI p i).getD (i - 16) 0)
def cpS (s : List UInt32) : List UInt32 := List.take 1 s ++ List.take (min (List.take 7 s).length 7) (List.take 7 s) ++ List.drop (1 + (List.take (min (List.take 7 s).length 7) (List.take 7 s)).length) s
def rnS (s : List UInt32) (k w : UInt32) : List UInt32 :=
  let a := s.getD 0 0
  let e := s.getD 4 0
  let choose := (e &&& s.getD 5 0) ^^^ (~~~e &&& s.getD 6 0)
  let most := (a &&& s.getD 1 0) ^^^ (a &&& s.getD 2 0) ^^^ (s.getD 1 0 &&& s.getD 2 0)
  let t := s.getD 7 0 + turnS e 6 11 25 false + choose + k + w
  let c := cpS s
  let d := c.set 4 (c.getD 4 0 + t)
  d.set 0 (t + turnS a 2 13 22 false + most)
def rnI (s : List UInt32) (K w : List UInt32) : Nat → List UInt32
  | 0 => s
  | i + 1 => rnS (rnI s K w i) (K.getD i 0) (w.getD i 0)
def fiI (st s : List UInt32) : Nat → List UInt32
  | 0 => s
  | i + 1 => (fiI st s i).set i ((fiI st s i).getD i 0 + st.getD i 0)
def mixS (st : List UInt32) (p : List UInt8) : List UInt32 := fiI st (rnI st rnds (wI p 64) 64) 8
def kMix : Con := Con.of [.v w8, .v c64] (fun x => [List.length (α := UInt32) x.1 = 8]) (fun x => ⟨.pure w8 (mixS x.1 x.2.1), []⟩)
def cfgC : Cfg2 := { ty := tyTab, fn := fun | 136 => some kTurn.sum | _ => none, G := shaG, pin := [], eq := fun _ => none }
theorem cfgC_ok : CfgOK Tryd.prog cfgC := ⟨tysOK, (fun f s h => by
  simp only [cfgC] at h
  split at h
  · injection h with h; subst h; exact .inl turn_sum
  · cases h), (fun t d h => by cases h)⟩
theorem mix_body (p : kMix.Par) (hp : ∀ q ∈ kMix.pre p, q) : BodyOK Tryd.prog cfgC Tryd.f106 (Tryd.f106.body.get rfl) kMix p := by
  obtain ⟨(st : List UInt32), (p : List UInt8), u⟩ := p
  obtain ⟨hst, _⟩ := Obs.of hp
  replace hst : st.length = 8 := hst
  refine ⟨?_, Nat.zero_le _, rfl, rfl⟩
  show Tri _ _ _ (Code.seq _ (Code.seq _ (Code.seq (Code.seq _ (Code.block _ (Code.loop (Code.seq _ (Code.seq (Code.cond _ _ _) (Code.seq (Code.block _ (Code.seq _ (Code.seq (Code.seq _ (Code.cond _ (Code.seq (Code.seq _ (Code.block _ (Code.loop (Code.seq _ (Code.seq (Code.cond _ _ _) (Code.seq (Code.block _ (Code.seq _ _)) _)))))) _) _)) _))) _)))))) (Code.seq _ (Code.seq (Code.seq _ (Code.block _ (Code.loop (Code.seq _ (Code.seq (Code.cond _ _ _) (Code.seq (Code.block _ (Code.seq _ (Code.seq _ (Code.seq _ (Code.seq _ (Code.seq _ (Code.seq _ (Code.seq _ _)))))))) _)))))) (Code.seq (Code.seq _ (Code.block _ (Code.loop (Code.seq _ (Code.seq (Code.cond _ _ _) (Code.seq (Code.block _ (Code.seq _ _)) _)))))) (Code.seq _ _))))))) _
  refine Tri.at (by first | (simp only [Tryd.f106, kMix, kTurn, cfgC, tyTab, shaG, Con.start, go_sem]; rfl) | rfl) ?_
  refine Tri.seq (Tri.regT (cfgC_ok.pins _) ?_)
  repeat (first | refine RunT.oneA (hp := by simp (maxSteps := 2000000) (disch := first | decide | omega | (simp only [List.length_append, List.length_cons, List.length_nil, List.length_take, List.length_drop]; omega)) only [Tryd.f106, kMix, kTurn, cfgC, tyTab, shaG, go_sem]; rfl) (h := ?_) | refine RunT.notA (h := ?_))
  refine RunT.nil ?_
  refine Tri.seq (Tri.regT (cfgC_ok.pins _) ?_)
  repeat (first | refine RunT.oneA (hp := by simp (maxSteps := 2000000) (disch := first | decide | omega | (simp only [List.length_append, List.length_cons, List.length_nil, List.length_take, List.length_drop]; omega)) only [Tryd.f106, kMix, kTurn, cfgC, tyTab, shaG, go_sem]; rfl) (h := ?_) | refine RunT.notA (h := ?_))
  refine RunT.nil ?_
  refine Tri.seq (Tri.seq ?_)
  refine (Tri.rgnT (cfgC_ok.pins _) ?_)
  repeat (first | refine RunT.oneA (hp := by simp (maxSteps := 2000000) (disch := first | decide | omega | (simp only [List.length_append, List.length_cons, List.length_nil, List.length_take, List.length_drop]; omega)) only [Tryd.f106, kMix, kTurn, cfgC, tyTab, shaG, go_sem]; rfl) (h := ?_) | refine RunT.notA (h := ?_))
  refine RunT.nil ?_
  try simp only [InBlock, Then]
  refine Tri.block ?_
  obtain ⟨Z, hZ⟩ : ∃ Z : List UInt32, Z = Kd.dflt w8 := ⟨_, rfl⟩
  refine Tri.loop (fun i : Nat => (⟨[none, none, some (.ptr 0 [] 0), some (.ptr 1 [] 0), some (.ptr 2 [] 0), some (.ptr 3 [] 0), none, none, none, none, none, none, none, none, none, none, none, none, none, some (.int .i64 (i : Int))] ++ List.replicate 126 none, [.live (.pure w8 st), .live (.pure c64 p), .live (.pure w8 Z), .live (.pure w64 (wI p i))]⟩ : AS)) (· ≤ 64) (fun k => 64 - k) 0 ?_ (Nat.zero_le _) ?_
  · refine Wk.of ?_ ?_ rfl rfl
    · simp only [lessTs, List.reduceReplicate, List.cons_append, List.nil_append, wI, hZ] <;> ((repeat' apply And.intro) <;> first | rfl | trivial)
    · simp only [lessHs, wI, hZ] <;> ((repeat' apply And.intro) <;> first | rfl | trivial)
  · intro i hi
    generalize hw : wI p i = w
    refine Tri.at (by first | (simp only [Tryd.f106, kMix, kTurn, cfgC, tyTab, shaG, Con.start, go_sem]; rfl) | rfl) ?_
    refine Tri.seq (Tri.regT (cfgC_ok.pins _) ?_)
    repeat (first | refine RunT.oneA (hp := by simp (maxSteps := 2000000) (disch := first | decide | omega | (simp only [List.length_append, List.length_cons, List.length_nil, List.length_take, List.length_drop]; omega)) only [Tryd.f106, kMix, kTurn, cfgC, tyTab, shaG, go_sem]; rfl) (h := ?_) | refine RunT.notA (h := ?_))
    refine RunT.nil ?_
    refine Tri.seq ?_
    refine Tri.split (by simp only [AS.ev, go_sem]; rfl) (fun hc => ?_) (fun hc => ?_)
    · have hc' : i < 64 := by have := of_decide_eq_true hc; omega
      refine Tri.skp ?_
      refine Tri.seq (Tri.block ?_)
      refine Tri.seq (Tri.regT (cfgC_ok.pins _) ?_)
      repeat (first | refine RunT.oneA (hp := by simp (maxSteps := 2000000) (disch := first | decide | omega | (simp only [List.length_append, List.length_cons, List.length_nil, List.length_take, List.length_drop]; omega)) only [Tryd.f106, kMix, kTurn, cfgC, tyTab, shaG, go_sem]; rfl) (h := ?_) | refine RunT.notA (h := ?_))
      refine RunT.nil ?_
      refine Tri.seq (Tri.seq ?_)
      refine (Tri.rgnT (cfgC_ok.pins _) ?_)
      repeat (first | refine RunT.oneA (hp := by simp (maxSteps := 2000000) (disch := first | decide | omega | (simp only [List.length_append, List.length_cons, List.length_nil, List.length_take, List.length_drop]; omega)) only [Tryd.f106, kMix, kTurn, cfgC, tyTab, shaG, go_sem]; rfl) (h := ?_) | refine RunT.notA (h := ?_))
      refine RunT.nil ?_
      try simp only [InBlock, Then]
      refine Tri.split (by simp only [AS.ev, go_sem]; rfl) (fun hd => ?_) (fun hd => ?_)
      · have hd' : i < 16 := by have := of_decide_eq_true hd; omega
        have h4 : 4 * (i + 1) - 4 * i = 4 := by omega
        refine Tri.seq ?_
        refine Tri.seq ?_
        refine (Tri.rgnT (cfgC_ok.pins _) ?_)
        repeat (first | refine RunT.oneA (hp := by simp (maxSteps := 2000000) (disch := first | decide | omega | (simp only [List.length_append, List.length_cons, List.length_nil, List.length_take, List.length_drop]; omega)) only [Tryd.f106, kMix, kTurn, cfgC, tyTab, shaG, h4, go_sem]; rfl) (h := ?_) | refine RunT.notA (h := ?_))
        refine RunT.nil ?_
        try simp only [InBlock, Then]
        refine Tri.block ?_
        refine Tri.loop (fun k : Nat => (⟨[none, none, some (.ptr 0 [] 0), some (.ptr 1 [] 0), some (.ptr 2 [] 0), some (.ptr 3 [] 0), some (.int .i64 (i : Int)), none, none, none, none, none, none, none, none, none, none, none, none, some (.int .i64 (i : Int)), none, none, none, none, none, none, none, none, none, some (.tsl 1 [] (4 * i) (4 * i * 1) 1 4), some (.int .i64 ((4 : Nat) : Int)), some (.int .i64 (k : Int))] ++ List.replicate 114 none, [.live (.pure w8 st), .live (.pure c64 p), .live (.pure w8 Z), .live (.pure w64 (wbI p w i k))]⟩ : AS)) (· ≤ 4) (fun k => 4 - k) 0 ?_ (Nat.zero_le _) ?_
        · refine Wk.of ?_ ?_ rfl rfl
          · simp only [lessTs, List.reduceReplicate, List.cons_append, List.nil_append, wbI] <;> ((repeat' apply And.intro) <;> first | rfl | trivial)
          · simp only [lessHs, wbI] <;> ((repeat' apply And.intro) <;> first | rfl | trivial)
        · intro k hk
          refine Tri.at (by first | (simp only [Tryd.f106, kMix, kTurn, cfgC, tyTab, shaG, h4, Con.start, go_sem]; rfl) | rfl) ?_
          refine Tri.seq (Tri.regT (cfgC_ok.pins _) ?_)
          repeat (first | refine RunT.oneA (hp := by simp (maxSteps := 2000000) (disch := first | decide | omega | (simp only [List.length_append, List.length_cons, List.length_nil, List.length_take, List.length_drop]; omega)) only [Tryd.f106, kMix, kTurn, cfgC, tyTab, shaG, h4, go_sem]; rfl) (h := ?_) | refine RunT.notA (h := ?_))
          refine RunT.nil ?_
          refine Tri.seq ?_
          refine Tri.split (by simp only [AS.ev, go_sem]; rfl) (fun he => ?_) (fun he => ?_)
          · have he' : k < 4 := by have := of_decide_eq_true he; omega
            refine Tri.skp ?_
            refine Tri.seq (Tri.block ?_)
            refine Tri.seq (Tri.regT (cfgC_ok.pins _) ?_)
            repeat (first | refine RunT.oneA (hp := by simp (maxSteps := 2000000) (disch := first | decide | omega | (simp only [List.length_append, List.length_cons, List.length_nil, List.length_take, List.length_drop]; omega)) only [Tryd.f106, kMix, kTurn, cfgC, tyTab, shaG, h4, go_sem]; rfl) (h := ?_) | refine RunT.notA (h := ?_))
            refine RunT.nil ?_
            refine (Tri.rgnT (cfgC_ok.pins _) ?_)
            repeat (first | refine RunT.oneA (hp := by simp (maxSteps := 2000000) (disch := first | decide | omega | (simp only [List.length_append, List.length_cons, List.length_nil, List.length_take, List.length_drop]; omega)) only [Tryd.f106, kMix, kTurn, cfgC, tyTab, shaG, h4, go_sem]; rfl) (h := ?_) | refine RunT.notA (h := ?_))
            refine RunT.nil ?_
            try simp only [InBlock, Then]
            refine (Tri.rgnT (cfgC_ok.pins _) ?_)
            repeat (first | refine RunT.oneA (hp := by simp (maxSteps := 2000000) (disch := first | decide | omega | (simp only [List.length_append, List.length_cons, List.length_nil, List.length_take, List.length_drop]; omega)) only [Tryd.f106, kMix, kTurn, cfgC, tyTab, shaG, h4, go_sem]; rfl) (h := ?_) | refine RunT.notA (h := ?_))
            refine RunT.nil ?_
            try simp only [InBlock, Then]
            refine ⟨k+1, (by omega), (by omega), Wk.of ?_ ?_ rfl rfl⟩
            · simp only [lessTs, List.reduceReplicate, List.cons_append, List.nil_append, wbI] <;> ((repeat' apply And.intro) <;> first | rfl | trivial)
            · simp only [lessHs, wbI] <;> ((repeat' apply And.intro) <;> first | rfl | trivial)
          · have he' : k = 4 := by have := of_decide_eq_false he; omega
            subst he'
            refine Tri.exit ?_
            simp only [Then, InBlock, if_true]
            refine Tri.exit ?_
            simp only [Then, InBlock, if_true]
            refine (Tri.rgnT (cfgC_ok.pins _) ?_)
            repeat (first | refine RunT.oneA (hp := by simp (maxSteps := 2000000) (disch := first | decide | omega | (simp only [List.length_append, List.length_cons, List.length_nil, List.length_take, List.length_drop]; omega)) only [Tryd.f106, kMix, kTurn, cfgC, tyTab, shaG, h4, go_sem]; rfl) (h := ?_) | refine RunT.notA (h := ?_))
            refine RunT.nil ?_
            try simp only [InBlock, Then]
            refine ⟨i+1, (by omega), (by omega), Wk.of ?_ ?_ rfl rfl⟩
            · simp only [lessTs, List.reduceReplicate, List.cons_append, List.nil_append, wI, hw, if_pos hd'] <;> ((repeat' apply And.intro) <;> first | rfl | trivial)
            · simp only [lessHs, wI, hw, if_pos hd'] <;> ((repeat' apply And.intro) <;> first | rfl | trivial)
      · have hd' : ¬ i < 16 := by have := of_decide_eq_false hd; omega
        obtain ⟨m2, hm2⟩ : ∃ m : Nat, (i : Int) - 2 = (m : Int) := ⟨i - 2, by omega⟩
        obtain ⟨m7, hm7⟩ : ∃ m : Nat, (i : Int) - 7 = (m : Int) := ⟨i - 7, by omega⟩
        obtain ⟨m15, hm15⟩ : ∃ m : Nat, (i : Int) - 15 = (m : Int) := ⟨i - 15, by omega⟩
        obtain ⟨m16, hm16⟩ : ∃ m : Nat, (i : Int) - 16 = (m : Int) := ⟨i - 16, by omega⟩
        have hn2 : m2 = i - 2 := by omega
        have hn7 : m7 = i - 7 := by omega
        have hn15 : m15 = i - 15 := by omega
        have hn16 : m16 = i - 16 := by omega
        refine Tri.skp ?_
        refine (Tri.drnT (mixed) (cfgC_ok.pins _) ?_)
        repeat (first | refine RunD.oneA (hp := by simp (maxSteps := 2000000) (disch := first | decide | omega | (simp only [List.length_append, List.length_cons, List.length_nil, List.length_take, List.length_drop]; omega)) only [Tryd.f106, kMix, kTurn, cfgC, tyTab, shaG, hm2, hm7, hm15, hm16, go_sem]; rfl) (h := ?_) | refine RunD.notA (h := ?_))
        refine RunD.nil ?_
        refine ⟨by kernel_rfl, ?_⟩
        try simp only [InBlock, Then]
        refine (Tri.rgnT (cfgC_ok.pins _) ?_)
        repeat (first | refine RunT.oneA (hp := by simp (maxSteps := 2000000) (disch := first | decide | omega | (simp only [List.length_append, List.length_cons, List.length_nil, List.length_take, List.length_drop]; omega)) only [Tryd.f106, kMix, kTurn, cfgC, tyTab, shaG, hm2, hm7, hm15, hm16, go_sem]; rfl) (h := ?_) | refine RunT.notA (h := ?_))
        refine RunT.nil ?_
        try simp only [InBlock, Then]
        refine ⟨i+1, (by omega), (by omega), Wk.of ?_ ?_ rfl rfl⟩
        · simp only [lessTs, List.reduceReplicate, List.cons_append, List.nil_append, wI, hw, if_neg hd', hn2, hn7, hn15, hn16] <;> ((repeat' apply And.intro) <;> first | rfl | trivial)
        · simp only [lessHs, wI, hw, if_neg hd', hn2, hn7, hn15, hn16] <;> ((repeat' apply And.intro) <;> first | rfl | trivial)
    · have hc' : i = 64 := by have := of_decide_eq_false hc; omega
      subst hc'
      refine Tri.exit ?_
      simp only [Then, InBlock, if_true]
      subst hw
      generalize hW : wI p 64 = W
      refine Tri.at (by first | (simp only [Tryd.f106, kMix, kTurn, cfgC, tyTab, shaG, Con.start, go_sem]; rfl) | rfl) ?_
      refine Tri.seq (Tri.regT (cfgC_ok.pins _) ?_)
      repeat (first | refine RunT.oneA (hp := by simp (maxSteps := 2000000) (disch := first | decide | omega | (simp only [List.length_append, List.length_cons, List.length_nil, List.length_take, List.length_drop]; omega)) only [Tryd.f106, kMix, kTurn, cfgC, tyTab, shaG, go_sem]; rfl) (h := ?_) | refine RunT.notA (h := ?_))
      refine RunT.nil ?_
      generalize hK : rnds = K
      refine Tri.seq (Tri.seq ?_)
      refine (Tri.rgnT (cfgC_ok.pins _) ?_)
      repeat (first | refine RunT.oneA (hp := by simp (maxSteps := 2000000) (disch := first | decide | omega | (simp only [List.length_append, List.length_cons, List.length_nil, List.length_take, List.length_drop]; omega)) only [Tryd.f106, kMix, kTurn, cfgC, tyTab, shaG, hK, go_sem]; rfl) (h := ?_) | refine RunT.notA (h := ?_))
      refine RunT.nil ?_
      try simp only [InBlock, Then]
      refine Tri.block ?_
      refine Tri.loop (fun i : Nat => (⟨[none, none, some (.ptr 0 [] 0), some (.ptr 1 [] 0), some (.ptr 2 [] 0), some (.ptr 3 [] 0), none, none, none, some (.ptr 4 [] 0), none, none, none, none, none, none, none, none, none, none, none, none, none, none, none, none, none, none, none, none, none, none, none, none, none, none, none, none, none, none, none, none, none, none, none, none, none, none, none, none, none, none, none, none, none, none, none, none, none, none, none, none, none, none, none, none, none, none, none, none, some (.pure w64 K), some (.int .i64 (i : Int))] ++ List.replicate 74 none, [.live (.pure w8 st), .live (.pure c64 p), .live (.pure w8 Z), .live (.pure w64 W), .live (.pure w8 (rnI st K W i))]⟩ : AS)) (· ≤ 64) (fun k => 64 - k) 0 ?_ (Nat.zero_le _) ?_
      · refine Wk.of ?_ ?_ rfl rfl
        · simp only [lessTs, List.reduceReplicate, List.cons_append, List.nil_append, rnI] <;> ((repeat' apply And.intro) <;> first | rfl | trivial)
        · simp only [lessHs, rnI] <;> ((repeat' apply And.intro) <;> first | rfl | trivial)
      · intro i hi
        generalize hs : rnI st K W i = s
        refine Tri.at (by first | (simp only [Tryd.f106, kMix, kTurn, cfgC, tyTab, shaG, hK, Con.start, go_sem]; rfl) | rfl) ?_
        refine Tri.seq (Tri.regT (cfgC_ok.pins _) ?_)
        repeat (first | refine RunT.oneA (hp := by simp (maxSteps := 2000000) (disch := first | decide | omega | (simp only [List.length_append, List.length_cons, List.length_nil, List.length_take, List.length_drop]; omega)) only [Tryd.f106, kMix, kTurn, cfgC, tyTab, shaG, hK, go_sem]; rfl) (h := ?_) | refine RunT.notA (h := ?_))
        refine RunT.nil ?_
        refine Tri.seq ?_
        refine Tri.split (by simp only [AS.ev, go_sem]; rfl) (fun he => ?_) (fun he => ?_)
        · have he' : i < 64 := by have := of_decide_eq_true he; omega
          refine Tri.skp ?_
          refine Tri.seq (Tri.block ?_)
          refine Tri.seq (Tri.regT (cfgC_ok.pins _) ?_)
          repeat (first | refine RunT.oneA (hp := by simp (maxSteps := 2000000) (disch := first | decide | omega | (simp only [List.length_append, List.length_cons, List.length_nil, List.length_take, List.length_drop]; omega)) only [Tryd.f106, kMix, kTurn, cfgC, tyTab, shaG, hK, go_sem]; rfl) (h := ?_) | refine RunT.notA (h := ?_))
          refine RunT.nil ?_
          refine Tri.seq (Tri.drwT (mixed) (cfgC_ok.pins _) ?_)
          repeat (first | refine RunD.oneA (hp := by simp (maxSteps := 2000000) (disch := first | decide | omega | (simp only [List.length_append, List.length_cons, List.length_nil, List.length_take, List.length_drop]; omega)) only [Tryd.f106, kMix, kTurn, cfgC, tyTab, shaG, hK, go_sem]; rfl) (h := ?_) | refine RunD.notA (h := ?_))
          refine RunD.nil ?_
          refine ⟨by kernel_rfl, ?_⟩
          refine Tri.seq (Tri.regT (cfgC_ok.pins _) ?_)
          repeat (first | refine RunT.oneA (hp := by simp (maxSteps := 2000000) (disch := first | decide | omega | (simp only [List.length_append, List.length_cons, List.length_nil, List.length_take, List.length_drop]; omega)) only [Tryd.f106, kMix, kTurn, cfgC, tyTab, shaG, hK, go_sem]; rfl) (h := ?_) | refine RunT.notA (h := ?_))
          refine RunT.nil ?_
          refine Tri.seq (Tri.regT (cfgC_ok.pins _) ?_)
          repeat (first | refine RunT.oneA (hp := by simp (maxSteps := 2000000) (disch := first | decide | omega | (simp only [List.length_append, List.length_cons, List.length_nil, List.length_take, List.length_drop]; omega)) only [Tryd.f106, kMix, kTurn, cfgC, tyTab, shaG, hK, go_sem]; rfl) (h := ?_) | refine RunT.notA (h := ?_))
          refine RunT.nil ?_
          refine Tri.seq (Tri.drwT (mixed) (cfgC_ok.pins _) ?_)
          repeat (first | refine RunD.oneA (hp := by simp (maxSteps := 2000000) (disch := first | decide | omega | (simp only [List.length_append, List.length_cons, List.length_nil, List.length_take, List.length_drop]; omega)) only [Tryd.f106, kMix, kTurn, cfgC, tyTab, shaG, hK, go_sem]; rfl) (h := ?_) | refine RunD.notA (h := ?_))
          refine RunD.nil ?_
          refine ⟨by kernel_rfl, ?_⟩
          refine Tri.seq (Tri.drwT (mixed) (cfgC_ok.pins _) ?_)
          repeat (first | refine RunD.oneA (hp := by simp (maxSteps := 2000000) (disch := first | decide | omega | (simp only [List.length_append, List.length_cons, List.length_nil, List.length_take, List.length_drop]; omega)) only [Tryd.f106, kMix, kTurn, cfgC, tyTab, shaG, hK, go_sem]; rfl) (h := ?_) | refine RunD.notA (h := ?_))
          refine RunD.nil ?_
          refine ⟨by kernel_rfl, ?_⟩
          refine Tri.seq (Tri.regT (cfgC_ok.pins _) ?_)
          repeat (first | refine RunT.oneA (hp := by simp (maxSteps := 2000000) (disch := first | decide | omega | (simp only [List.length_append, List.length_cons, List.length_nil, List.length_take, List.length_drop]; omega)) only [Tryd.f106, kMix, kTurn, cfgC, tyTab, shaG, hK, go_sem]; rfl) (h := ?_) | refine RunT.notA (h := ?_))
          refine RunT.nil ?_
          refine (Tri.rgnT (cfgC_ok.pins _) ?_)
          repeat (first | refine RunT.oneA (hp := by simp (maxSteps := 2000000) (disch := first | decide | omega | (simp only [List.length_append, List.length_cons, List.length_nil, List.length_take, List.length_drop]; omega)) only [Tryd.f106, kMix, kTurn, cfgC, tyTab, shaG, hK, go_sem]; rfl) (h := ?_) | refine RunT.notA (h := ?_))
          refine RunT.nil ?_
          try simp only [InBlock, Then]
          refine (Tri.rgnT (cfgC_ok.pins _) ?_)
          repeat (first | refine RunT.oneA (hp := by simp (maxSteps := 2000000) (disch := first | decide | omega | (simp only [List.length_append, List.length_cons, List.length_nil, List.length_take, List.length_drop]; omega)) only [Tryd.f106, kMix, kTurn, cfgC, tyTab, shaG, hK, go_sem]; rfl) (h := ?_) | refine RunT.notA (h := ?_))
          refine RunT.nil ?_
          try simp only [InBlock, Then]
          refine ⟨i+1, (by omega), (by omega), Wk.of ?_ ?_ rfl rfl⟩
          · simp only [lessTs, List.reduceReplicate, List.cons_append, List.nil_append, rnI, hs] <;> ((repeat' apply And.intro) <;> first | rfl | trivial)
          · simp only [lessHs, rnI, hs] <;> ((repeat' apply And.intro) <;> first | rfl | trivial)
        · have he' : i = 64 := by have := of_decide_eq_false he; omega
          subst he'
          subst hs
          refine Tri.exit ?_
          simp only [Then, InBlock, if_true]
          generalize hs : rnI st K W 64 = s
          refine Tri.seq (Tri.seq ?_)
          refine Tri.at (by first | (simp only [Tryd.f106, kMix, kTurn, cfgC, tyTab, shaG, hK, Con.start, go_sem]; rfl) | rfl) ?_
          refine (Tri.rgnT (cfgC_ok.pins _) ?_)
          repeat (first | refine RunT.oneA (hp := by simp (maxSteps := 2000000) (disch := first | decide | omega | (simp only [List.length_append, List.length_cons, List.length_nil, List.length_take, List.length_drop]; omega)) only [Tryd.f106, kMix, kTurn, cfgC, tyTab, shaG, hK, go_sem]; rfl) (h := ?_) | refine RunT.notA (h := ?_))
          refine RunT.nil ?_
          try simp only [InBlock, Then]
          refine Tri.block ?_
          refine Tri.loop (fun i : Nat => (⟨[none, none, none, none, some (.ptr 2 [] 0), none, none, none, none, some (.ptr 4 [] 0), none, none, none, none, none, none, none, none, none, none, none, none, none, none, none, none, none, none, none, none, none, none, none, none, none, none, none, none, none, none, none, none, none, none, none, none, none, none, none, none, none, none, none, none, none, none, none, none, none, none, none, none, none, none, none, none, none, none, none, none, none, none, none, none, none, none, none, none, none, none, none, none, none, none, none, none, none, none, none, none, none, none, none, none, none, none, none, none, none, none, none, none, none, none, none, none, none, none, none, none, none, none, none, none, none, none, none, none, none, none, none, none, none, none, none, none, none, none, none, none, none, none, none, some (.pure w8 st), some (.int .i64 (i : Int))] ++ List.replicate 11 none, [.live (.pure w8 st), .live (.pure c64 p), .live (.pure w8 Z), .live (.pure w64 W), .live (.pure w8 (fiI st s i))]⟩ : AS)) (· ≤ 8) (fun k => 8 - k) 0 ?_ (Nat.zero_le _) ?_
          · refine Wk.of ?_ ?_ rfl rfl
            · simp only [lessTs, List.reduceReplicate, List.cons_append, List.nil_append, fiI] <;> ((repeat' apply And.intro) <;> first | rfl | trivial)
            · simp only [lessHs, fiI] <;> ((repeat' apply And.intro) <;> first | rfl | trivial)
          · intro i hi
            refine Tri.at (by first | (simp only [Tryd.f106, kMix, kTurn, cfgC, tyTab, shaG, hK, Con.start, go_sem]; rfl) | rfl) ?_
            refine Tri.seq (Tri.regT (cfgC_ok.pins _) ?_)
            repeat (first | refine RunT.oneA (hp := by simp (maxSteps := 2000000) (disch := first | decide | omega | (simp only [List.length_append, List.length_cons, List.length_nil, List.length_take, List.length_drop]; omega)) only [Tryd.f106, kMix, kTurn, cfgC, tyTab, shaG, hK, go_sem]; rfl) (h := ?_) | refine RunT.notA (h := ?_))
            refine RunT.nil ?_
            refine Tri.seq ?_
            refine Tri.split (by simp only [AS.ev, go_sem]; rfl) (fun he => ?_) (fun he => ?_)
            · have he' : i < 8 := by have := of_decide_eq_true he; omega
              refine Tri.skp ?_
              refine Tri.seq (Tri.block ?_)
              refine Tri.seq (Tri.regT (cfgC_ok.pins _) ?_)
              repeat (first | refine RunT.oneA (hp := by simp (maxSteps := 2000000) (disch := first | decide | omega | (simp only [List.length_append, List.length_cons, List.length_nil, List.length_take, List.length_drop]; omega)) only [Tryd.f106, kMix, kTurn, cfgC, tyTab, shaG, hK, go_sem]; rfl) (h := ?_) | refine RunT.notA (h := ?_))
              refine RunT.nil ?_
              refine (Tri.rgnT (cfgC_ok.pins _) ?_)
              repeat (first | refine RunT.oneA (hp := by simp (maxSteps := 2000000) (disch := first | decide | omega | (simp only [List.length_append, List.length_cons, List.length_nil, List.length_take, List.length_drop]; omega)) only [Tryd.f106, kMix, kTurn, cfgC, tyTab, shaG, hK, go_sem]; rfl) (h := ?_) | refine RunT.notA (h := ?_))
              refine RunT.nil ?_
              try simp only [InBlock, Then]
              refine (Tri.rgnT (cfgC_ok.pins _) ?_)
              repeat (first | refine RunT.oneA (hp := by simp (maxSteps := 2000000) (disch := first | decide | omega | (simp only [List.length_append, List.length_cons, List.length_nil, List.length_take, List.length_drop]; omega)) only [Tryd.f106, kMix, kTurn, cfgC, tyTab, shaG, hK, go_sem]; rfl) (h := ?_) | refine RunT.notA (h := ?_))
              refine RunT.nil ?_
              try simp only [InBlock, Then]
              refine ⟨i+1, (by omega), (by omega), Wk.of ?_ ?_ rfl rfl⟩
              · simp only [lessTs, List.reduceReplicate, List.cons_append, List.nil_append, fiI] <;> ((repeat' apply And.intro) <;> first | rfl | trivial)
              · simp only [lessHs, fiI] <;> ((repeat' apply And.intro) <;> first | rfl | trivial)
            · have he' : i = 8 := by have := of_decide_eq_false he; omega
              subst he'
              refine Tri.exit ?_
              simp only [Then, InBlock, if_true]
              refine Tri.seq (Tri.regT (cfgC_ok.pins _) ?_)
              repeat (first | refine RunT.oneA (hp := by simp (maxSteps := 2000000) (disch := first | decide | omega | (simp only [List.length_append, List.length_cons, List.length_nil, List.length_take, List.length_drop]; omega)) only [Tryd.f106, kMix, kTurn, cfgC, tyTab, shaG, hK, go_sem]; rfl) (h := ?_) | refine RunT.notA (h := ?_))
              refine RunT.nil ?_
              refine Tri.ret ?_
              refine Con.fin (.inl rfl) (by simp only [Tryd.f106, cfgC, tyTab, resA, resA1, go_sem]; rfl) (by simp only [Obs, and_true, true_and]) (by rw [← hs, ← hK, ← hW]; rfl) trivial rfl rfl
theorem mix_sum : FSumOK Tryd.prog cfgC.G 106 kMix.sum := Con.sumOK cfgC_ok kMix Tryd.func106 rfl rfl (Con.of_inv _ _ _) mix_body
end Go.Proofs.YtlnkfdblkdhdgaaDoor

namespace Go.Proofs.YtlnkfdblkdhdgaaDoor
open Go.Vc Go.Proofs
set_option maxRecDepth 10000
set_option maxHeartbeats 4000000
abbrev hasF : List FK := [.f w8, .s (.int .u8), .f (.int .u64)]
def kNewH : Con := Con.of [] (fun _ => []) (fun _ => ⟨.ptr 0 [] 0, [.agg [.pure w8 stt0, .tsl 1 [] 0 0 1 0, .int .u64 0], .pure (.arr 0 (.int .u8)) []]⟩)
theorem newH_body (p : kNewH.Par) (hp : ∀ q ∈ kNewH.pre p, q) : BodyOK Tryd.prog cfgC Tryd.f68 (Tryd.f68.body.get rfl) kNewH p := by
  refine ⟨?_, Nat.zero_le _, rfl, rfl⟩
  show Tri _ _ _ (Code.seq _ (Code.seq _ _)) _
  refine Tri.at (by first | (simp only [Tryd.f68, kNewH, cfgC, tyTab, shaG, hasT, Con.start, go_sem]; rfl) | rfl) ?_
  refine Tri.seq (Tri.regT (cfgC_ok.pins _) ?_)
  repeat (first | refine RunT.oneA (hp := by simp (maxSteps := 2000000) (disch := first | decide | omega | (simp only [List.length_append, List.length_cons, List.length_nil, List.length_take, List.length_drop]; omega)) only [Tryd.f68, kNewH, cfgC, tyTab, shaG, hasT, go_sem]; rfl) (h := ?_) | refine RunT.notA (h := ?_))
  refine RunT.nil ?_
  generalize hS0 : stt0 = S0
  refine Tri.seq (Tri.regT (cfgC_ok.pins _) ?_)
  repeat (first | refine RunT.oneA (hp := by simp (maxSteps := 2000000) (disch := first | decide | omega | (simp only [List.length_append, List.length_cons, List.length_nil, List.length_take, List.length_drop]; omega)) only [Tryd.f68, kNewH, cfgC, tyTab, shaG, hasT, hS0, go_sem]; rfl) (h := ?_) | refine RunT.notA (h := ?_))
  refine RunT.nil ?_
  refine Tri.ph 0 1 (.int .u8) 1 rfl rfl rfl ?_
  refine Tri.ret ?_
  refine Con.fin (.inl rfl) (by simp only [Tryd.f68, cfgC, tyTab, resA, resA1, go_sem]; rfl) (by simp only [Obs, and_true, true_and]) rfl ?_ rfl rfl
  refine ⟨?_, rfl, trivial⟩
  rw [← hS0]
  rfl
theorem newH_sum : FSumOK Tryd.prog cfgC.G 68 kNewH.sum := Con.sumOK cfgC_ok kNewH Tryd.func68 rfl rfl (Con.of_inv _ _ _) newH_body
def adS (st : List UInt32) (A : List UInt8) : Nat → List UInt32
  | 0 => st
  | k + 1 => mixS (adS st A k) (List.take 64 (List.drop (64 * k) A))
theorem rnS_len (s : List UInt32) (k w : UInt32) (h : s.length = 8) : (rnS s k w).length = 8 := by
  simp only [rnS, cpS, List.length_set, List.length_append, List.length_take, List.length_drop, h]
  rfl
theorem rnI_len (s K w : List UInt32) (h : s.length = 8) : ∀ i, (rnI s K w i).length = 8
  | 0 => h
  | i + 1 => rnS_len _ _ _ (rnI_len s K w h i)
theorem fiI_len (st s : List UInt32) (h : s.length = 8) : ∀ i, (fiI st s i).length = 8
  | 0 => h
  | i + 1 => by simp only [fiI, List.length_set]; exact fiI_len st s h i
theorem mixS_len {st : List UInt32} (p : List UInt8) (h : st.length = 8) : (mixS st p).length = 8 := fiI_len _ _ (rnI_len _ _ _ h _) _
theorem adS_len {st : List UInt32} (A : List UInt8) (h : st.length = 8) : ∀ k, (adS st A k).length = 8
  | 0 => h
  | k + 1 => mixS_len _ (adS_len A h k)
def addA (r : SV UInt8) (b : List UInt8) : List UInt8 := List.take r.len (List.drop r.i r.xs) ++ b
def kAdd : Con := Con.ofO [.o hasF, .a (.v (.slice false (.int .u8)))] [1]
  (fun x => [List.length (α := UInt32) x.1.1 = 8, x.1.2.1.i + x.1.2.1.len ≤ x.1.2.1.N, x.1.2.1.len + List.length (α := UInt8) x.2.1 ≤ 1048576])
  (fun x => ⟨.tuple [], [.agg [.pure w8 (adS x.1.1 (addA x.1.2.1 x.2.1) ((x.1.2.1.len + List.length (α := UInt8) x.2.1) / 64)),
      .tsl 1 [] (64 * ((x.1.2.1.len + List.length (α := UInt8) x.2.1) / 64)) (64 * ((x.1.2.1.len + List.length (α := UInt8) x.2.1) / 64)) 1 (x.1.2.1.len + List.length (α := UInt8) x.2.1 - 64 * ((x.1.2.1.len + List.length (α := UInt8) x.2.1) / 64)),
      .int .u64 ((x.1.2.2.1 : UInt64) + UInt64.ofInt ((List.length (α := UInt8) x.2.1 : Nat) : Int))],
    .pure (.arr (x.1.2.1.len + List.length (α := UInt8) x.2.1) (.int .u8)) (addA x.1.2.1 x.2.1)]⟩)
def cfgD : Cfg2 := { ty := tyTab, fn := fun | 106 => some kMix.sum | _ => none, G := shaG, pin := [], eq := fun _ => none }
theorem cfgD_ok : CfgOK Tryd.prog cfgD := ⟨tysOK, (fun f s h => by
  simp only [cfgD] at h
  split at h
  · injection h with h; subst h; exact .inl mix_sum
  · cases h), (fun t d h => by cases h)⟩
theorem add_body (p : kAdd.Par) (hp : ∀ q ∈ kAdd.pre p, q) : BodyOK Tryd.prog cfgD Tryd.f69 (Tryd.f69.body.get rfl) kAdd p := by
  obtain ⟨⟨(st : List UInt32), ⟨N, r0, rl, (xs : List UInt8)⟩, (cn : UInt64), u0⟩, (b : List UInt8), u⟩ := p
  obtain ⟨hst, hN, hL, _⟩ := Obs.of hp
  replace hst : st.length = 8 := hst
  replace hN : r0 + rl ≤ N := hN
  replace hL : rl + b.length ≤ 1048576 := hL
  refine ⟨?_, Nat.le_refl _, rfl, rfl⟩
  show Tri _ _ _ (Code.seq _ (Code.seq _ (Code.block _ (Code.loop (Code.seq (Code.seq _ (Code.cond _ _ _)) (Code.block _ (Code.seq _ _))))))) _
  refine Tri.at (by first | (simp only [Tryd.f69, kAdd, kMix, cfgD, tyTab, hasT, Con.ofO, argO, argO1, heapO, heapO1, fldF, blkF, OK.cnt, OK.cnt1, FK.cnt, AK.cnt, argA, heapA, Kd.sz, AV.ofKd, Con.start, go_sem]; rfl) | rfl) ?_
  refine Tri.seq (Tri.regT (cfgD_ok.pins _) ?_)
  repeat (first | refine RunT.oneA (hp := by simp (maxSteps := 2000000) (disch := first | decide | omega | (simp only [List.length_append, List.length_cons, List.length_nil, List.length_take, List.length_drop]; omega)) only [Tryd.f69, kAdd, kMix, cfgD, tyTab, hasT, Con.ofO, argO, argO1, heapO, heapO1, fldF, blkF, OK.cnt, OK.cnt1, FK.cnt, AK.cnt, argA, heapA, Kd.sz, AV.ofKd, go_sem]; rfl) (h := ?_) | refine RunT.notA (h := ?_))
  refine RunT.nil ?_
  refine Tri.seq (Tri.regT (cfgD_ok.pins _) ?_)
  repeat (first | refine RunT.oneA (hp := by simp (maxSteps := 2000000) (disch := first | decide | omega | (simp only [List.length_append, List.length_cons, List.length_nil, List.length_take, List.length_drop]; omega)) only [Tryd.f69, kAdd, kMix, cfgD, tyTab, hasT, Con.ofO, argO, argO1, heapO, heapO1, fldF, blkF, OK.cnt, OK.cnt1, FK.cnt, AK.cnt, argA, heapA, Kd.sz, AV.ofKd, go_sem]; rfl) (h := ?_) | refine RunT.notA (h := ?_))
  refine RunT.nil ?_
  refine Tri.block ?_
  generalize hA : List.take rl (List.drop r0 xs) ++ b = A
  generalize hM : rl + b.length = M
  have hM' : M ≤ 1048576 := by omega
  refine Tri.loop (fun k : Nat => (⟨[some (.ptr 0 [] 0)] ++ List.replicate 51 none, [.live (.agg [.pure w8 (adS st A k), .tsl 1 [] (64 * k) (64 * k) 1 (M - 64 * k), .int .u64 (cn + UInt64.ofInt (b.length : Int))]), .live (.pure (.arr M (.int .u8)) A)]⟩ : AS)) (fun k => 64 * k ≤ M) (fun k => M - 64 * k) 0 ?_ (by omega) ?_
  · refine Wk.of ?_ ?_ rfl rfl
    · simp only [lessTs, List.reduceReplicate, List.cons_append, List.nil_append, adS] <;> ((repeat' apply And.intro) <;> first | rfl | trivial)
    · simp only [lessHs, adS] <;> ((repeat' apply And.intro) <;> first | rfl | trivial)
  · intro k hk
    generalize hs : adS st A k = s
    have hs8 : s.length = 8 := by rw [← hs]; exact adS_len A hst k
    refine Tri.seq (Tri.seq ?_)
    refine Tri.at (by first | (simp only [Tryd.f69, kAdd, kMix, cfgD, tyTab, hasT, Con.ofO, argO, argO1, heapO, heapO1, fldF, blkF, OK.cnt, OK.cnt1, FK.cnt, AK.cnt, argA, heapA, Kd.sz, AV.ofKd, Con.start, go_sem]; rfl) | rfl) ?_
    refine (Tri.rgnT (cfgD_ok.pins _) ?_)
    repeat (first | refine RunT.oneA (hp := by simp (maxSteps := 2000000) (disch := first | decide | omega | (simp only [List.length_append, List.length_cons, List.length_nil, List.length_take, List.length_drop]; omega)) only [Tryd.f69, kAdd, kMix, cfgD, tyTab, hasT, Con.ofO, argO, argO1, heapO, heapO1, fldF, blkF, OK.cnt, OK.cnt1, FK.cnt, AK.cnt, argA, heapA, Kd.sz, AV.ofKd, go_sem]; rfl) (h := ?_) | refine RunT.notA (h := ?_))
    refine RunT.nil ?_
    try simp only [InBlock, Then]
    refine Tri.split (by simp only [AS.ev, go_sem]; rfl) (fun hc => ?_) (fun hc => ?_)
    · have hc' : 64 ≤ M - 64 * k := by
        have : ¬ ((M - 64 * k : Nat) : Int) < 64 := by simpa using hc
        omega
      refine Tri.skp ?_
      refine Tri.block ?_
      refine Tri.seq (Tri.drwT (mixed) (cfgD_ok.pins _) ?_)
      repeat (first | refine RunD.oneA (hp := by simp (maxSteps := 2000000) (disch := first | decide | omega | (simp only [List.length_append, List.length_cons, List.length_nil, List.length_take, List.length_drop]; omega)) only [Tryd.f69, kAdd, kMix, cfgD, tyTab, hasT, Con.ofO, argO, argO1, heapO, heapO1, fldF, blkF, OK.cnt, OK.cnt1, FK.cnt, AK.cnt, argA, heapA, Kd.sz, AV.ofKd, go_sem]; rfl) (h := ?_) | refine RunD.notA (h := ?_))
      refine RunD.nil ?_
      refine ⟨by kernel_rfl, ?_⟩
      refine (Tri.rgnT (cfgD_ok.pins _) ?_)
      repeat (first | refine RunT.oneA (hp := by simp (maxSteps := 2000000) (disch := first | decide | omega | (simp only [List.length_append, List.length_cons, List.length_nil, List.length_take, List.length_drop]; omega)) only [Tryd.f69, kAdd, kMix, cfgD, tyTab, hasT, Con.ofO, argO, argO1, heapO, heapO1, fldF, blkF, OK.cnt, OK.cnt1, FK.cnt, AK.cnt, argA, heapA, Kd.sz, AV.ofKd, go_sem]; rfl) (h := ?_) | refine RunT.notA (h := ?_))
      refine RunT.nil ?_
      try simp only [InBlock, Then]
      have e1 : M - 64 * k - 64 = M - 64 * (k + 1) := by omega
      refine ⟨k + 1, (by omega), (by omega), Wk.of ?_ ?_ rfl rfl⟩
      · simp only [lessTs, List.reduceReplicate, List.cons_append, List.nil_append] <;> ((repeat' apply And.intro) <;> first | rfl | trivial)
      · rw [e1]
        refine ⟨?_, rfl, trivial⟩
        rw [← hs]
        rfl
    · have hc' : M - 64 * k < 64 := by
        have : ((M - 64 * k : Nat) : Int) < 64 := by simpa using hc
        omega
      have hq : k = M / 64 := by omega
      refine Tri.exit ?_
      simp only [Then, InBlock, if_true]
      refine Con.fin (.inr rfl) (by simp only [Tryd.f69, resA, resA1, go_sem]; rfl) (by trivial) rfl ?_ rfl rfl
      subst hM hA hs
      rw [hq]
      refine ⟨rfl, rfl, trivial⟩
theorem add_sum : FSumOK Tryd.prog cfgD.G 69 kAdd.sum := Con.sumOK cfgD_ok kAdd Tryd.func69 rfl rfl (Con.ofO_inv _ _ _ _) add_body
end Go.Proofs.YtlnkfdblkdhdgaaDoor

namespace Go.Proofs.YtlnkfdblkdhdgaaDoor
open Go.Vc Go.Proofs
set_option maxRecDepth 10000
set_option maxHeartbeats 4000000
def padZ (l : Nat) : Nat := (64 - (l + 9) % 64) % 64
def tlI (t : List UInt8) (n : UInt64) : Nat → List UInt8
  | 0 => t
  | j + 1 => tlI t n j ++ [(n >>> UInt64.ofNat (8 * (7 - j))).toUInt8]
theorem tlI_len (t : List UInt8) (n : UInt64) : ∀ j, (tlI t n j).length = t.length + j
  | 0 => rfl
  | j + 1 => by simp only [tlI, List.length_append, tlI_len t n j, List.length_cons, List.length_nil]; omega
def t0S (l : Nat) : List UInt8 := 128 :: List.replicate (padZ l) 0
def tailS (l : Nat) (n : UInt64) : List UInt8 := tlI (t0S l) n 8
def ouK (x : UInt32) (o : List UInt8) (i : Nat) : Nat → List UInt8
  | 0 => o
  | k + 1 => (ouK x o i k).set (4 * i + k) (x >>> UInt32.ofNat (8 * (3 - k))).toUInt8
def ouI (s : List UInt32) : Nat → List UInt8
  | 0 => Kd.dflt h32
  | i + 1 => ouK (s.getD i 0) (ouI s i) i 4
def sumS (st : List UInt32) (r : List UInt8) (len : Nat) (cn : UInt64) : List UInt8 :=
  ouI (adS st (r ++ tailS len (cn * 8)) ((len + (padZ len + 1 + 8)) / 64)) 8
def kSumH : Con := Con.ofO [.o hasF] []
  (fun x => [List.length (α := UInt32) x.1.1 = 8, x.1.2.1.i + x.1.2.1.len ≤ x.1.2.1.N, x.1.2.1.len ≤ 1000000, List.length (α := UInt8) x.1.2.1.xs = x.1.2.1.N])
  (fun x => ⟨.pure h32 (sumS x.1.1 (List.take x.1.2.1.len (List.drop x.1.2.1.i x.1.2.1.xs)) x.1.2.1.len x.1.2.2.1), [.agg [.pure w8 x.1.1, .tsl 1 [] x.1.2.1.i x.1.2.1.i 1 x.1.2.1.len, .int .u64 x.1.2.2.1], .pure (.arr x.1.2.1.N (.int .u8)) x.1.2.1.xs]⟩)
def cfgE : Cfg2 := { ty := tyTab, fn := fun | 69 => some kAdd.sum | _ => none, G := shaG, pin := [], eq := fun _ => none }
theorem cfgE_ok : CfgOK Tryd.prog cfgE := ⟨tysOK, (fun f s h => by
  simp only [cfgE] at h
  split at h
  · injection h with h; subst h; exact .inl add_sum
  · cases h), (fun t d h => by cases h)⟩
theorem sumH_body (p : kSumH.Par) (hp : ∀ q ∈ kSumH.pre p, q) : BodyOK Tryd.prog cfgE Tryd.f70 (Tryd.f70.body.get rfl) kSumH p := by
  obtain ⟨⟨(st : List UInt32), ⟨N, r0, rl, (xs : List UInt8)⟩, (cn : UInt64), u0⟩, u⟩ := p
  obtain ⟨hst, hN, hL, hx, _⟩ := Obs.of hp
  replace hst : st.length = 8 := hst
  replace hN : r0 + rl ≤ N := hN
  replace hL : rl ≤ 1000000 := hL
  replace hx : xs.length = N := hx
  refine ⟨?_, Nat.le_refl _, rfl, rfl⟩
  show Tri _ _ _ (Code.seq _ (Code.seq _ (Code.seq _ (Code.seq (Code.block _ (Code.loop (Code.seq (Code.seq _ (Code.cond _ _ _)) (Code.block _ _)))) (Code.seq _ (Code.seq (Code.seq _ (Code.block _ (Code.loop (Code.seq (Code.seq _ (Code.cond _ _ _)) (Code.seq (Code.block _ _) _))))) (Code.seq _ (Code.seq (Code.seq _ (Code.block _ (Code.loop (Code.seq _ (Code.seq (Code.cond _ _ _) (Code.seq (Code.block _ (Code.seq _ (Code.seq _ (Code.block _ (Code.loop (Code.seq _ (Code.seq (Code.cond _ _ _) (Code.seq (Code.block _ (Code.seq _ _)) _)))))))) _)))))) (Code.seq _ _))))))))) _
  refine Tri.at (by first | (simp only [Tryd.f70, kSumH, kAdd, cfgE, tyTab, hasT, Con.ofO, argO, argO1, heapO, heapO1, fldF, blkF, OK.cnt, OK.cnt1, FK.cnt, AK.cnt, argA, heapA, Kd.sz, AV.ofKd, rdO, rdO1, rdOb, rdF, rdT, castK_self, Nat.mul_one, take1, List.take_nil, Con.start, go_sem]; rfl) | rfl) ?_
  generalize hR : List.take rl (List.drop r0 xs) = R
  have hRl : R.length = rl := by rw [← hR, List.length_take, List.length_drop]; omega
  refine Tri.seq (Tri.regT (cfgE_ok.pins _) ?_)
  repeat (first | refine RunT.oneA (hp := by simp (maxSteps := 2000000) (disch := first | decide | omega | (simp only [List.length_append, List.length_cons, List.length_nil, List.length_take, List.length_drop]; omega)) only [Tryd.f70, kSumH, kAdd, cfgE, tyTab, hasT, Con.ofO, argO, argO1, heapO, heapO1, fldF, blkF, OK.cnt, OK.cnt1, FK.cnt, AK.cnt, argA, heapA, Kd.sz, AV.ofKd, rdO, rdO1, rdOb, rdF, rdT, castK_self, Nat.mul_one, take1, List.take_nil, hR, hRl, go_sem]; rfl) (h := ?_) | refine RunT.notA (h := ?_))
  refine RunT.nil ?_
  refine Tri.seq (Tri.drwT (mixed) (cfgE_ok.pins _) ?_)
  repeat (first | refine RunD.oneA (hp := by simp (maxSteps := 2000000) (disch := first | decide | omega | (simp only [List.length_append, List.length_cons, List.length_nil, List.length_take, List.length_drop]; omega)) only [Tryd.f70, kSumH, kAdd, cfgE, tyTab, hasT, Con.ofO, argO, argO1, heapO, heapO1, fldF, blkF, OK.cnt, OK.cnt1, FK.cnt, AK.cnt, argA, heapA, Kd.sz, AV.ofKd, rdO, rdO1, rdOb, rdF, rdT, castK_self, Nat.mul_one, take1, List.take_nil, hR, hRl, go_sem]; rfl) (h := ?_) | refine RunD.notA (h := ?_))
  refine RunD.nil ?_
  refine ⟨by kernel_rfl, ?_⟩
  refine Tri.seq (Tri.regT (cfgE_ok.pins _) ?_)
  repeat (first | refine RunT.oneA (hp := by simp (maxSteps := 2000000) (disch := first | decide | omega | (simp only [List.length_append, List.length_cons, List.length_nil, List.length_take, List.length_drop]; omega)) only [Tryd.f70, kSumH, kAdd, cfgE, tyTab, hasT, Con.ofO, argO, argO1, heapO, heapO1, fldF, blkF, OK.cnt, OK.cnt1, FK.cnt, AK.cnt, argA, heapA, Kd.sz, AV.ofKd, rdO, rdO1, rdOb, rdF, rdT, castK_self, Nat.mul_one, take1, List.take_nil, hR, hRl, go_sem]; rfl) (h := ?_) | refine RunT.notA (h := ?_))
  refine RunT.nil ?_
  obtain ⟨Z, hZ⟩ : ∃ Z : List UInt8, Z = Kd.dflt h32 := ⟨_, rfl⟩
  have hp64 : padZ rl < 64 := by unfold padZ; omega
  refine Tri.seq (Tri.block ?_)
  refine Tri.loop (fun j : Nat => (⟨[some (.ptr 0 [] 0), none, some (.ptr 2 [] 0), some (.ptr 4 [] 0), some (.tsl 5 [] 0 0 1 (j + 1))] ++ List.replicate 73 none, [.live (.agg [.pure w8 st, .tsl 1 [] r0 r0 1 rl, .int .u64 cn]), .live (.pure (.arr N (.int .u8)) xs), .live (.pure h32 Z), .live (.pure (.arr rl (.int .u8)) R), .live (.agg [.pure w8 st, .tsl 3 [] 0 0 1 rl, .int .u64 0]), .live (.pure (.arr (j + 1) (.int .u8)) (128 :: List.replicate j 0))]⟩ : AS)) (fun j => j ≤ padZ rl) (fun k => padZ rl - k) 0 ?_ (Nat.zero_le _) ?_
  · refine Wk.of ?_ ?_ rfl rfl
    · simp only [lessTs, List.reduceReplicate, List.cons_append, List.nil_append] <;> ((repeat' apply And.intro) <;> first | rfl | trivial)
    · refine ⟨rfl, rfl, ?_, arrEq (by omega) rfl, rfl, rfl, trivial⟩
      rw [hZ]
      rfl
  · intro j hj
    have htk : List.take (j + 1) (128 :: List.replicate j (0 : UInt8)) = 128 :: List.replicate j 0 := List.take_of_length_le (by simp)
    generalize hT : (128 :: List.replicate j (0 : UInt8)) = T at htk
    refine Tri.seq (Tri.seq ?_)
    refine Tri.at (by first | (simp only [Tryd.f70, kSumH, kAdd, cfgE, tyTab, hasT, Con.ofO, argO, argO1, heapO, heapO1, fldF, blkF, OK.cnt, OK.cnt1, FK.cnt, AK.cnt, argA, heapA, Kd.sz, AV.ofKd, rdO, rdO1, rdOb, rdF, rdT, castK_self, Nat.mul_one, take1, List.take_nil, hR, hRl, htk, Con.start, go_sem]; rfl) | rfl) ?_
    refine (Tri.rgnT (cfgE_ok.pins _) ?_)
    repeat (first | refine RunT.oneA (hp := by simp (maxSteps := 2000000) (disch := first | decide | omega | (simp only [List.length_append, List.length_cons, List.length_nil, List.length_take, List.length_drop]; omega)) only [Tryd.f70, kSumH, kAdd, cfgE, tyTab, hasT, Con.ofO, argO, argO1, heapO, heapO1, fldF, blkF, OK.cnt, OK.cnt1, FK.cnt, AK.cnt, argA, heapA, Kd.sz, AV.ofKd, rdO, rdO1, rdOb, rdF, rdT, castK_self, Nat.mul_one, take1, List.take_nil, hR, hRl, htk, go_sem]; rfl) (h := ?_) | refine RunT.notA (h := ?_))
    refine RunT.nil ?_
    try simp only [InBlock, Then]
    refine Tri.split (by simp only [AS.ev, go_sem]; rfl) (fun hc => ?_) (fun hc => ?_)
    · have hc' : ¬ (rl + (j + 1) + 8) % 64 = 0 := by
        have : ¬ (((rl + (j + 1) + 8) % 64 : Nat) : Int) = 0 := by simpa using hc
        omega
      refine Tri.skp ?_
      refine Tri.block ?_
      refine (Tri.rgnT (cfgE_ok.pins _) ?_)
      repeat (first | refine RunT.oneA (hp := by simp (maxSteps := 2000000) (disch := first | decide | omega | (simp only [List.length_append, List.length_cons, List.length_nil, List.length_take, List.length_drop]; omega)) only [Tryd.f70, kSumH, kAdd, cfgE, tyTab, hasT, Con.ofO, argO, argO1, heapO, heapO1, fldF, blkF, OK.cnt, OK.cnt1, FK.cnt, AK.cnt, argA, heapA, Kd.sz, AV.ofKd, rdO, rdO1, rdOb, rdF, rdT, castK_self, Nat.mul_one, take1, List.take_nil, hR, hRl, htk, go_sem]; rfl) (h := ?_) | refine RunT.notA (h := ?_))
      refine RunT.nil ?_
      try simp only [InBlock, Then]
      refine ⟨j + 1, (by unfold padZ at *; omega), (by unfold padZ at *; omega), Wk.of ?_ ?_ rfl rfl⟩
      · simp only [lessTs, List.reduceReplicate, List.cons_append, List.nil_append] <;> ((repeat' apply And.intro) <;> first | rfl | trivial)
      · refine ⟨rfl, rfl, rfl, rfl, rfl, arrEq rfl ?_, trivial⟩
        rw [← hT, List.replicate_succ']
        rfl
    · have hc' : (rl + (j + 1) + 8) % 64 = 0 := by
        have : (((rl + (j + 1) + 8) % 64 : Nat) : Int) = 0 := by simpa using hc
        omega
      have hz : j = padZ rl := by unfold padZ at *; omega
      refine Tri.exit ?_
      simp only [Then, InBlock, if_true]
      refine Tri.seq (Tri.regT (cfgE_ok.pins _) ?_)
      repeat (first | refine RunT.oneA (hp := by simp (maxSteps := 2000000) (disch := first | decide | omega | (simp only [List.length_append, List.length_cons, List.length_nil, List.length_take, List.length_drop]; omega)) only [Tryd.f70, kSumH, kAdd, cfgE, tyTab, hasT, Con.ofO, argO, argO1, heapO, heapO1, fldF, blkF, OK.cnt, OK.cnt1, FK.cnt, AK.cnt, argA, heapA, Kd.sz, AV.ofKd, rdO, rdO1, rdOb, rdF, rdT, castK_self, Nat.mul_one, take1, List.take_nil, hR, hRl, htk, go_sem]; rfl) (h := ?_) | refine RunT.notA (h := ?_))
      refine RunT.nil ?_
      refine Tri.seq (Tri.seq ?_)
      refine (Tri.rgnT (cfgE_ok.pins _) ?_)
      repeat (first | refine RunT.oneA (hp := by simp (maxSteps := 2000000) (disch := first | decide | omega | (simp only [List.length_append, List.length_cons, List.length_nil, List.length_take, List.length_drop]; omega)) only [Tryd.f70, kSumH, kAdd, cfgE, tyTab, hasT, Con.ofO, argO, argO1, heapO, heapO1, fldF, blkF, OK.cnt, OK.cnt1, FK.cnt, AK.cnt, argA, heapA, Kd.sz, AV.ofKd, rdO, rdO1, rdOb, rdF, rdT, castK_self, Nat.mul_one, take1, List.take_nil, hR, hRl, htk, go_sem]; rfl) (h := ?_) | refine RunT.notA (h := ?_))
      refine RunT.nil ?_
      try simp only [InBlock, Then]
      refine Tri.block ?_
      have hTl : T.length = j + 1 := by rw [← hT]; simp
      have hT0 : T = t0S rl := by rw [← hT, hz]; rfl
      refine Tri.loop (fun k : Nat => (⟨[some (.ptr 0 [] 0), none, some (.ptr 2 [] 0), some (.ptr 4 [] 0), some (.tsl 5 [] 0 0 1 (j + 1 + k)), some (.int .u64 (cn * 8)), some (.int .i64 (7 - (k : Int)))] ++ List.replicate 71 none, [.live (.agg [.pure w8 st, .tsl 1 [] r0 r0 1 rl, .int .u64 cn]), .live (.pure (.arr N (.int .u8)) xs), .live (.pure h32 Z), .live (.pure (.arr rl (.int .u8)) R), .live (.agg [.pure w8 st, .tsl 3 [] 0 0 1 rl, .int .u64 0]), .live (.pure (.arr (j + 1 + k) (.int .u8)) (tlI T (cn * 8) k))]⟩ : AS)) (fun k => k ≤ 8) (fun k => 8 - k) 0 ?_ (Nat.zero_le _) ?_
      · refine Wk.of ?_ ?_ rfl rfl
        · simp only [lessTs, List.reduceReplicate, List.cons_append, List.nil_append] <;> ((repeat' apply And.intro) <;> first | rfl | trivial)
        · simp only [lessHs] <;> ((repeat' apply And.intro) <;> first | rfl | trivial)
      · intro k hk
        generalize hU : tlI T (cn * 8) k = U
        have hUl : U.length = j + 1 + k := by rw [← hU, tlI_len, hTl]
        have htu : List.take (j + 1 + k) U = U := List.take_of_length_le (by omega)
        refine Tri.seq (Tri.seq ?_)
        refine Tri.at (by first | (simp only [Tryd.f70, kSumH, kAdd, cfgE, tyTab, hasT, Con.ofO, argO, argO1, heapO, heapO1, fldF, blkF, OK.cnt, OK.cnt1, FK.cnt, AK.cnt, argA, heapA, Kd.sz, AV.ofKd, rdO, rdO1, rdOb, rdF, rdT, castK_self, Nat.mul_one, take1, List.take_nil, hR, hRl, htk, Con.start, go_sem]; rfl) | rfl) ?_
        refine (Tri.rgnT (cfgE_ok.pins _) ?_)
        repeat (first | refine RunT.oneA (hp := by simp (maxSteps := 2000000) (disch := first | decide | omega | (simp only [List.length_append, List.length_cons, List.length_nil, List.length_take, List.length_drop]; omega)) only [Tryd.f70, kSumH, kAdd, cfgE, tyTab, hasT, Con.ofO, argO, argO1, heapO, heapO1, fldF, blkF, OK.cnt, OK.cnt1, FK.cnt, AK.cnt, argA, heapA, Kd.sz, AV.ofKd, rdO, rdO1, rdOb, rdF, rdT, castK_self, Nat.mul_one, take1, List.take_nil, hR, hRl, htk, go_sem]; rfl) (h := ?_) | refine RunT.notA (h := ?_))
        refine RunT.nil ?_
        try simp only [InBlock, Then]
        refine Tri.split (by simp only [AS.ev, go_sem]; rfl) (fun hd => ?_) (fun hd => ?_)
        · have hd' : k < 8 := by
            have : ¬ ((7 : Int) - (k : Int) < 0) := by simpa using hd
            omega
          obtain ⟨m, hm⟩ : ∃ m : Nat, (7 : Int) - (k : Int) = (m : Int) := ⟨7 - k, by omega⟩
          have hm7 : m = 7 - k := by omega
          refine Tri.skp ?_
          refine Tri.seq (Tri.block ?_)
          refine Tri.at (by first | (simp only [Tryd.f70, kSumH, kAdd, cfgE, tyTab, hasT, Con.ofO, argO, argO1, heapO, heapO1, fldF, blkF, OK.cnt, OK.cnt1, FK.cnt, AK.cnt, argA, heapA, Kd.sz, AV.ofKd, rdO, rdO1, rdOb, rdF, rdT, castK_self, Nat.mul_one, take1, List.take_nil, hR, hRl, htu, hm, Con.start, go_sem]; rfl) | rfl) ?_
          refine (Tri.rgnT (cfgE_ok.pins _) ?_)
          repeat (first | refine RunT.oneA (hp := by simp (maxSteps := 2000000) (disch := first | decide | omega | (simp only [List.length_append, List.length_cons, List.length_nil, List.length_take, List.length_drop]; omega)) only [Tryd.f70, kSumH, kAdd, cfgE, tyTab, hasT, Con.ofO, argO, argO1, heapO, heapO1, fldF, blkF, OK.cnt, OK.cnt1, FK.cnt, AK.cnt, argA, heapA, Kd.sz, AV.ofKd, rdO, rdO1, rdOb, rdF, rdT, castK_self, Nat.mul_one, take1, List.take_nil, hR, hRl, htu, hm, go_sem]; rfl) (h := ?_) | refine RunT.notA (h := ?_))
          refine RunT.nil ?_
          try simp only [InBlock, Then]
          refine (Tri.rgnT (cfgE_ok.pins _) ?_)
          repeat (first | refine RunT.oneA (hp := by simp (maxSteps := 2000000) (disch := first | decide | omega | (simp only [List.length_append, List.length_cons, List.length_nil, List.length_take, List.length_drop]; omega)) only [Tryd.f70, kSumH, kAdd, cfgE, tyTab, hasT, Con.ofO, argO, argO1, heapO, heapO1, fldF, blkF, OK.cnt, OK.cnt1, FK.cnt, AK.cnt, argA, heapA, Kd.sz, AV.ofKd, rdO, rdO1, rdOb, rdF, rdT, castK_self, Nat.mul_one, take1, List.take_nil, hR, hRl, htu, hm, go_sem]; rfl) (h := ?_) | refine RunT.notA (h := ?_))
          refine RunT.nil ?_
          try simp only [InBlock, Then]
          refine ⟨k + 1, (by omega), (by omega), Wk.of ?_ ?_ rfl rfl⟩
          · have hm1 : (m : Int) - 1 = 7 - ((k + 1 : Nat) : Int) := by omega
            simp only [lessTs, List.reduceReplicate, List.cons_append, List.nil_append, hm1] <;> ((repeat' apply And.intro) <;> first | rfl | trivial)
          · refine ⟨rfl, rfl, rfl, rfl, rfl, arrEq rfl ?_, trivial⟩
            rw [tlI, hU, hm7]
        · have hd' : k = 8 := by
            have : (7 : Int) - (k : Int) < 0 := by simpa using hd
            omega
          subst hd'
          refine Tri.exit ?_
          simp only [Then, InBlock, if_true]
          have htR : List.take rl R = R := List.take_of_length_le (by omega)
          refine Tri.seq (Tri.regT (cfgE_ok.pins _) ?_)
          repeat (first | refine RunT.oneA (hp := by simp (maxSteps := 2000000) (disch := first | decide | omega | (simp only [List.length_append, List.length_cons, List.length_nil, List.length_take, List.length_drop]; omega)) only [Tryd.f70, kSumH, kAdd, cfgE, tyTab, hasT, Con.ofO, argO, argO1, heapO, heapO1, fldF, blkF, OK.cnt, OK.cnt1, FK.cnt, AK.cnt, argA, heapA, Kd.sz, AV.ofKd, rdO, rdO1, rdOb, rdF, rdT, castK_self, Nat.mul_one, take1, List.take_nil, hR, hRl, htu, htR, hUl, addA, go_sem]; rfl) (h := ?_) | refine RunT.notA (h := ?_))
          refine RunT.nil ?_
          generalize hs2 : adS st (R ++ U) ((rl + (j + 1 + 8)) / 64) = s2
          have hout : sumS st R rl cn = ouI s2 8 := by
            rw [← hs2, ← hU, hT0, hz]
            rfl
          refine Tri.seq (Tri.seq ?_)
          refine Tri.at (by first | (simp only [Tryd.f70, kSumH, kAdd, cfgE, tyTab, hasT, Con.ofO, argO, argO1, heapO, heapO1, fldF, blkF, OK.cnt, OK.cnt1, FK.cnt, AK.cnt, argA, heapA, Kd.sz, AV.ofKd, rdO, rdO1, rdOb, rdF, rdT, castK_self, Nat.mul_one, take1, List.take_nil, hR, hRl, Con.start, go_sem]; rfl) | rfl) ?_
          refine (Tri.rgnT (cfgE_ok.pins _) ?_)
          repeat (first | refine RunT.oneA (hp := by simp (maxSteps := 2000000) (disch := first | decide | omega | (simp only [List.length_append, List.length_cons, List.length_nil, List.length_take, List.length_drop]; omega)) only [Tryd.f70, kSumH, kAdd, cfgE, tyTab, hasT, Con.ofO, argO, argO1, heapO, heapO1, fldF, blkF, OK.cnt, OK.cnt1, FK.cnt, AK.cnt, argA, heapA, Kd.sz, AV.ofKd, rdO, rdO1, rdOb, rdF, rdT, castK_self, Nat.mul_one, take1, List.take_nil, hR, hRl, go_sem]; rfl) (h := ?_) | refine RunT.notA (h := ?_))
          refine RunT.nil ?_
          try simp only [InBlock, Then]
          refine Tri.block ?_
          refine Tri.loop (fun i : Nat => (⟨[some (.ptr 0 [] 0), none, some (.ptr 2 [] 0), none, none, none, none, none, none, none, none, none, none, none, none, none, none, none, none, none, none, none, none, none, none, none, none, none, none, none, none, none, none, none, none, none, none, none, none, none, none, none, none, none, none, none, none, none, none, none, none, none, none, none, none, none, some (.pure w8 s2), some (.int .i64 (i : Int))] ++ List.replicate 20 none, [.live (.agg [.pure w8 st, .tsl 1 [] r0 r0 1 rl, .int .u64 cn]), .live (.pure (.arr N (.int .u8)) xs), .live (.pure h32 (ouI s2 i))]⟩ : AS)) (· ≤ 8) (fun k => 8 - k) 0 ?_ (Nat.zero_le _) ?_
          · refine Wk.of ?_ ?_ rfl rfl
            · simp only [lessTs, List.reduceReplicate, List.cons_append, List.nil_append, ouI, hZ] <;> ((repeat' apply And.intro) <;> first | rfl | trivial)
            · simp only [lessHs, ouI, hZ] <;> ((repeat' apply And.intro) <;> first | rfl | trivial)
          · intro i hi
            generalize hO : ouI s2 i = O
            refine Tri.at (by first | (simp only [Tryd.f70, kSumH, kAdd, cfgE, tyTab, hasT, Con.ofO, argO, argO1, heapO, heapO1, fldF, blkF, OK.cnt, OK.cnt1, FK.cnt, AK.cnt, argA, heapA, Kd.sz, AV.ofKd, rdO, rdO1, rdOb, rdF, rdT, castK_self, Nat.mul_one, take1, List.take_nil, hR, hRl, Con.start, go_sem]; rfl) | rfl) ?_
            refine Tri.seq (Tri.regT (cfgE_ok.pins _) ?_)
            repeat (first | refine RunT.oneA (hp := by simp (maxSteps := 2000000) (disch := first | decide | omega | (simp only [List.length_append, List.length_cons, List.length_nil, List.length_take, List.length_drop]; omega)) only [Tryd.f70, kSumH, kAdd, cfgE, tyTab, hasT, Con.ofO, argO, argO1, heapO, heapO1, fldF, blkF, OK.cnt, OK.cnt1, FK.cnt, AK.cnt, argA, heapA, Kd.sz, AV.ofKd, rdO, rdO1, rdOb, rdF, rdT, castK_self, Nat.mul_one, take1, List.take_nil, hR, hRl, go_sem]; rfl) (h := ?_) | refine RunT.notA (h := ?_))
            refine RunT.nil ?_
            refine Tri.seq ?_
            refine Tri.split (by simp only [AS.ev, go_sem]; rfl) (fun he => ?_) (fun he => ?_)
            · have he' : i < 8 := by have := of_decide_eq_true he; omega
              refine Tri.skp ?_
              refine Tri.seq (Tri.block ?_)
              refine Tri.seq (Tri.regT (cfgE_ok.pins _) ?_)
              repeat (first | refine RunT.oneA (hp := by simp (maxSteps := 2000000) (disch := first | decide | omega | (simp only [List.length_append, List.length_cons, List.length_nil, List.length_take, List.length_drop]; omega)) only [Tryd.f70, kSumH, kAdd, cfgE, tyTab, hasT, Con.ofO, argO, argO1, heapO, heapO1, fldF, blkF, OK.cnt, OK.cnt1, FK.cnt, AK.cnt, argA, heapA, Kd.sz, AV.ofKd, rdO, rdO1, rdOb, rdF, rdT, castK_self, Nat.mul_one, take1, List.take_nil, hR, hRl, go_sem]; rfl) (h := ?_) | refine RunT.notA (h := ?_))
              refine RunT.nil ?_
              generalize hX : s2.getD i 0 = X
              refine Tri.seq (Tri.regT (cfgE_ok.pins _) ?_)
              repeat (first | refine RunT.oneA (hp := by simp (maxSteps := 2000000) (disch := first | decide | omega | (simp only [List.length_append, List.length_cons, List.length_nil, List.length_take, List.length_drop]; omega)) only [Tryd.f70, kSumH, kAdd, cfgE, tyTab, hasT, Con.ofO, argO, argO1, heapO, heapO1, fldF, blkF, OK.cnt, OK.cnt1, FK.cnt, AK.cnt, argA, heapA, Kd.sz, AV.ofKd, rdO, rdO1, rdOb, rdF, rdT, castK_self, Nat.mul_one, take1, List.take_nil, hR, hRl, go_sem]; rfl) (h := ?_) | refine RunT.notA (h := ?_))
              refine RunT.nil ?_
              refine Tri.block ?_
              refine Tri.loop (fun k : Nat => (⟨[some (.ptr 0 [] 0), none, some (.ptr 2 [] 0), none, none, none, none, some (.int .i64 (i : Int)), some (.int .u32 X), none, none, none, none, none, none, none, none, none, none, none, none, none, none, none, none, none, none, none, none, none, none, none, none, none, none, none, none, none, none, none, none, none, none, none, none, none, none, none, none, none, none, none, none, none, none, none, some (.pure w8 s2), some (.int .i64 (i : Int)), none, none, none, some (.int .i64 (k : Int))] ++ List.replicate 16 none, [.live (.agg [.pure w8 st, .tsl 1 [] r0 r0 1 rl, .int .u64 cn]), .live (.pure (.arr N (.int .u8)) xs), .live (.pure h32 (ouK X O i k))]⟩ : AS)) (· ≤ 4) (fun k => 4 - k) 0 ?_ (Nat.zero_le _) ?_
              · refine Wk.of ?_ ?_ rfl rfl
                · simp only [lessTs, List.reduceReplicate, List.cons_append, List.nil_append, ouK] <;> ((repeat' apply And.intro) <;> first | rfl | trivial)
                · simp only [lessHs, ouK] <;> ((repeat' apply And.intro) <;> first | rfl | trivial)
              · intro k hk
                refine Tri.at (by first | (simp only [Tryd.f70, kSumH, kAdd, cfgE, tyTab, hasT, Con.ofO, argO, argO1, heapO, heapO1, fldF, blkF, OK.cnt, OK.cnt1, FK.cnt, AK.cnt, argA, heapA, Kd.sz, AV.ofKd, rdO, rdO1, rdOb, rdF, rdT, castK_self, Nat.mul_one, take1, List.take_nil, hR, hRl, Con.start, go_sem]; rfl) | rfl) ?_
                refine Tri.seq (Tri.regT (cfgE_ok.pins _) ?_)
                repeat (first | refine RunT.oneA (hp := by simp (maxSteps := 2000000) (disch := first | decide | omega | (simp only [List.length_append, List.length_cons, List.length_nil, List.length_take, List.length_drop]; omega)) only [Tryd.f70, kSumH, kAdd, cfgE, tyTab, hasT, Con.ofO, argO, argO1, heapO, heapO1, fldF, blkF, OK.cnt, OK.cnt1, FK.cnt, AK.cnt, argA, heapA, Kd.sz, AV.ofKd, rdO, rdO1, rdOb, rdF, rdT, castK_self, Nat.mul_one, take1, List.take_nil, hR, hRl, go_sem]; rfl) (h := ?_) | refine RunT.notA (h := ?_))
                refine RunT.nil ?_
                refine Tri.seq ?_
                refine Tri.split (by simp only [AS.ev, go_sem]; rfl) (fun hf => ?_) (fun hf => ?_)
                · have hf' : k < 4 := by have := of_decide_eq_true hf; omega
                  obtain ⟨m, hm⟩ : ∃ m : Nat, (3 : Int) - (k : Int) = (m : Int) := ⟨3 - k, by omega⟩
                  have hm3 : m = 3 - k := by omega
                  refine Tri.skp ?_
                  refine Tri.seq (Tri.block ?_)
                  refine Tri.seq (Tri.regT (cfgE_ok.pins _) ?_)
                  repeat (first | refine RunT.oneA (hp := by simp (maxSteps := 2000000) (disch := first | decide | omega | (simp only [List.length_append, List.length_cons, List.length_nil, List.length_take, List.length_drop]; omega)) only [Tryd.f70, kSumH, kAdd, cfgE, tyTab, hasT, Con.ofO, argO, argO1, heapO, heapO1, fldF, blkF, OK.cnt, OK.cnt1, FK.cnt, AK.cnt, argA, heapA, Kd.sz, AV.ofKd, rdO, rdO1, rdOb, rdF, rdT, castK_self, Nat.mul_one, take1, List.take_nil, hR, hRl, hm, go_sem]; rfl) (h := ?_) | refine RunT.notA (h := ?_))
                  refine RunT.nil ?_
                  refine (Tri.rgnT (cfgE_ok.pins _) ?_)
                  repeat (first | refine RunT.oneA (hp := by simp (maxSteps := 2000000) (disch := first | decide | omega | (simp only [List.length_append, List.length_cons, List.length_nil, List.length_take, List.length_drop]; omega)) only [Tryd.f70, kSumH, kAdd, cfgE, tyTab, hasT, Con.ofO, argO, argO1, heapO, heapO1, fldF, blkF, OK.cnt, OK.cnt1, FK.cnt, AK.cnt, argA, heapA, Kd.sz, AV.ofKd, rdO, rdO1, rdOb, rdF, rdT, castK_self, Nat.mul_one, take1, List.take_nil, hR, hRl, hm, go_sem]; rfl) (h := ?_) | refine RunT.notA (h := ?_))
                  refine RunT.nil ?_
                  try simp only [InBlock, Then]
                  refine (Tri.rgnT (cfgE_ok.pins _) ?_)
                  repeat (first | refine RunT.oneA (hp := by simp (maxSteps := 2000000) (disch := first | decide | omega | (simp only [List.length_append, List.length_cons, List.length_nil, List.length_take, List.length_drop]; omega)) only [Tryd.f70, kSumH, kAdd, cfgE, tyTab, hasT, Con.ofO, argO, argO1, heapO, heapO1, fldF, blkF, OK.cnt, OK.cnt1, FK.cnt, AK.cnt, argA, heapA, Kd.sz, AV.ofKd, rdO, rdO1, rdOb, rdF, rdT, castK_self, Nat.mul_one, take1, List.take_nil, hR, hRl, hm, go_sem]; rfl) (h := ?_) | refine RunT.notA (h := ?_))
                  refine RunT.nil ?_
                  try simp only [InBlock, Then]
                  refine ⟨k+1, (by omega), (by omega), Wk.of ?_ ?_ rfl rfl⟩
                  · simp only [lessTs, List.reduceReplicate, List.cons_append, List.nil_append, ouK, ← hm3] <;> ((repeat' apply And.intro) <;> first | rfl | trivial)
                  · simp only [lessHs, ouK, ← hm3] <;> ((repeat' apply And.intro) <;> first | rfl | trivial)
                · have hf' : k = 4 := by have := of_decide_eq_false hf; omega
                  subst hf'
                  refine Tri.exit ?_
                  simp only [Then, InBlock, if_true]
                  refine (Tri.rgnT (cfgE_ok.pins _) ?_)
                  repeat (first | refine RunT.oneA (hp := by simp (maxSteps := 2000000) (disch := first | decide | omega | (simp only [List.length_append, List.length_cons, List.length_nil, List.length_take, List.length_drop]; omega)) only [Tryd.f70, kSumH, kAdd, cfgE, tyTab, hasT, Con.ofO, argO, argO1, heapO, heapO1, fldF, blkF, OK.cnt, OK.cnt1, FK.cnt, AK.cnt, argA, heapA, Kd.sz, AV.ofKd, rdO, rdO1, rdOb, rdF, rdT, castK_self, Nat.mul_one, take1, List.take_nil, hR, hRl, go_sem]; rfl) (h := ?_) | refine RunT.notA (h := ?_))
                  refine RunT.nil ?_
                  try simp only [InBlock, Then]
                  refine ⟨i+1, (by omega), (by omega), Wk.of ?_ ?_ rfl rfl⟩
                  · simp only [lessTs, List.reduceReplicate, List.cons_append, List.nil_append, ouI, hO, hX] <;> ((repeat' apply And.intro) <;> first | rfl | trivial)
                  · simp only [lessHs, ouI, hO, hX] <;> ((repeat' apply And.intro) <;> first | rfl | trivial)
            · have he' : i = 8 := by have := of_decide_eq_false he; omega
              subst he'
              refine Tri.exit ?_
              simp only [Then, InBlock, if_true]
              refine Tri.seq (Tri.regT (cfgE_ok.pins _) ?_)
              repeat (first | refine RunT.oneA (hp := by simp (maxSteps := 2000000) (disch := first | decide | omega | (simp only [List.length_append, List.length_cons, List.length_nil, List.length_take, List.length_drop]; omega)) only [Tryd.f70, kSumH, kAdd, cfgE, tyTab, hasT, Con.ofO, argO, argO1, heapO, heapO1, fldF, blkF, OK.cnt, OK.cnt1, FK.cnt, AK.cnt, argA, heapA, Kd.sz, AV.ofKd, rdO, rdO1, rdOb, rdF, rdT, castK_self, Nat.mul_one, take1, List.take_nil, hR, hRl, go_sem]; rfl) (h := ?_) | refine RunT.notA (h := ?_))
              refine RunT.nil ?_
              refine Tri.ret ?_
              refine Con.fin (.inl rfl) (by simp only [Tryd.f70, cfgE, tyTab, resA, resA1, go_sem]; rfl) (by simp only [Obs, and_true, true_and]) ?_ ?_ rfl rfl
              · have e : (kSumH.out ((st, ⟨N, r0, rl, xs⟩, cn, u0), u)).v = .pure h32 O := by
                  show AV.pure h32 (sumS st (List.take rl (List.drop r0 xs)) rl cn) = _
                  rw [hR, hout, hO]
                rw [e]
                rfl
              · exact ⟨rfl, rfl, trivial⟩
theorem sumH_sum : FSumOK Tryd.prog cfgE.G 70 kSumH.sum := Con.sumOK cfgE_ok kSumH Tryd.func70 rfl rfl (Con.ofO_inv _ _ _ _) sumH_body
end Go.Proofs.YtlnkfdblkdhdgaaDoor

namespace Go.Proofs.YtlnkfdblkdhdgaaDoor
open Go.Vc Go.Proofs
theorem adS_app (s : List UInt32) (A B : List UInt8) : ∀ k, 64 * k ≤ A.length → adS s (A ++ B) k = adS s A k
  | 0, _ => rfl
  | k + 1, h => by
    simp only [adS, adS_app s A B k (by omega)]
    rw [List.drop_append_of_le_length (by omega), List.take_append_of_le_length (by rw [List.length_drop]; omega)]
theorem adS_drop (s : List UInt32) (A : List UInt8) (q : Nat) : ∀ k, adS (adS s A q) (A.drop (64 * q)) k = adS s A (q + k)
  | 0 => rfl
  | k + 1 => by
    show mixS (adS (adS s A q) (A.drop (64 * q)) k) _ = mixS (adS s A (q + k)) _
    rw [adS_drop s A q k, List.drop_drop, show 64 * q + 64 * k = 64 * (q + k) by omega]
    rfl
structure HS where
  st : List UInt32
  N : Nat
  i : Nat
  len : Nat
  xs : List UInt8
  cn : UInt64
structure HS.OK (h : HS) (m : List UInt8) : Prop where
  st : h.st = adS stt0 m (m.length / 64)
  rest : List.take h.len (List.drop h.i h.xs) = m.drop (64 * (m.length / 64))
  len : h.len = m.length - 64 * (m.length / 64)
  in_ : h.i + h.len ≤ h.N
  xs : h.xs.length = h.N
  cn : h.cn = UInt64.ofInt (m.length : Int)
theorem stt0_len : stt0.length = 8 := rfl
theorem HS.OK.st8 {h : HS} {m : List UInt8} (k : h.OK m) : h.st.length = 8 := by rw [k.st]; exact adS_len _ stt0_len _
def HS.new : HS := ⟨stt0, 0, 0, 0, [], 0⟩
theorem HS.new_ok : HS.new.OK [] := ⟨rfl, rfl, rfl, Nat.le_refl _, rfl, rfl⟩
def HS.add (h : HS) (b : List UInt8) : HS :=
  let A := List.take h.len (List.drop h.i h.xs) ++ b
  let M := h.len + b.length
  ⟨adS h.st A (M / 64), M, 64 * (M / 64), M - 64 * (M / 64), A, h.cn + UInt64.ofInt (b.length : Int)⟩
theorem u64_add (a b : Nat) : UInt64.ofInt (a : Int) + UInt64.ofInt (b : Int) = UInt64.ofInt ((a + b : Nat) : Int) := by
  rw [Int.natCast_add, UInt64.ofInt_add]
theorem HS.OK.add {h : HS} {m b : List UInt8} (k : h.OK m) : (h.add b).OK (m ++ b) := by
  have hl : (List.take h.len (List.drop h.i h.xs)).length = h.len := by
    rw [k.rest, List.length_drop, k.len]
  have hq : 64 * (m.length / 64) ≤ m.length := by omega
  have e1 : (m ++ b).drop (64 * (m.length / 64)) = m.drop (64 * (m.length / 64)) ++ b := List.drop_append_of_le_length hq
  have e2 : (m ++ b).length / 64 = m.length / 64 + (h.len + b.length) / 64 := by rw [List.length_append, k.len]; omega
  have e3 : h.len + b.length - 64 * ((h.len + b.length) / 64) = (m ++ b).length - 64 * ((m ++ b).length / 64) := by rw [List.length_append, k.len]; omega
  refine ⟨?_, ?_, e3, ?_, ?_, ?_⟩
  · show adS h.st (List.take h.len (List.drop h.i h.xs) ++ b) ((h.len + b.length) / 64) = _
    rw [k.rest, ← e1, k.st, e2, ← adS_drop stt0 (m ++ b) (m.length / 64), adS_app stt0 m b _ hq]
  · show List.take (h.len + b.length - 64 * ((h.len + b.length) / 64)) (List.drop (64 * ((h.len + b.length) / 64)) (List.take h.len (List.drop h.i h.xs) ++ b)) = _
    rw [k.rest, ← e1, List.drop_drop, show 64 * (m.length / 64) + 64 * ((h.len + b.length) / 64) = 64 * ((m ++ b).length / 64) by omega]
    refine List.take_of_length_le ?_
    rw [List.length_drop]
    omega
  · show 64 * ((h.len + b.length) / 64) + (h.len + b.length - 64 * ((h.len + b.length) / 64)) ≤ h.len + b.length
    omega
  · show (List.take h.len (List.drop h.i h.xs) ++ b).length = h.len + b.length
    rw [List.length_append, hl]
  · show h.cn + UInt64.ofInt (b.length : Int) = _
    rw [k.cn, u64_add, List.length_append]
def dig (m : List UInt8) : List UInt8 := ouI (adS stt0 (m ++ tailS m.length (UInt64.ofInt (m.length : Int) * 8)) ((m.length + (padZ m.length + 1 + 8)) / 64)) 8
theorem HS.OK.sum {h : HS} {m : List UInt8} (k : h.OK m) : sumS h.st (List.take h.len (List.drop h.i h.xs)) h.len h.cn = dig m := by
  have hq : 64 * (m.length / 64) ≤ m.length := by omega
  have hp : padZ h.len = padZ m.length := by rw [k.len]; unfold padZ; omega
  unfold sumS dig
  have ht : tailS h.len (h.cn * 8) = tailS m.length (UInt64.ofInt (m.length : Int) * 8) := by
    unfold tailS t0S
    rw [hp, k.cn]
  rw [ht, k.rest, hp]
  generalize tailS m.length (UInt64.ofInt (m.length : Int) * 8) = t
  have e1 : (m ++ t).drop (64 * (m.length / 64)) = m.drop (64 * (m.length / 64)) ++ t := List.drop_append_of_le_length hq
  rw [← e1, k.st, ← adS_app stt0 m t _ hq, adS_drop]
  have : m.length / 64 + (h.len + (padZ m.length + 1 + 8)) / 64 = (m.length + (padZ m.length + 1 + 8)) / 64 := by rw [k.len]; omega
  rw [this]
theorem HS.OK.small {h : HS} {m : List UInt8} (k : h.OK m) : h.len < 64 := by rw [k.len]; omega
end Go.Proofs.YtlnkfdblkdhdgaaDoor

namespace Go.Proofs.YtlnkfdblkdhdgaaDoor
open Go.Vc Go.Proofs
set_option maxRecDepth 10000
set_option maxHeartbeats 4000000
def hsM (st : List UInt32) (N i len : Nat) (xs : List UInt8) (cn : UInt64) : HS := ⟨st, N, i, len, xs, cn⟩
theorem hsM_eta (h : HS) : hsM h.st h.N h.i h.len h.xs h.cn = h := rfl
def HS.sum (h : HS) : List UInt8 := sumS h.st (List.take h.len (List.drop h.i h.xs)) h.len h.cn
theorem HS.OK.sum' {h : HS} {m : List UInt8} (k : h.OK m) : h.sum = dig m := k.sum
def HS.fit (h : HS) : Prop := h.st.length = 8 ∧ h.i + h.len ≤ h.N ∧ h.len < 64 ∧ h.xs.length = h.N
theorem HS.OK.fit {h : HS} {m : List UInt8} (k : h.OK m) : h.st.length = 8 ∧ h.i + h.len ≤ h.N ∧ h.len < 64 ∧ h.xs.length = h.N := ⟨k.st8, k.in_, k.small, k.xs⟩
abbrev HS.hd (h : HS) (j : Nat) : AV := .agg [.pure w8 h.st, .tsl j [] h.i h.i 1 h.len, .int .u64 h.cn]
abbrev HS.bl (h : HS) : AV := .pure (.arr h.N (.int .u8)) h.xs
def kNewF : Con := Con.of [] (fun _ => []) (fun _ => ⟨.ptr 0 [] 0, [.agg [.pure w8 HS.new.st, .tsl 1 [] HS.new.i HS.new.i 1 HS.new.len, .int .u64 HS.new.cn], .pure (.arr HS.new.N (.int .u8)) HS.new.xs]⟩)
theorem kNewF_eq : kNewF = kNewH := rfl
theorem newF_sum : FSumOK Tryd.prog shaG 68 kNewF.sum := kNewF_eq ▸ newH_sum
def kAddF : Con := Con.ofO [.o hasF, .a (.v (.slice false (.int .u8)))] [1]
  (fun x => [List.length (α := UInt32) x.1.1 = 8, x.1.2.1.i + x.1.2.1.len ≤ x.1.2.1.N, x.1.2.1.len + List.length (α := UInt8) x.2.1 ≤ 1048576])
  (fun x => ⟨.tuple [], [.agg [.pure w8 ((hsM x.1.1 x.1.2.1.N x.1.2.1.i x.1.2.1.len x.1.2.1.xs x.1.2.2.1).add x.2.1).st, .tsl 1 [] ((hsM x.1.1 x.1.2.1.N x.1.2.1.i x.1.2.1.len x.1.2.1.xs x.1.2.2.1).add x.2.1).i ((hsM x.1.1 x.1.2.1.N x.1.2.1.i x.1.2.1.len x.1.2.1.xs x.1.2.2.1).add x.2.1).i 1 ((hsM x.1.1 x.1.2.1.N x.1.2.1.i x.1.2.1.len x.1.2.1.xs x.1.2.2.1).add x.2.1).len, .int .u64 ((hsM x.1.1 x.1.2.1.N x.1.2.1.i x.1.2.1.len x.1.2.1.xs x.1.2.2.1).add x.2.1).cn],
    .pure (.arr ((hsM x.1.1 x.1.2.1.N x.1.2.1.i x.1.2.1.len x.1.2.1.xs x.1.2.2.1).add x.2.1).N (.int .u8)) ((hsM x.1.1 x.1.2.1.N x.1.2.1.i x.1.2.1.len x.1.2.1.xs x.1.2.2.1).add x.2.1).xs]⟩)
theorem kAddF_eq : kAddF = kAdd := rfl
theorem addF_sum : FSumOK Tryd.prog shaG 69 kAddF.sum := kAddF_eq ▸ add_sum
def kSumF : Con := Con.ofO [.o hasF] []
  (fun x => [List.length (α := UInt32) x.1.1 = 8, x.1.2.1.i + x.1.2.1.len ≤ x.1.2.1.N, x.1.2.1.len ≤ 1000000, List.length (α := UInt8) x.1.2.1.xs = x.1.2.1.N])
  (fun x => ⟨.pure h32 (hsM x.1.1 x.1.2.1.N x.1.2.1.i x.1.2.1.len x.1.2.1.xs x.1.2.2.1).sum, [.agg [.pure w8 (hsM x.1.1 x.1.2.1.N x.1.2.1.i x.1.2.1.len x.1.2.1.xs x.1.2.2.1).st, .tsl 1 [] (hsM x.1.1 x.1.2.1.N x.1.2.1.i x.1.2.1.len x.1.2.1.xs x.1.2.2.1).i (hsM x.1.1 x.1.2.1.N x.1.2.1.i x.1.2.1.len x.1.2.1.xs x.1.2.2.1).i 1 (hsM x.1.1 x.1.2.1.N x.1.2.1.i x.1.2.1.len x.1.2.1.xs x.1.2.2.1).len, .int .u64 (hsM x.1.1 x.1.2.1.N x.1.2.1.i x.1.2.1.len x.1.2.1.xs x.1.2.2.1).cn], .pure (.arr (hsM x.1.1 x.1.2.1.N x.1.2.1.i x.1.2.1.len x.1.2.1.xs x.1.2.2.1).N (.int .u8)) (hsM x.1.1 x.1.2.1.N x.1.2.1.i x.1.2.1.len x.1.2.1.xs x.1.2.2.1).xs]⟩)
theorem kSumF_eq : kSumF = kSumH := rfl
theorem sumF_sum : FSumOK Tryd.prog shaG 70 kSumF.sum := kSumF_eq ▸ sumH_sum
attribute [go_sem] hsM_eta kNewF kAddF kSumF Con.ofO argO argO1 heapO heapO1 fldF blkF OK.cnt OK.cnt1 FK.cnt rdO rdO1 rdOb rdF rdT castK_self Nat.mul_one take1 List.take_nil
end Go.Proofs.YtlnkfdblkdhdgaaDoor

namespace Go.Proofs.YtlnkfdblkdhdgaaDoor
open Go.Vc Go.Proofs
set_option maxRecDepth 10000
set_option maxHeartbeats 4000000
def cfgG : Cfg2 := { ty := tyTab, fn := fun | 68 => some kNewH.sum | 69 => some kAdd.sum | 70 => some kSumH.sum | _ => none, G := shaG, pin := [], eq := fun _ => none }
theorem cfgG_ok : CfgOK Tryd.prog cfgG := ⟨tysOK, (fun f s h => by
  simp only [cfgG] at h
  split at h
  · injection h with h; subst h; exact .inl newH_sum
  · injection h with h; subst h; exact .inl add_sum
  · injection h with h; subst h; exact .inl sumH_sum
  · cases h), (fun t d h => by cases h)⟩
def kSum : Con := Con.of [.v (.slice false (.int .u8))] (fun x => [List.length (α := UInt8) x.1 ≤ 900000]) (fun x => ⟨.pure h32 (dig x.1), []⟩)
theorem sum_body (p : kSum.Par) (hp : ∀ q ∈ kSum.pre p, q) : BodyOK Tryd.prog cfgG Tryd.f42 (Tryd.f42.body.get rfl) kSum p := by
  obtain ⟨(b : List UInt8), u⟩ := p
  obtain ⟨hb, _⟩ := Obs.of hp
  replace hb : b.length ≤ 900000 := hb
  refine ⟨?_, Nat.zero_le _, rfl, rfl⟩
  show Tri _ _ _ (Code.seq _ (Code.seq _ (Code.seq _ (Code.seq _ _)))) _
  refine Tri.at (by first | (simp only [Tryd.f42, kSum, kNewH, kAdd, kSumH, cfgG, tyTab, hasT, Con.ofO, argO, argO1, heapO, heapO1, fldF, blkF, OK.cnt, OK.cnt1, FK.cnt, AK.cnt, argA, heapA, Kd.sz, AV.ofKd, rdO, rdO1, rdOb, rdF, rdT, castK_self, Nat.mul_one, take1, List.take_nil, Con.start, go_sem]; rfl) | rfl) ?_
  refine Tri.seq (Tri.regT (cfgG_ok.pins _) ?_)
  repeat (first | refine RunT.oneA (hp := by simp (maxSteps := 2000000) (disch := first | decide | omega | (simp only [List.length_append, List.length_cons, List.length_nil, List.length_take, List.length_drop]; omega)) only [Tryd.f42, kSum, kNewH, kAdd, kSumH, cfgG, tyTab, hasT, Con.ofO, argO, argO1, heapO, heapO1, fldF, blkF, OK.cnt, OK.cnt1, FK.cnt, AK.cnt, argA, heapA, Kd.sz, AV.ofKd, rdO, rdO1, rdOb, rdF, rdT, castK_self, Nat.mul_one, take1, List.take_nil, go_sem]; rfl) (h := ?_) | refine RunT.notA (h := ?_))
  refine RunT.nil ?_
  obtain ⟨h0, hh0⟩ : ∃ h, h = HS.new := ⟨_, rfl⟩
  have k0 : h0.OK [] := by rw [hh0]; exact HS.new_ok
  refine Tri.seq (Tri.regT (cfgG_ok.pins _) ?_)
  repeat (first | refine RunT.oneA (hp := by simp (maxSteps := 2000000) (disch := first | decide | omega | (simp only [List.length_append, List.length_cons, List.length_nil, List.length_take, List.length_drop]; omega)) only [Tryd.f42, kSum, kNewH, kAdd, kSumH, cfgG, tyTab, hasT, Con.ofO, argO, argO1, heapO, heapO1, fldF, blkF, OK.cnt, OK.cnt1, FK.cnt, AK.cnt, argA, heapA, Kd.sz, AV.ofKd, rdO, rdO1, rdOb, rdF, rdT, castK_self, Nat.mul_one, take1, List.take_nil, go_sem]; rfl) (h := ?_) | refine RunT.notA (h := ?_))
  refine RunT.nil ?_
  have ks := k0.st8
  have kl := k0.small
  have ki := k0.in_
  refine Tri.weak (S' := (⟨[some (.pure (.slice false (.int .u8)) b), none, some (.ptr 0 [] 0), some (.ptr 1 [] 0)] ++ List.replicate 6 none, [.live (.pure h32 (Kd.dflt h32)), .live (.agg [.pure w8 h0.st, .tsl 2 [] h0.i h0.i 1 h0.len, .int .u64 h0.cn]), .live (.pure (.arr h0.N (.int .u8)) h0.xs)]⟩ : AS)) (by
    rw [hh0]
    refine Wk.of ?_ ?_ rfl rfl
    · simp only [lessTs, List.reduceReplicate, List.cons_append, List.nil_append] <;> ((repeat' apply And.intro) <;> first | rfl | trivial)
    · exact ⟨rfl, rfl, rfl, trivial⟩) ?_
  refine Tri.at (by first | (simp only [Tryd.f42, kSum, kNewH, kAdd, kSumH, cfgG, tyTab, hasT, Con.ofO, argO, argO1, heapO, heapO1, fldF, blkF, OK.cnt, OK.cnt1, FK.cnt, AK.cnt, argA, heapA, Kd.sz, AV.ofKd, rdO, rdO1, rdOb, rdF, rdT, castK_self, Nat.mul_one, take1, List.take_nil, Con.start, go_sem]; rfl) | rfl) ?_
  refine Tri.seq (Tri.regT (cfgG_ok.pins _) ?_)
  repeat (first | refine RunT.oneA (hp := by simp (maxSteps := 2000000) (disch := first | decide | omega | (simp only [List.length_append, List.length_cons, List.length_nil, List.length_take, List.length_drop]; omega)) only [Tryd.f42, kSum, kNewH, kAdd, kSumH, cfgG, tyTab, hasT, Con.ofO, argO, argO1, heapO, heapO1, fldF, blkF, OK.cnt, OK.cnt1, FK.cnt, AK.cnt, argA, heapA, Kd.sz, AV.ofKd, rdO, rdO1, rdOb, rdF, rdT, castK_self, Nat.mul_one, take1, List.take_nil, go_sem]; rfl) (h := ?_) | refine RunT.notA (h := ?_))
  refine RunT.nil ?_
  obtain ⟨h1, hh1⟩ : ∃ h, h = h0.add b := ⟨_, rfl⟩
  have k1 : h1.OK b := by rw [hh1]; exact k0.add
  have ks1 := k1.st8
  have kl1 := k1.small
  have ki1 := k1.in_
  have kx1 := k1.xs
  have kq1 := k1.sum
  refine Tri.weak (S' := (⟨[some (.pure (.slice false (.int .u8)) b), none, some (.ptr 0 [] 0), some (.ptr 1 [] 0)] ++ List.replicate 6 none, [.live (.pure h32 (Kd.dflt h32)), .live (.agg [.pure w8 h1.st, .tsl 2 [] h1.i h1.i 1 h1.len, .int .u64 h1.cn]), .live (.pure (.arr h1.N (.int .u8)) h1.xs)]⟩ : AS)) (by
    rw [hh1]
    refine Wk.of ?_ ?_ rfl rfl
    · simp only [lessTs, List.reduceReplicate, List.cons_append, List.nil_append] <;> ((repeat' apply And.intro) <;> first | rfl | trivial)
    · exact ⟨rfl, rfl, rfl, trivial⟩) ?_
  refine Tri.at (by first | (simp only [Tryd.f42, kSum, kNewH, kAdd, kSumH, cfgG, tyTab, hasT, Con.ofO, argO, argO1, heapO, heapO1, fldF, blkF, OK.cnt, OK.cnt1, FK.cnt, AK.cnt, argA, heapA, Kd.sz, AV.ofKd, rdO, rdO1, rdOb, rdF, rdT, castK_self, Nat.mul_one, take1, List.take_nil, kq1, Con.start, go_sem]; rfl) | rfl) ?_
  refine Tri.seq (Tri.regT (cfgG_ok.pins _) ?_)
  repeat (first | refine RunT.oneA (hp := by simp (maxSteps := 2000000) (disch := first | decide | omega | (simp only [List.length_append, List.length_cons, List.length_nil, List.length_take, List.length_drop]; omega)) only [Tryd.f42, kSum, kNewH, kAdd, kSumH, cfgG, tyTab, hasT, Con.ofO, argO, argO1, heapO, heapO1, fldF, blkF, OK.cnt, OK.cnt1, FK.cnt, AK.cnt, argA, heapA, Kd.sz, AV.ofKd, rdO, rdO1, rdOb, rdF, rdT, castK_self, Nat.mul_one, take1, List.take_nil, kq1, go_sem]; rfl) (h := ?_) | refine RunT.notA (h := ?_))
  refine RunT.nil ?_
  refine Tri.ret ?_
  refine Con.fin (.inl rfl) (by simp only [Tryd.f42, cfgG, tyTab, resA, resA1, go_sem]; rfl) (by simp only [Obs, and_true, true_and]) rfl trivial rfl rfl
theorem sum_sum : FSumOK Tryd.prog cfgG.G 42 kSum.sum := Con.sumOK cfgG_ok kSum Tryd.func42 rfl rfl (Con.of_inv _ _ _) sum_body
end Go.Proofs.YtlnkfdblkdhdgaaDoor

namespace Go.Proofs.YtlnkfdblkdhdgaaDoor
open Go.Vc Go.Proofs
set_option maxRecDepth 10000
set_option maxHeartbeats 4000000
def rvS (xs : List UInt8) : Nat → List UInt8
  | 0 => xs
  | i + 1 => ((rvS xs i).set i ((rvS xs i).getD (xs.length - 1 - i) 0)).set (xs.length - 1 - i) ((rvS xs i).getD i 0)
theorem rvS_len (xs : List UInt8) : ∀ i, (rvS xs i).length = xs.length
  | 0 => rfl
  | i + 1 => by simp only [rvS, List.length_set, rvS_len xs i]
theorem getD_set' (l : List UInt8) (i k : Nat) (x : UInt8) (hk : k < l.length) : (l.set i x).getD k 0 = if i = k then x else l.getD k 0 := by
  simp only [List.getD_eq_getElem?_getD, List.getElem?_set]
  split
  · rename_i e; subst e; rw [if_pos hk]; rfl
  · rfl
theorem rvS_get (xs : List UInt8) : ∀ i, 2 * i ≤ xs.length + 1 → ∀ k, k < xs.length → (rvS xs i).getD k 0 = if k < i ∨ xs.length - 1 - k < i then xs.getD (xs.length - 1 - k) 0 else xs.getD k 0
  | 0, _, k, _ => by simp [rvS]
  | i + 1, hi, k, hk => by
    have h1 := rvS_get xs i (by omega) k hk
    have h2 := rvS_get xs i (by omega) (xs.length - 1 - i) (by omega)
    have h3 := rvS_get xs i (by omega) i (by omega)
    rw [rvS, getD_set' _ _ _ _ (by rw [List.length_set, rvS_len]; exact hk), getD_set' _ _ _ _ (by rw [rvS_len]; exact hk), h1, h2, h3]
    by_cases e1 : xs.length - 1 - i = k
    · rw [if_pos e1]
      subst e1
      rw [show xs.length - 1 - (xs.length - 1 - i) = i by omega]
      rw [if_pos (by omega : xs.length - 1 - i < i + 1 ∨ i < i + 1)]
      split
      · rename_i h; rw [show xs.length - 1 - i = i by omega]
      · rfl
    · rw [if_neg e1]
      by_cases e2 : i = k
      · subst e2
        rw [if_pos rfl, if_pos (by omega : i < i + 1 ∨ xs.length - 1 - i < i + 1), if_neg (by omega)]
      · rw [if_neg e2]
        by_cases h : k < i ∨ xs.length - 1 - k < i
        · rw [if_pos h, if_pos (by omega)]
        · rw [if_neg h, if_neg (by omega)]
theorem rvS_rev (xs : List UInt8) (i : Nat) (h1 : 2 * i ≤ xs.length + 1) (h2 : xs.length ≤ 2 * i + 1) : rvS xs i = xs.reverse := by
  apply List.ext_getElem
  · rw [rvS_len, List.length_reverse]
  · intro k hk hk'
    have hk0 : k < xs.length := by rw [rvS_len] at hk; exact hk
    have h := rvS_get xs i h1 k hk0
    rw [List.getD_eq_getElem?_getD, List.getElem?_eq_getElem hk, Option.getD_some] at h
    rw [h, List.getElem_reverse]
    split
    · rw [List.getD_eq_getElem?_getD, List.getElem?_eq_getElem (by omega), Option.getD_some]
    · rename_i hn
      have e : xs.length - 1 - k = k := by omega
      simp only [e]
      rw [List.getD_eq_getElem?_getD, List.getElem?_eq_getElem hk0, Option.getD_some]
attribute [go_sem] Con.ofO argO argO1 heapO heapO1 fldF blkF OK.cnt OK.cnt1 FK.cnt rdO rdO1 rdOb rdF rdT castK_self Nat.mul_one take1 List.take_nil
def cfgR1 : Cfg2 := { ty := tyTab, fn := fun  | _ => none, G := shaG, pin := [], eq := fun _ => none }
theorem cfgR1_ok : CfgOK Tryd.prog cfgR1 := ⟨tysOK, (fun f s h => by cases h), (fun t d h => by cases h)⟩
def kRev : Con := Con.ofO [.t (.int .u8)] [] (fun x => [x.1.i = 0, x.1.len = x.1.N, List.length (α := UInt8) x.1.xs = x.1.N, x.1.N ≤ 1000000]) (fun x => ⟨.tuple [], [.pure (.arr x.1.N (.int .u8)) (List.reverse (α := UInt8) x.1.xs)]⟩)
section
attribute [local go_sem] Tryd.f105 kRev cfgR1 tyTab
theorem rev_body (p : kRev.Par) (hp : ∀ q ∈ kRev.pre p, q) : BodyOK Tryd.prog cfgR1 Tryd.f105 (Tryd.f105.body.get rfl) kRev p := by
  obtain ⟨⟨N, i0, len, (xs : List UInt8)⟩, u⟩ := p
  obtain ⟨h0, h1, h2, h3, _⟩ := Obs.of hp
  replace h0 : i0 = 0 := h0
  replace h1 : len = N := h1
  replace h2 : xs.length = N := h2
  replace h3 : N ≤ 1000000 := h3
  subst h0 h1 h2
  refine ⟨?_, Nat.le_refl _, rfl, rfl⟩
  show Tri _ _ _ (Code.seq _ (Code.block _ (Code.loop (Code.seq (Code.seq _ (Code.cond _ _ _)) (Code.seq (Code.block _ _) _))))) _
  refine Tri.at (by first | (simp only [go_sem, Con.start, go_sem]; rfl) | rfl) ?_
  repeat (first | ((first | refine Tri.seq (Tri.regT (cfgR1_ok.pins _) ?_) | refine Tri.rgnT (cfgR1_ok.pins _) ?_); (repeat (first | refine RunT.oneA (hp := by simp (maxSteps := 2000000) (disch := first | decide | omega | (simp only [List.length_append, List.length_cons, List.length_nil, List.length_take, List.length_drop]; omega)) only [go_sem, go_sem]; rfl) (h := ?_) | refine RunT.notA (h := ?_))); refine RunT.nil ?_; try simp only [InBlock, Then]) | ((first | refine Tri.seq (Tri.drwT (mixed) (cfgR1_ok.pins _) ?_) | refine Tri.drnT (mixed) (cfgR1_ok.pins _) ?_); (repeat (first | refine RunD.oneA (hp := by simp (maxSteps := 2000000) (disch := first | decide | omega | (simp only [List.length_append, List.length_cons, List.length_nil, List.length_take, List.length_drop]; omega)) only [go_sem, go_sem]; rfl) (h := ?_) | refine RunD.notA (h := ?_))); refine RunD.nil ?_; refine ⟨by kernel_rfl, ?_⟩; try simp only [InBlock, Then]) | refine Tri.cF (by first | (simp only [go_sem, go_sem]; done) | fail) ?_ | refine Tri.cT (by first | (simp only [go_sem, go_sem]; done) | fail) ?_ | (refine Tri.skip ?_; try simp only [InBlock, Then]) | (refine Tri.exit ?_; simp only [Then, InBlock, if_true, if_false, ↓reduceIte, Nat.reduceEqDiff]) | refine Tri.seq (Tri.block ?_) | refine Tri.block ?_ | refine Tri.seq ?_ | (refine Tri.ret ?_; refine Con.fin (.inl rfl) (by simp only [Tryd.f105, cfgR1, resA, resA1, go_sem]; rfl) (by simp only [Obs, and_true, true_and]) (by first | (simp only [kRev, Con.of, Con.ofO, resV, go_sem, go_sem]; done) | fail) trivial rfl rfl))
  refine Tri.loop (fun i : Nat => (⟨[some (.tsl 0 [] 0 0 1 xs.length), none, some (.int .i64 (i : Int)), some (.int .i64 ((xs.length : Int) - 1 - (i : Int)))] ++ List.replicate 24 none, [.live (.pure (.arr xs.length (.int .u8)) (rvS xs i))]⟩ : AS)) (fun i => 2 * i ≤ xs.length + 1) (fun i => xs.length + 1 - i) 0 ?_ (Nat.zero_le _) ?_
  · refine Wk.of ?_ ?_ rfl rfl
    · simp only [lessTs, List.reduceReplicate, List.cons_append, List.nil_append, rvS] <;> ((repeat' apply And.intro) <;> first | with_reducible rfl | exact True.intro | exact congrArg (fun z : Int => some (AV.int IntKind.i64 z)) (show (_ : Int) = _ by omega) | exact congrArg (fun z : Nat => some (AV.tsl _ _ _ _ _ z)) (show (_ : Nat) = _ by omega) | exact arrEq (by omega) (by with_reducible rfl))
    · simp only [lessHs, rvS] <;> ((repeat' apply And.intro) <;> first | with_reducible rfl | exact True.intro | exact congrArg (fun z : Int => some (AV.int IntKind.i64 z)) (show (_ : Int) = _ by omega) | exact congrArg (fun z : Nat => some (AV.tsl _ _ _ _ _ z)) (show (_ : Nat) = _ by omega) | exact arrEq (by omega) (by with_reducible rfl))
  · intro i hi
    generalize hY : rvS xs i = Y
    by_cases hc : (i : Int) < (xs.length : Int) - 1 - (i : Int)
    · have hc' : decide ((i : Int) < (xs.length : Int) - 1 - (i : Int)) = true := decide_eq_true hc
      obtain ⟨m, hm⟩ : ∃ m : Nat, (xs.length : Int) - 1 - (i : Int) = (m : Int) := ⟨xs.length - 1 - i, by omega⟩
      have hm1 : m = xs.length - 1 - i := by omega
      rw [hm] at hc'
      refine Tri.at (by first | (simp only [hc', hm, Con.start, go_sem]; rfl) | rfl) ?_
      repeat (first | ((first | refine Tri.seq (Tri.regT (cfgR1_ok.pins _) ?_) | refine Tri.rgnT (cfgR1_ok.pins _) ?_); (repeat (first | refine RunT.oneA (hp := by simp (maxSteps := 2000000) (disch := first | decide | omega | (simp only [List.length_append, List.length_cons, List.length_nil, List.length_take, List.length_drop]; omega)) only [hc', hm, go_sem]; rfl) (h := ?_) | refine RunT.notA (h := ?_))); refine RunT.nil ?_; try simp only [InBlock, Then]) | ((first | refine Tri.seq (Tri.drwT (mixed) (cfgR1_ok.pins _) ?_) | refine Tri.drnT (mixed) (cfgR1_ok.pins _) ?_); (repeat (first | refine RunD.oneA (hp := by simp (maxSteps := 2000000) (disch := first | decide | omega | (simp only [List.length_append, List.length_cons, List.length_nil, List.length_take, List.length_drop]; omega)) only [hc', hm, go_sem]; rfl) (h := ?_) | refine RunD.notA (h := ?_))); refine RunD.nil ?_; refine ⟨by kernel_rfl, ?_⟩; try simp only [InBlock, Then]) | refine Tri.cF (by first | (simp only [hc', hm, go_sem]; done) | fail) ?_ | refine Tri.cT (by first | (simp only [hc', hm, go_sem]; done) | fail) ?_ | (refine Tri.skip ?_; try simp only [InBlock, Then]) | (refine Tri.exit ?_; simp only [Then, InBlock, if_true, if_false, ↓reduceIte, Nat.reduceEqDiff]) | refine Tri.seq (Tri.block ?_) | refine Tri.block ?_ | refine Tri.seq ?_ | (refine Tri.ret ?_; refine Con.fin (.inl rfl) (by simp only [Tryd.f105, cfgR1, resA, resA1, go_sem]; rfl) (by simp only [Obs, and_true, true_and]) (by first | (simp only [kRev, Con.of, Con.ofO, resV, hc', hm, go_sem]; done) | fail) trivial rfl rfl))
      refine ⟨i + 1, (by omega), (by omega), Wk.of ?_ ?_ rfl rfl⟩
      · simp only [lessTs, List.reduceReplicate, List.cons_append, List.nil_append, show (m : Int) - 1 = (xs.length : Int) - 1 - ((i + 1 : Nat) : Int) by omega] <;> ((repeat' apply And.intro) <;> first | with_reducible rfl | exact True.intro | exact congrArg (fun z : Int => some (AV.int IntKind.i64 z)) (show (_ : Int) = _ by omega) | exact congrArg (fun z : Nat => some (AV.tsl _ _ _ _ _ z)) (show (_ : Nat) = _ by omega) | exact arrEq (by omega) (by with_reducible rfl))
      · simp only [lessHs, rvS, hY, hm1] <;> ((repeat' apply And.intro) <;> first | with_reducible rfl | exact True.intro | exact congrArg (fun z : Int => some (AV.int IntKind.i64 z)) (show (_ : Int) = _ by omega) | exact congrArg (fun z : Nat => some (AV.tsl _ _ _ _ _ z)) (show (_ : Nat) = _ by omega) | exact arrEq (by omega) (by with_reducible rfl))
    · have hc' : decide ((i : Int) < (xs.length : Int) - 1 - (i : Int)) = false := decide_eq_false hc
      refine Tri.at (by first | (simp only [hc', Con.start, go_sem]; rfl) | rfl) ?_
      repeat (first | ((first | refine Tri.seq (Tri.regT (cfgR1_ok.pins _) ?_) | refine Tri.rgnT (cfgR1_ok.pins _) ?_); (repeat (first | refine RunT.oneA (hp := by simp (maxSteps := 2000000) (disch := first | decide | omega | (simp only [List.length_append, List.length_cons, List.length_nil, List.length_take, List.length_drop]; omega)) only [hc', go_sem]; rfl) (h := ?_) | refine RunT.notA (h := ?_))); refine RunT.nil ?_; try simp only [InBlock, Then]) | ((first | refine Tri.seq (Tri.drwT (mixed) (cfgR1_ok.pins _) ?_) | refine Tri.drnT (mixed) (cfgR1_ok.pins _) ?_); (repeat (first | refine RunD.oneA (hp := by simp (maxSteps := 2000000) (disch := first | decide | omega | (simp only [List.length_append, List.length_cons, List.length_nil, List.length_take, List.length_drop]; omega)) only [hc', go_sem]; rfl) (h := ?_) | refine RunD.notA (h := ?_))); refine RunD.nil ?_; refine ⟨by kernel_rfl, ?_⟩; try simp only [InBlock, Then]) | refine Tri.cF (by first | (simp only [hc', go_sem]; done) | fail) ?_ | refine Tri.cT (by first | (simp only [hc', go_sem]; done) | fail) ?_ | (refine Tri.skip ?_; try simp only [InBlock, Then]) | (refine Tri.exit ?_; simp only [Then, InBlock, if_true, if_false, ↓reduceIte, Nat.reduceEqDiff]) | refine Tri.seq (Tri.block ?_) | refine Tri.block ?_ | refine Tri.seq ?_ | (refine Tri.ret ?_; refine Con.fin (.inl rfl) (by simp only [Tryd.f105, cfgR1, resA, resA1, go_sem]; rfl) (by simp only [Obs, and_true, true_and]) (by first | (simp only [kRev, Con.of, Con.ofO, resV, hc', go_sem]; done) | fail) trivial rfl rfl))
      refine Con.fin (.inr rfl) (by simp only [Tryd.f105, cfgR1, resA, resA1, go_sem]; rfl) (by simp only [Obs, and_true, true_and]) rfl ?_ rfl rfl
      exact ⟨arrEq rfl (by rw [← hY]; exact rvS_rev xs i (by omega) (by omega)), trivial⟩
theorem rev_sum : FSumOK Tryd.prog cfgR1.G 105 kRev.sum := Con.sumOK cfgR1_ok kRev Tryd.func105 rfl rfl (Con.ofO_inv _ _ _ _) rev_body
end
def leN : Nat → UInt64 → List UInt8
  | 0, _ => []
  | k + 1, n => if n = 0 then [] else n.toUInt8 :: leN k (n >>> 8)
def numS (n : UInt64) : List UInt8 := (leN 8 n).reverse
theorem leN_len : ∀ k n, (leN k n).length ≤ k
  | 0, _ => Nat.le_refl _
  | k + 1, n => by unfold leN; split; exact Nat.zero_le _; rw [List.length_cons]; have := leN_len k (n >>> 8); omega
theorem numS_len (n : UInt64) : (numS n).length ≤ 8 := by rw [numS, List.length_reverse]; exact leN_len 8 n
theorem shr8_lt {n : UInt64} {k : Nat} (h : n.toNat < 256 ^ (k + 1)) : (n >>> 8).toNat < 256 ^ k := by
  have : (n >>> 8).toNat = n.toNat / 256 := by rw [UInt64.toNat_shiftRight]; simp [Nat.shiftRight_eq_div_pow]
  rw [this]
  rw [Nat.pow_succ] at h
  omega
def kNum : Con := Con.of [.v (.int .u64)] (fun _ => []) (fun x => ⟨.tsl 0 [] 0 0 1 (numS x.1).length, [.pure (.arr (numS x.1).length (.int .u8)) (numS x.1)]⟩)
def cfgR2 : Cfg2 := { ty := tyTab, fn := fun | 105 => some kRev.sum | _ => none, G := shaG, pin := [], eq := fun _ => none }
theorem cfgR2_ok : CfgOK Tryd.prog cfgR2 := ⟨tysOK, (fun f s h => by
  simp only [cfgR2] at h
  split at h
  · injection h with h; subst h; exact .inl rev_sum
  · cases h), (fun t d h => by cases h)⟩
section
attribute [local go_sem] Tryd.f66 kNum kRev cfgR2 tyTab
theorem num_body (p : kNum.Par) (hp : ∀ q ∈ kNum.pre p, q) : BodyOK Tryd.prog cfgR2 Tryd.f66 (Tryd.f66.body.get rfl) kNum p := by
  obtain ⟨(n0 : UInt64), u⟩ := p
  refine ⟨?_, Nat.zero_le _, rfl, rfl⟩
  show Tri _ _ _ (Code.seq _ (Code.seq (Code.block _ (Code.loop (Code.seq (Code.seq _ (Code.cond _ _ _)) (Code.seq (Code.block _ _) _)))) (Code.seq _ (Code.seq _ _)))) _
  refine Tri.at (by first | (simp only [List.take_of_length_le, Con.start, go_sem]; rfl) | rfl) ?_
  repeat (first | ((first | refine Tri.seq (Tri.regT (cfgR2_ok.pins _) ?_) | refine Tri.rgnT (cfgR2_ok.pins _) ?_); (repeat (first | refine RunT.oneA (hp := by simp (maxSteps := 2000000) (disch := first | decide | omega | (simp only [List.length_append, List.length_cons, List.length_nil, List.length_take, List.length_drop]; omega)) only [List.take_of_length_le, go_sem]; rfl) (h := ?_) | refine RunT.notA (h := ?_))); refine RunT.nil ?_; try simp only [InBlock, Then]) | ((first | refine Tri.seq (Tri.drwT (mixed) (cfgR2_ok.pins _) ?_) | refine Tri.drnT (mixed) (cfgR2_ok.pins _) ?_); (repeat (first | refine RunD.oneA (hp := by simp (maxSteps := 2000000) (disch := first | decide | omega | (simp only [List.length_append, List.length_cons, List.length_nil, List.length_take, List.length_drop]; omega)) only [List.take_of_length_le, go_sem]; rfl) (h := ?_) | refine RunD.notA (h := ?_))); refine RunD.nil ?_; refine ⟨by kernel_rfl, ?_⟩; try simp only [InBlock, Then]) | refine Tri.cF (by first | (simp only [List.take_of_length_le, go_sem]; done) | fail) ?_ | refine Tri.cT (by first | (simp only [List.take_of_length_le, go_sem]; done) | fail) ?_ | (refine Tri.skip ?_; try simp only [InBlock, Then]) | (refine Tri.exit ?_; simp only [Then, InBlock, if_true, if_false, ↓reduceIte, Nat.reduceEqDiff]) | refine Tri.seq (Tri.block ?_) | refine Tri.block ?_ | refine Tri.seq ?_ | (refine Tri.ret ?_; refine Con.fin (.inl rfl) (by simp only [Tryd.f66, cfgR2, resA, resA1, go_sem]; rfl) (by simp only [Obs, and_true, true_and]) (by first | (simp only [kNum, Con.of, Con.ofO, resV, List.take_of_length_le, go_sem]; done) | fail) trivial rfl rfl))
  refine Tri.phT 2 (.int .u8) 1 rfl rfl ?_
  refine Tri.loop (fun s : UInt64 × List UInt8 => (⟨[some (.int .u64 s.1), none, some (.tsl 0 [] 0 0 1 s.2.length)] ++ List.replicate 12 none, [.live (.pure (.arr s.2.length (.int .u8)) s.2)]⟩ : AS)) (fun s => s.2.length ≤ 8 ∧ s.1.toNat < 256 ^ (8 - s.2.length) ∧ s.2 ++ leN (8 - s.2.length) s.1 = leN 8 n0) (fun s => 8 - s.2.length) (n0, []) ?_ ⟨Nat.zero_le _, UInt64.toNat_lt n0, rfl⟩ ?_
  · refine Wk.of ?_ ?_ rfl rfl
    · simp only [lessTs, List.reduceReplicate, List.cons_append, List.nil_append, List.length_nil] <;> ((repeat' apply And.intro) <;> first | with_reducible rfl | exact True.intro | exact congrArg (fun z : Int => some (AV.int IntKind.i64 z)) (show (_ : Int) = _ by omega) | exact congrArg (fun z : Nat => some (AV.tsl _ _ _ _ _ z)) (show (_ : Nat) = _ by omega) | exact arrEq (by omega) (by with_reducible rfl))
    · simp only [lessHs, List.length_nil] <;> ((repeat' apply And.intro) <;> first | with_reducible rfl | exact True.intro | exact congrArg (fun z : Int => some (AV.int IntKind.i64 z)) (show (_ : Int) = _ by omega) | exact congrArg (fun z : Nat => some (AV.tsl _ _ _ _ _ z)) (show (_ : Nat) = _ by omega) | exact arrEq (by omega) (by with_reducible rfl))
  · intro ⟨n, acc⟩ ⟨ha, hn, he⟩
    replace ha : acc.length ≤ 8 := ha
    replace hn : n.toNat < 256 ^ (8 - acc.length) := hn
    replace he : acc ++ leN (8 - acc.length) n = leN 8 n0 := he
    have htk : List.take acc.length acc = acc := List.take_length
    by_cases hz : n = 0
    · have hz' : decide ((0 : UInt64) < n) = false := by rw [hz]; rfl
      have hl : leN (8 - acc.length) n = [] := by
        subst hz
        cases 8 - acc.length <;> rfl
      rw [hl, List.append_nil] at he
      subst he
      refine Tri.at (by first | (simp only [hz', htk, Con.start, go_sem]; rfl) | rfl) ?_
      repeat (first | ((first | refine Tri.seq (Tri.regT (cfgR2_ok.pins _) ?_) | refine Tri.rgnT (cfgR2_ok.pins _) ?_); (repeat (first | refine RunT.oneA (hp := by simp (maxSteps := 2000000) (disch := first | decide | omega | (simp only [List.length_append, List.length_cons, List.length_nil, List.length_take, List.length_drop]; omega)) only [hz', htk, go_sem]; rfl) (h := ?_) | refine RunT.notA (h := ?_))); refine RunT.nil ?_; try simp only [InBlock, Then]) | ((first | refine Tri.seq (Tri.drwT (mixed) (cfgR2_ok.pins _) ?_) | refine Tri.drnT (mixed) (cfgR2_ok.pins _) ?_); (repeat (first | refine RunD.oneA (hp := by simp (maxSteps := 2000000) (disch := first | decide | omega | (simp only [List.length_append, List.length_cons, List.length_nil, List.length_take, List.length_drop]; omega)) only [hz', htk, go_sem]; rfl) (h := ?_) | refine RunD.notA (h := ?_))); refine RunD.nil ?_; refine ⟨by kernel_rfl, ?_⟩; try simp only [InBlock, Then]) | refine Tri.cF (by first | (simp only [hz', htk, go_sem]; done) | fail) ?_ | refine Tri.cT (by first | (simp only [hz', htk, go_sem]; done) | fail) ?_ | (refine Tri.skip ?_; try simp only [InBlock, Then]) | (refine Tri.exit ?_; simp only [Then, InBlock, if_true, if_false, ↓reduceIte, Nat.reduceEqDiff]) | refine Tri.seq (Tri.block ?_) | refine Tri.block ?_ | refine Tri.seq ?_ | (refine Tri.ret ?_; refine Con.fin (.inl rfl) (by simp only [Tryd.f66, cfgR2, resA, resA1, go_sem]; rfl) (by simp only [Obs, and_true, true_and]) (by first | (simp only [kNum, Con.of, Con.ofO, resV, hz', htk, go_sem]; done) | fail) trivial rfl rfl))
      have e1 : numS n0 = (leN 8 n0).reverse := rfl
      refine Tri.ret ?_
      refine Con.fin (.inl rfl) (by simp only [Tryd.f66, cfgR2, resA, resA1, go_sem]; rfl) (by simp only [Obs, and_true, true_and]) ?_ ?_ rfl rfl
      · show AV.tsl 0 [] 0 0 1 (leN 8 n0).length = AV.tsl 0 [] 0 0 1 (numS n0).length
        rw [e1, List.length_reverse]
      · exact ⟨arrEq (by show (leN 8 n0).length = (numS n0).length; rw [e1, List.length_reverse]) rfl, trivial⟩
    · have hz' : decide ((0 : UInt64) < n) = true := by
        refine decide_eq_true ?_
        rw [UInt64.lt_iff_toNat_lt]
        have : n.toNat ≠ 0 := fun e => hz (UInt64.toNat_inj.1 e)
        show 0 < n.toNat
        omega
      obtain ⟨k, hk⟩ : ∃ k, 8 - acc.length = k + 1 := by
        cases h8 : 8 - acc.length with
        | zero => rw [h8] at hn; have : n.toNat = 0 := by simpa using hn
                  exact absurd (UInt64.toNat_inj.1 this) hz
        | succ k => exact ⟨k, rfl⟩
      refine Tri.at (by first | (simp only [hz', htk, Con.start, go_sem]; rfl) | rfl) ?_
      repeat (first | ((first | refine Tri.seq (Tri.regT (cfgR2_ok.pins _) ?_) | refine Tri.rgnT (cfgR2_ok.pins _) ?_); (repeat (first | refine RunT.oneA (hp := by simp (maxSteps := 2000000) (disch := first | decide | omega | (simp only [List.length_append, List.length_cons, List.length_nil, List.length_take, List.length_drop]; omega)) only [hz', htk, go_sem]; rfl) (h := ?_) | refine RunT.notA (h := ?_))); refine RunT.nil ?_; try simp only [InBlock, Then]) | ((first | refine Tri.seq (Tri.drwT (mixed) (cfgR2_ok.pins _) ?_) | refine Tri.drnT (mixed) (cfgR2_ok.pins _) ?_); (repeat (first | refine RunD.oneA (hp := by simp (maxSteps := 2000000) (disch := first | decide | omega | (simp only [List.length_append, List.length_cons, List.length_nil, List.length_take, List.length_drop]; omega)) only [hz', htk, go_sem]; rfl) (h := ?_) | refine RunD.notA (h := ?_))); refine RunD.nil ?_; refine ⟨by kernel_rfl, ?_⟩; try simp only [InBlock, Then]) | refine Tri.cF (by first | (simp only [hz', htk, go_sem]; done) | fail) ?_ | refine Tri.cT (by first | (simp only [hz', htk, go_sem]; done) | fail) ?_ | (refine Tri.skip ?_; try simp only [InBlock, Then]) | (refine Tri.exit ?_; simp only [Then, InBlock, if_true, if_false, ↓reduceIte, Nat.reduceEqDiff]) | refine Tri.seq (Tri.block ?_) | refine Tri.block ?_ | refine Tri.seq ?_ | (refine Tri.ret ?_; refine Con.fin (.inl rfl) (by simp only [Tryd.f66, cfgR2, resA, resA1, go_sem]; rfl) (by simp only [Obs, and_true, true_and]) (by first | (simp only [kNum, Con.of, Con.ofO, resV, hz', htk, go_sem]; done) | fail) trivial rfl rfl))
      have h8 : 8 - (acc ++ [n.toUInt8]).length = k := by rw [List.length_append]; simp; omega
      refine ⟨(n >>> 8, acc ++ [n.toUInt8]), ⟨?_, ?_, ?_⟩, ?_, Wk.of ?_ ?_ rfl rfl⟩
      · rw [List.length_append]; simp; omega
      · show (n >>> 8).toNat < 256 ^ (8 - (acc ++ [n.toUInt8]).length)
        rw [h8]
        rw [hk] at hn
        exact shr8_lt hn
      · show (acc ++ [n.toUInt8]) ++ leN (8 - (acc ++ [n.toUInt8]).length) (n >>> 8) = _
        rw [h8, ← he, hk]
        conv => rhs; unfold leN
        rw [if_neg hz]
        simp
      · show 8 - (acc ++ [n.toUInt8]).length < 8 - acc.length
        omega
      · simp only [lessTs, List.reduceReplicate, List.cons_append, List.nil_append, List.length_append, List.length_cons, List.length_nil] <;> ((repeat' apply And.intro) <;> first | with_reducible rfl | exact True.intro | exact congrArg (fun z : Int => some (AV.int IntKind.i64 z)) (show (_ : Int) = _ by omega) | exact congrArg (fun z : Nat => some (AV.tsl _ _ _ _ _ z)) (show (_ : Nat) = _ by omega) | exact arrEq (by omega) (by with_reducible rfl))
      · exact ⟨arrEq (by simp) rfl, trivial⟩
theorem num_sum : FSumOK Tryd.prog cfgR2.G 66 kNum.sum := Con.sumOK cfgR2_ok kNum Tryd.func66 rfl rfl (Con.of_inv _ _ _) num_body
end
end Go.Proofs.YtlnkfdblkdhdgaaDoor

namespace Go.Proofs.YtlnkfdblkdhdgaaDoor
open Go.Vc Go.Proofs
set_option maxRecDepth 10000
set_option maxHeartbeats 4000000
def xoI (l : List UInt8) (m : UInt8) : Nat → List UInt8
  | 0 => l
  | i + 1 => (xoI l m i).set i ((xoI l m i).getD i 0 ^^^ m)
theorem xoI_len (l : List UInt8) (m : UInt8) : ∀ i, (xoI l m i).length = l.length
  | 0 => rfl
  | i + 1 => by simp only [xoI, List.length_set, xoI_len l m i]
theorem xoI_map (l : List UInt8) (m : UInt8) : ∀ i, i ≤ l.length → xoI l m i = (l.take i).map (· ^^^ m) ++ l.drop i
  | 0, _ => rfl
  | i + 1, hi => by
    have hh := xoI_map l m i (by omega)
    have hl : ((l.take i).map (· ^^^ m)).length = i := by rw [List.length_map, List.length_take]; omega
    have hi' : i < l.length := hi
    have e : List.take (i + 1) (List.map (· ^^^ m) l) = List.take i (List.map (· ^^^ m) l) ++ [l[i] ^^^ m] := by rw [List.take_add_one]; simp [hi']
    rw [xoI, hh, List.drop_eq_getElem_cons hi', List.getD_eq_getElem?_getD, List.getElem?_append_right (by omega), hl, Nat.sub_self]
    rw [List.set_append_right _ _ (by omega), hl, Nat.sub_self, List.set_cons_zero, ← List.map_take, ← List.map_take] at *
    simp only [List.getElem?_cons_zero, Option.getD_some, List.map_take, e, List.append_assoc, List.cons_append, List.nil_append]
def padK (s : List UInt8) : List UInt8 := s ++ List.replicate (64 - s.length) 0
theorem padK_len {s : List UInt8} (h : s.length ≤ 64) : (padK s).length = 64 := by rw [padK, List.length_append, List.length_replicate]; omega
def xK (s : List UInt8) (m : UInt8) : List UInt8 := (padK s).map (· ^^^ m)
theorem xK_len {s : List UInt8} (h : s.length ≤ 64) (m : UInt8) : (xK s m).length = 64 := by rw [xK, List.length_map, padK_len h]
theorem xoI_xK {s : List UInt8} (h : s.length ≤ 64) (m : UInt8) : xoI (padK s) m 64 = xK s m := by
  have hl := padK_len h
  rw [xoI_map _ _ 64 (by omega), List.take_of_length_le (by omega), List.drop_of_length_le (by omega), List.append_nil, xK]
def kPadM : Con := Con.ofO [.a (.v (.int .u8)), .rd (.slice false (.int .u8))] [] (fun x => [List.length (α := UInt8) x.2.1 ≤ 64])
  (fun x => ⟨.ptr 0 [] 0, [.agg [.pure w8 (HS.new.add (xK x.2.1 x.1)).st, .tsl 1 [] (HS.new.add (xK x.2.1 x.1)).i (HS.new.add (xK x.2.1 x.1)).i 1 (HS.new.add (xK x.2.1 x.1)).len, .int .u64 (HS.new.add (xK x.2.1 x.1)).cn], .pure (.arr (HS.new.add (xK x.2.1 x.1)).N (.int .u8)) (HS.new.add (xK x.2.1 x.1)).xs]⟩)
def cfgM1 : Cfg2 := { ty := tyTab, fn := fun | 68 => some kNewF.sum | 69 => some kAddF.sum | _ => none, G := shaG, pin := [], eq := fun _ => none }
theorem cfgM1_ok : CfgOK Tryd.prog cfgM1 := ⟨tysOK, (fun f s h => by
  simp only [cfgM1] at h
  split at h
  · injection h with h; subst h; exact .inl newF_sum
  · injection h with h; subst h; exact .inl addF_sum
  · cases h), (fun t d h => by cases h)⟩
section
attribute [local go_sem] Tryd.f142 kPadM cfgM1 tyTab hasT
theorem padM_body (p : kPadM.Par) (hp : ∀ q ∈ kPadM.pre p, q) : BodyOK Tryd.prog cfgM1 Tryd.f142 (Tryd.f142.body.get rfl) kPadM p := by
  obtain ⟨(m : UInt8), (s : List UInt8), u⟩ := p
  obtain ⟨h0, _⟩ := Obs.of hp
  replace h0 : s.length ≤ 64 := h0
  refine ⟨?_, Nat.zero_le _, rfl, rfl⟩
  show Tri _ _ _ (Code.seq _ (Code.seq _ (Code.seq _ (Code.seq (Code.seq _ (Code.block _ (Code.loop (Code.seq _ (Code.seq (Code.cond _ _ _) (Code.seq (Code.block _ (Code.seq _ _)) _)))))) (Code.seq _ (Code.seq _ (Code.seq _ _))))))) _
  refine Tri.at (by first | (simp only [List.take_of_length_le, Con.start, go_sem]; rfl) | rfl) ?_
  repeat (first | ((first | refine Tri.seq (Tri.regT (cfgM1_ok.pins _) ?_) | refine Tri.rgnT (cfgM1_ok.pins _) ?_); (repeat (first | refine RunT.oneA (hp := by simp (maxSteps := 2000000) (disch := first | decide | omega | (simp only [List.length_append, List.length_cons, List.length_nil, List.length_take, List.length_drop]; omega)) only [List.take_of_length_le, go_sem]; rfl) (h := ?_) | refine RunT.notA (h := ?_))); refine RunT.nil ?_; try simp only [InBlock, Then]) | refine Tri.cF (by first | (simp only [List.take_of_length_le, go_sem]; done) | fail) ?_ | refine Tri.cT (by first | (simp only [List.take_of_length_le, go_sem]; done) | fail) ?_ | (refine Tri.skip ?_; try simp only [InBlock, Then]) | (refine Tri.exit ?_; simp only [Then, InBlock, if_true, if_false, ↓reduceIte, Nat.reduceEqDiff]) | refine Tri.seq (Tri.block ?_) | refine Tri.block ?_ | refine Tri.seq ?_ | (refine Tri.ret ?_; refine Con.fin (.inl rfl) (by simp only [Tryd.f142, cfgM1, resA, resA1, go_sem]; rfl) (by simp only [Obs, and_true, true_and]) (by first | (simp only [kPadM, Con.of, Con.ofO, resV, List.take_of_length_le, go_sem]; done) | fail) trivial rfl rfl))
  refine Tri.loop (fun i : Nat => (⟨[some (.int .u8 m), none, none, none, some (.tsl 0 [] 0 0 1 64), none, none, none, none, none, none, none, some (.int .i64 64), some (.int .i64 (i : Int))] ++ List.replicate 15 none, [.live (.pure (.arr 64 (.int .u8)) (xoI (padK s) m i))]⟩ : AS)) (fun i => i ≤ 64) (fun i => 64 - i) 0 ?_ (Nat.zero_le _) ?_
  · refine Wk.of ?_ ?_ rfl rfl
    · simp only [lessTs, List.reduceReplicate, List.cons_append, List.nil_append] <;> ((repeat' apply And.intro) <;> first | with_reducible rfl | exact True.intro | exact congrArg (fun z : Int => some (AV.int IntKind.i64 z)) (show (_ : Int) = _ by omega) | exact congrArg (fun z : Nat => some (AV.tsl _ _ _ _ _ z)) (show (_ : Nat) = _ by omega) | exact arrEq (by omega) (by with_reducible rfl))
    refine ⟨arrEq rfl ?_, trivial⟩
    show ([] ++ s ++ List.drop s.length (List.replicate 64 (0 : UInt8))) = padK s
    rw [List.nil_append, List.drop_replicate]
    rfl
  · intro i hi
    have hxl := xoI_len (padK s) m i
    rw [padK_len h0] at hxl
    generalize hX : xoI (padK s) m i = X at hxl
    by_cases h1 : i < 64
    · have h1' : decide ((i : Int) < 64) = true := decide_eq_true (by omega)
      refine Tri.at (by first | (simp only [h1', Con.start, go_sem]; rfl) | rfl) ?_
      repeat (first | ((first | refine Tri.seq (Tri.regT (cfgM1_ok.pins _) ?_) | refine Tri.rgnT (cfgM1_ok.pins _) ?_); (repeat (first | refine RunT.oneA (hp := by simp (maxSteps := 2000000) (disch := first | decide | omega | (simp only [List.length_append, List.length_cons, List.length_nil, List.length_take, List.length_drop]; omega)) only [h1', go_sem]; rfl) (h := ?_) | refine RunT.notA (h := ?_))); refine RunT.nil ?_; try simp only [InBlock, Then]) | refine Tri.cF (by first | (simp only [h1', go_sem]; done) | fail) ?_ | refine Tri.cT (by first | (simp only [h1', go_sem]; done) | fail) ?_ | (refine Tri.skip ?_; try simp only [InBlock, Then]) | (refine Tri.exit ?_; simp only [Then, InBlock, if_true, if_false, ↓reduceIte, Nat.reduceEqDiff]) | refine Tri.seq (Tri.block ?_) | refine Tri.block ?_ | refine Tri.seq ?_ | (refine Tri.ret ?_; refine Con.fin (.inl rfl) (by simp only [Tryd.f142, cfgM1, resA, resA1, go_sem]; rfl) (by simp only [Obs, and_true, true_and]) (by first | (simp only [kPadM, Con.of, Con.ofO, resV, h1', go_sem]; done) | fail) trivial rfl rfl))
      refine ⟨i+1, (by omega), (by omega), Wk.of ?_ ?_ rfl rfl⟩
      · simp only [lessTs, List.reduceReplicate, List.cons_append, List.nil_append, xoI, hX] <;> ((repeat' apply And.intro) <;> first | with_reducible rfl | exact True.intro | exact congrArg (fun z : Int => some (AV.int IntKind.i64 z)) (show (_ : Int) = _ by omega) | exact congrArg (fun z : Nat => some (AV.tsl _ _ _ _ _ z)) (show (_ : Nat) = _ by omega) | exact arrEq (by omega) (by with_reducible rfl))
      · simp only [lessHs, xoI, hX] <;> ((repeat' apply And.intro) <;> first | with_reducible rfl | exact True.intro | exact congrArg (fun z : Int => some (AV.int IntKind.i64 z)) (show (_ : Int) = _ by omega) | exact congrArg (fun z : Nat => some (AV.tsl _ _ _ _ _ z)) (show (_ : Nat) = _ by omega) | exact arrEq (by omega) (by with_reducible rfl))
    · have h1' : decide ((i : Int) < 64) = false := decide_eq_false (by omega)
      have hXe : X = xK s m := by rw [← hX, show i = 64 by omega, xoI_xK h0]
      subst hXe
      clear hX
      have k0 := HS.new_ok.fit
      have k1 := (HS.new_ok.add (b := xK s m)).fit
      refine Tri.at (by first | (simp only [h1', List.take_of_length_le, Con.start, go_sem]; rfl) | rfl) ?_
      repeat (first | ((first | refine Tri.seq (Tri.regT (cfgM1_ok.pins _) ?_) | refine Tri.rgnT (cfgM1_ok.pins _) ?_); (repeat (first | refine RunT.oneA (hp := by simp (maxSteps := 2000000) (disch := first | decide | omega | (simp only [List.length_append, List.length_cons, List.length_nil, List.length_take, List.length_drop]; omega)) only [h1', List.take_of_length_le, go_sem]; rfl) (h := ?_) | refine RunT.notA (h := ?_))); refine RunT.nil ?_; try simp only [InBlock, Then]) | refine Tri.cF (by first | (simp only [h1', List.take_of_length_le, go_sem]; done) | fail) ?_ | refine Tri.cT (by first | (simp only [h1', List.take_of_length_le, go_sem]; done) | fail) ?_ | (refine Tri.skip ?_; try simp only [InBlock, Then]) | (refine Tri.exit ?_; simp only [Then, InBlock, if_true, if_false, ↓reduceIte, Nat.reduceEqDiff]) | refine Tri.seq (Tri.block ?_) | refine Tri.block ?_ | refine Tri.seq ?_ | (refine Tri.ret ?_; refine Con.fin (.inl rfl) (by simp only [Tryd.f142, cfgM1, resA, resA1, go_sem]; rfl) (by simp only [Obs, and_true, true_and]) (by first | (simp only [kPadM, Con.of, Con.ofO, resV, h1', List.take_of_length_le, go_sem]; done) | fail) trivial rfl rfl))
      refine Tri.mv 0 1 (by decide) (by simp only [AS.blk, go_sem]; intro e; cases e) rfl rfl ?_
      refine Tri.at (by first | (simp only [h1', List.take_of_length_le, Con.start, go_sem]; rfl) | rfl) ?_
      refine Tri.mv 1 2 (by decide) (by simp only [AS.blk, go_sem]; intro e; cases e) rfl rfl ?_
      refine Tri.at (by first | (simp only [h1', List.take_of_length_le, Con.start, go_sem]; rfl) | rfl) ?_
      refine Tri.ret ?_
      refine Con.fin (.inl rfl) (by simp only [Tryd.f142, cfgM1, resA, resA1, go_sem]; rfl) (by simp only [Obs, and_true, true_and]) ?_ ?_ rfl rfl
      · rfl
      · exact ⟨rfl, rfl, trivial⟩
theorem padM_sum : FSumOK Tryd.prog cfgM1.G 142 kPadM.sum := Con.sumOK cfgM1_ok kPadM Tryd.func142 rfl rfl (Con.ofO_inv _ _ _ _) padM_body
end
end Go.Proofs.YtlnkfdblkdhdgaaDoor

namespace Go.Proofs.YtlnkfdblkdhdgaaDoor
open Go.Vc Go.Proofs
set_option maxRecDepth 10000
set_option maxHeartbeats 4000000
def keyM (s : List UInt8) : List UInt8 := if 64 < s.length then dig s else s
def macS (s d : List UInt8) : List UInt8 := dig (xK (keyM s) 92 ++ dig (xK (keyM s) 54 ++ d))
theorem dig_len (m : List UInt8) : (dig m).length = 32 := by
  unfold dig
  have h : ∀ (s : List UInt32) (o : List UInt8) (i : Nat) (k : Nat), (ouK (s.getD i 0) o i k).length = o.length := fun s o i k => by
    induction k with
    | zero => rfl
    | succ k ih => simp only [ouK, List.length_set, ih]
  have h2 : ∀ (s : List UInt32) (i : Nat), (ouI s i).length = 32 := fun s i => by
    induction i with
    | zero => rfl
    | succ i ih => simp only [ouI, h, ih]
  exact h2 _ _
theorem keyM_len (s : List UInt8) : (keyM s).length ≤ 64 := by
  unfold keyM
  split
  · rw [dig_len]; decide
  · omega
theorem macH {s d : List UInt8} : ((HS.new.add (xK (keyM s) 92)).add (((HS.new.add (xK (keyM s) 54)).add d).sum)).sum = macS s d := by
  have k1 := (HS.new_ok.add (b := xK (keyM s) 54)).add (b := d)
  rw [k1.sum', List.nil_append]
  have k2 := (HS.new_ok.add (b := xK (keyM s) 92)).add (b := dig (xK (keyM s) 54 ++ d))
  rw [k2.sum', List.nil_append]
  rfl
theorem macS_len (s d : List UInt8) : (macS s d).length = 32 := dig_len _
def kMac : Con := Con.of [.v (.slice false (.int .u8)), .v (.slice false (.int .u8))] (fun x => [List.length (α := UInt8) x.1 ≤ 900000, List.length (α := UInt8) x.2.1 ≤ 900000]) (fun x => ⟨.pure h32 (macS x.1 x.2.1), []⟩)
def cfgM2 : Cfg2 := { ty := tyTab, fn := fun | 42 => some kSum.sum | 69 => some kAddF.sum | 70 => some kSumF.sum | 142 => some kPadM.sum | _ => none, G := shaG, pin := [], eq := fun _ => none }
theorem cfgM2_ok : CfgOK Tryd.prog cfgM2 := ⟨tysOK, (fun f s h => by
  simp only [cfgM2] at h
  split at h
  · injection h with h; subst h; exact .inl sum_sum
  · injection h with h; subst h; exact .inl addF_sum
  · injection h with h; subst h; exact .inl sumF_sum
  · injection h with h; subst h; exact .inl padM_sum
  · cases h), (fun t d h => by cases h)⟩
section
attribute [local go_sem] Tryd.f110 kMac kPadM kSum cfgM2 tyTab hasT
theorem mac_body (p : kMac.Par) (hp : ∀ q ∈ kMac.pre p, q) : BodyOK Tryd.prog cfgM2 Tryd.f110 (Tryd.f110.body.get rfl) kMac p := by
  obtain ⟨(s : List UInt8), (d : List UInt8), u⟩ := p
  obtain ⟨h0, h1, _⟩ := Obs.of hp
  replace h0 : s.length ≤ 900000 := h0
  replace h1 : d.length ≤ 900000 := h1
  refine ⟨?_, Nat.zero_le _, rfl, rfl⟩
  show Tri _ _ _ (Code.seq _ (Code.seq (Code.seq _ (Code.cond _ (Code.seq _ _) _)) (Code.seq _ (Code.seq _ (Code.seq _ (Code.seq _ (Code.seq _ (Code.seq _ _)))))))) _
  obtain ⟨Z, hZ⟩ : ∃ Z : List UInt8, Z = Kd.dflt h32 := ⟨_, rfl⟩
  refine Tri.at (by first | (simp only [List.take_of_length_le, Con.start, go_sem]; rfl) | rfl) ?_
  refine Tri.seq (Tri.regT (cfgM2_ok.pins _) ?_)
  repeat (first | refine RunT.oneA (hp := by simp (maxSteps := 2000000) (disch := first | decide | omega | (simp only [List.length_append, List.length_cons, List.length_nil, List.length_take, List.length_drop]; omega)) only [List.take_of_length_le, go_sem]; rfl) (h := ?_) | refine RunT.notA (h := ?_))
  refine RunT.nil ?_
  refine Tri.seqWk (fun k : List UInt8 => (⟨[none, some (.pure (.slice false (.int .u8)) d), some (.ptr 0 [] 0), none, some (.ptr 1 [] 0)] ++ List.replicate 26 none, [.live (.pure (.slice false (.int .u8)) k), .live (.pure h32 Z)]⟩ : AS)) (fun k => k = keyM s) ?_ ?_
  · by_cases hl : 64 < s.length
    · have hl' : decide ((64 : Int) < (s.length : Int)) = true := decide_eq_true (by omega)
      have hk : keyM s = dig s := if_pos hl
      have hdl := dig_len s
      generalize hD : dig s = D at hk hdl
      repeat (first | ((first | refine Tri.seq (Tri.regT (cfgM2_ok.pins _) ?_) | refine Tri.rgnT (cfgM2_ok.pins _) ?_); (repeat (first | refine RunT.oneA (hp := by simp (maxSteps := 2000000) (disch := first | decide | omega | (simp only [List.length_append, List.length_cons, List.length_nil, List.length_take, List.length_drop]; omega)) only [hl', hD, hdl, go_sem]; rfl) (h := ?_) | refine RunT.notA (h := ?_))); refine RunT.nil ?_; try simp only [InBlock, Then]) | refine Tri.cF (by first | (simp only [hl', hD, hdl, go_sem]; done) | fail) ?_ | refine Tri.cT (by first | (simp only [hl', hD, hdl, go_sem]; done) | fail) ?_ | (refine Tri.skip ?_; try simp only [InBlock, Then]) | (refine Tri.exit ?_; simp only [Then, InBlock, if_true, if_false, ↓reduceIte, Nat.reduceEqDiff]) | refine Tri.seq (Tri.block ?_) | refine Tri.block ?_ | refine Tri.seq ?_ | (refine Tri.ret ?_; refine Con.fin (.inl rfl) (by simp only [Tryd.f110, cfgM2, resA, resA1, go_sem]; rfl) (by simp only [Obs, and_true, true_and]) (by first | (simp only [kMac, Con.of, Con.ofO, resV, hl', hD, hdl, go_sem]; done) | fail) trivial rfl rfl))
      refine ⟨D, hk.symm, Wk.trans (Wk.rel (ow := false) (id := 2) (d := .int .u8) (N := 32) (xs := D) rfl ?_ rfl) ?_⟩
      · simp only [Obs, Kd.sz, go_sem]
      · refine Wk.of ?_ ?_ rfl rfl
        · simp only [lessTs, hdl, go_sem] <;> ((repeat' apply And.intro) <;> first | with_reducible rfl | exact True.intro | exact congrArg (fun z : Int => some (AV.int IntKind.i64 z)) (show (_ : Int) = _ by omega) | exact congrArg (fun z : Nat => some (AV.tsl _ _ _ _ _ z)) (show (_ : Nat) = _ by omega) | exact arrEq (by omega) (by with_reducible rfl))
        · simp only [lessHs, hdl, go_sem]
          rw [List.take_of_length_le (show D.length ≤ 32 by omega), hZ]
          exact ⟨rfl, rfl⟩
    · have hl' : decide ((64 : Int) < (s.length : Int)) = false := decide_eq_false (by omega)
      have hk : keyM s = s := if_neg hl
      repeat (first | ((first | refine Tri.seq (Tri.regT (cfgM2_ok.pins _) ?_) | refine Tri.rgnT (cfgM2_ok.pins _) ?_); (repeat (first | refine RunT.oneA (hp := by simp (maxSteps := 2000000) (disch := first | decide | omega | (simp only [List.length_append, List.length_cons, List.length_nil, List.length_take, List.length_drop]; omega)) only [hl', go_sem]; rfl) (h := ?_) | refine RunT.notA (h := ?_))); refine RunT.nil ?_; try simp only [InBlock, Then]) | refine Tri.cF (by first | (simp only [hl', go_sem]; done) | fail) ?_ | refine Tri.cT (by first | (simp only [hl', go_sem]; done) | fail) ?_ | (refine Tri.skip ?_; try simp only [InBlock, Then]) | (refine Tri.exit ?_; simp only [Then, InBlock, if_true, if_false, ↓reduceIte, Nat.reduceEqDiff]) | refine Tri.seq (Tri.block ?_) | refine Tri.block ?_ | refine Tri.seq ?_ | (refine Tri.ret ?_; refine Con.fin (.inl rfl) (by simp only [Tryd.f110, cfgM2, resA, resA1, go_sem]; rfl) (by simp only [Obs, and_true, true_and]) (by first | (simp only [kMac, Con.of, Con.ofO, resV, hl', go_sem]; done) | fail) trivial rfl rfl))
      refine ⟨s, hk.symm, ?_⟩
      refine Wk.of ?_ ?_ rfl rfl
      · simp only [lessTs, List.reduceReplicate, List.cons_append, List.nil_append] <;> ((repeat' apply And.intro) <;> first | with_reducible rfl | exact True.intro | exact congrArg (fun z : Int => some (AV.int IntKind.i64 z)) (show (_ : Int) = _ by omega) | exact congrArg (fun z : Nat => some (AV.tsl _ _ _ _ _ z)) (show (_ : Nat) = _ by omega) | exact arrEq (by omega) (by with_reducible rfl))
      exact ⟨rfl, by rw [hZ]; rfl, trivial⟩
  · rintro k rfl
    have hkl := keyM_len s
    have k0 := HS.new_ok.fit
    have k1 := HS.new_ok.add (b := xK (keyM s) 54)
    have k2 := HS.new_ok.add (b := xK (keyM s) 92)
    have k3 := k1.add (b := d)
    have k4 := k2.add (b := ((HS.new.add (xK (keyM s) 54)).add d).sum)
    have f1 := k1.fit
    have f2 := k2.fit
    have f3 := k3.fit
    have f4 := k4.fit
    have hsl : (((HS.new.add (xK (keyM s) 54)).add d).sum).length = 32 := by rw [k3.sum']; exact dig_len _
    refine Tri.at (by first | (simp only [macH, List.take_of_length_le, Con.start, go_sem]; rfl) | rfl) ?_
    repeat (first | ((first | refine Tri.seq (Tri.regT (cfgM2_ok.pins _) ?_) | refine Tri.rgnT (cfgM2_ok.pins _) ?_); (repeat (first | refine RunT.oneA (hp := by simp (maxSteps := 2000000) (disch := first | decide | omega | (simp only [List.length_append, List.length_cons, List.length_nil, List.length_take, List.length_drop]; omega)) only [macH, List.take_of_length_le, go_sem]; rfl) (h := ?_) | refine RunT.notA (h := ?_))); refine RunT.nil ?_; try simp only [InBlock, Then]) | refine Tri.cF (by first | (simp only [macH, List.take_of_length_le, go_sem]; done) | fail) ?_ | refine Tri.cT (by first | (simp only [macH, List.take_of_length_le, go_sem]; done) | fail) ?_ | (refine Tri.skip ?_; try simp only [InBlock, Then]) | (refine Tri.exit ?_; simp only [Then, InBlock, if_true, if_false, ↓reduceIte, Nat.reduceEqDiff]) | refine Tri.seq (Tri.block ?_) | refine Tri.block ?_ | refine Tri.seq ?_ | (refine Tri.ret ?_; refine Con.fin (.inl rfl) (by simp only [Tryd.f110, cfgM2, resA, resA1, go_sem]; rfl) (by simp only [Obs, and_true, true_and]) (by first | (simp only [kMac, Con.of, Con.ofO, resV, macH, List.take_of_length_le, go_sem]; done) | fail) trivial rfl rfl))
theorem mac_sum : FSumOK Tryd.prog cfgM2.G 110 kMac.sum := Con.sumOK cfgM2_ok kMac Tryd.func110 rfl rfl (Con.of_inv _ _ _) mac_body
end
end Go.Proofs.YtlnkfdblkdhdgaaDoor

namespace Go.Proofs.YtlnkfdblkdhdgaaDoor
open Go.Vc Go.Proofs
set_option maxRecDepth 10000
set_option maxHeartbeats 4000000
def cfgD1 : Cfg2 := { ty := tyTab, fn := fun  | _ => none, G := shaG, pin := [], eq := fun _ => none }
theorem cfgD1_ok : CfgOK Tryd.prog cfgD1 := ⟨tysOK, (fun f s h => by cases h), (fun t d h => by cases h)⟩
def kHead : Con := Con.of [.v h32] (fun x => [List.length (α := UInt8) x.1 = 32]) (fun x => ⟨.pure k16 (List.take (α := UInt8) 16 x.1), []⟩)
section
attribute [local go_sem] Tryd.f139 kHead cfgD1 tyTab
theorem head_body (p : kHead.Par) (hp : ∀ q ∈ kHead.pre p, q) : BodyOK Tryd.prog cfgD1 Tryd.f139 (Tryd.f139.body.get rfl) kHead p := by
  obtain ⟨(h : List UInt8), u⟩ := p
  obtain ⟨hl, _⟩ := Obs.of hp
  replace hl : h.length = 32 := hl
  refine ⟨?_, Nat.zero_le _, rfl, rfl⟩
  show Tri _ _ _ (Code.seq _ (Code.seq _ _)) _
  refine Tri.at (by first | (simp only [go_sem, Con.start, go_sem]; rfl) | rfl) ?_
  repeat (first | ((first | refine Tri.seq (Tri.regT (cfgD1_ok.pins _) ?_) | refine Tri.rgnT (cfgD1_ok.pins _) ?_); (repeat (first | refine RunT.oneA (hp := by simp (maxSteps := 2000000) (disch := first | decide | omega | (simp only [List.length_append, List.length_cons, List.length_nil, List.length_take, List.length_drop]; omega)) only [go_sem, go_sem]; rfl) (h := ?_) | refine RunT.notA (h := ?_))); refine RunT.nil ?_; try simp only [InBlock, Then]) | refine Tri.cF (by first | (simp only [go_sem, go_sem]; done) | fail) ?_ | refine Tri.cT (by first | (simp only [go_sem, go_sem]; done) | fail) ?_ | (refine Tri.skip ?_; try simp only [InBlock, Then]) | (refine Tri.exit ?_; simp only [Then, InBlock, if_true, if_false, ↓reduceIte, Nat.reduceEqDiff]) | refine Tri.seq (Tri.block ?_) | refine Tri.block ?_ | refine Tri.seq ?_ | (refine Tri.ret ?_; refine Con.fin (.inl rfl) (by simp only [Tryd.f139, cfgD1, resA, resA1, go_sem]; rfl) (by simp only [Obs, and_true, true_and]) (by first | (simp only [kHead, Con.of, Con.ofO, resV, go_sem, go_sem]; done) | fail) trivial rfl rfl))
theorem head_sum : FSumOK Tryd.prog cfgD1.G 139 kHead.sum := Con.sumOK cfgD1_ok kHead Tryd.func139 rfl rfl (Con.of_inv _ _ _) head_body
end
end Go.Proofs.YtlnkfdblkdhdgaaDoor

namespace Go.Proofs.YtlnkfdblkdhdgaaDoor
open Go.Vc Go.Proofs
set_option maxRecDepth 10000
set_option maxHeartbeats 4000000
def derS (key label : List UInt8) (n : UInt64) : List UInt8 := List.take 16 (macS key (label ++ 0 :: numS n))
theorem derS_len (key label : List UInt8) (n : UInt64) : (derS key label n).length = 16 := by rw [derS, List.length_take, macS_len]; rfl
def kDer : Con := Con.of [.v k16, .v .str, .v (.int .u64)] (fun x => [List.length (α := UInt8) x.1 = 16, List.length (α := UInt8) x.2.1 ≤ 100000]) (fun x => ⟨.pure k16 (derS x.1 x.2.1 x.2.2.1), []⟩)
def cfgG1 : Cfg2 := { ty := tyTab, fn := fun | 110 => some kMac.sum | 139 => some kHead.sum | 66 => some kNum.sum | _ => none, G := shaG, pin := [], eq := fun _ => none }
theorem cfgG1_ok : CfgOK Tryd.prog cfgG1 := ⟨tysOK, (fun f s h => by
  simp only [cfgG1] at h
  split at h
  · injection h with h; subst h; exact .inl mac_sum
  · injection h with h; subst h; exact .inl head_sum
  · injection h with h; subst h; exact .inl num_sum
  · cases h), (fun t d h => by cases h)⟩
section
attribute [local go_sem] Tryd.f108 kDer kMac kHead kNum cfgG1 tyTab
theorem der_body (p : kDer.Par) (hp : ∀ q ∈ kDer.pre p, q) : BodyOK Tryd.prog cfgG1 Tryd.f108 (Tryd.f108.body.get rfl) kDer p := by
  obtain ⟨(key : List UInt8), (label : List UInt8), (n : UInt64), u⟩ := p
  obtain ⟨h0, h1, _⟩ := Obs.of hp
  replace h0 : key.length = 16 := h0
  replace h1 : label.length ≤ 100000 := h1
  refine ⟨?_, Nat.zero_le _, rfl, rfl⟩
  show Tri _ _ _ (Code.seq _ (Code.seq _ (Code.seq _ _))) _
  obtain ⟨Z, hZ⟩ : ∃ Z : List UInt8, Z = Kd.dflt k16 := ⟨_, rfl⟩
  have hn := numS_len n
  have hm := macS_len key (label ++ 0 :: numS n)
  have ht : List.take (label.length + 1 + (numS n).length) (label ++ 0 :: numS n) = label ++ 0 :: numS n := List.take_of_length_le (by simp; omega)
  have hd : List.take 16 (macS key (label ++ 0 :: numS n)) = derS key label n := rfl
  refine Tri.at (by first | (simp only [hd, ht, hm, List.append_assoc, List.take_of_length_le, Con.start, go_sem]; rfl) | rfl) ?_
  repeat (first | ((first | refine Tri.seq (Tri.regT (cfgG1_ok.pins _) ?_) | refine Tri.rgnT (cfgG1_ok.pins _) ?_); (repeat (first | refine RunT.oneA (hp := by simp (maxSteps := 2000000) (disch := first | decide | omega | (simp only [List.length_append, List.length_cons, List.length_nil, List.length_take, List.length_drop]; omega)) only [hd, ht, hm, List.append_assoc, List.take_of_length_le, go_sem]; rfl) (h := ?_) | refine RunT.notA (h := ?_))); refine RunT.nil ?_; try simp only [InBlock, Then]) | ((first | refine Tri.seq (Tri.drwT (mixed) (cfgG1_ok.pins _) ?_) | refine Tri.drnT (mixed) (cfgG1_ok.pins _) ?_); (repeat (first | refine RunD.oneA (hp := by simp (maxSteps := 2000000) (disch := first | decide | omega | (simp only [List.length_append, List.length_cons, List.length_nil, List.length_take, List.length_drop]; omega)) only [hd, ht, hm, List.append_assoc, List.take_of_length_le, go_sem]; rfl) (h := ?_) | refine RunD.notA (h := ?_))); refine RunD.nil ?_; refine ⟨by kernel_rfl, ?_⟩; try simp only [InBlock, Then]) | refine Tri.cF (by first | (simp only [hd, ht, hm, List.append_assoc, List.take_of_length_le, go_sem]; done) | fail) ?_ | refine Tri.cT (by first | (simp only [hd, ht, hm, List.append_assoc, List.take_of_length_le, go_sem]; done) | fail) ?_ | (refine Tri.skip ?_; try simp only [InBlock, Then]) | (refine Tri.exit ?_; simp only [Then, InBlock, if_true, if_false, ↓reduceIte, Nat.reduceEqDiff]) | refine Tri.seq (Tri.block ?_) | refine Tri.block ?_ | refine Tri.seq ?_ | (refine Tri.ret ?_; refine Con.fin (.inl rfl) (by simp only [Tryd.f108, cfgG1, resA, resA1, go_sem]; rfl) (by simp only [Obs, and_true, true_and]) (by first | (simp only [kDer, Con.of, Con.ofO, resV, hd, ht, hm, List.append_assoc, List.take_of_length_le, go_sem]; done) | fail) trivial rfl rfl))
theorem der_sum : FSumOK Tryd.prog cfgG1.G 108 kDer.sum := Con.sumOK cfgG1_ok kDer Tryd.func108 rfl rfl (Con.of_inv _ _ _) der_body
end
end Go.Proofs.YtlnkfdblkdhdgaaDoor

namespace Go.Proofs.YtlnkfdblkdhdgaaDoor
open Go.Vc Go.Proofs
set_option maxRecDepth 10000
set_option maxHeartbeats 4000000
def cfgE1 : Cfg2 := { ty := tyTab, fn := fun  | _ => none, G := shaG, pin := [], eq := fun _ => none }
theorem cfgE1_ok : CfgOK Tryd.prog cfgE1 := ⟨tysOK, (fun f s h => by cases h), (fun t d h => by cases h)⟩
def dfI (a b : List UInt8) : Nat → UInt8
  | 0 => 0
  | i + 1 => dfI a b i ||| (a.getD i 0 ^^^ b.getD i 0)
theorem or_zero (x y : UInt8) : x ||| y = 0 ↔ x = 0 ∧ y = 0 := by
  constructor
  · intro h
    have h' := congrArg UInt8.toNat h
    rw [UInt8.toNat_or] at h'
    have : x.toNat = 0 ∧ y.toNat = 0 := by
      have := Nat.or_eq_zero_iff.1 h'
      exact this
    exact ⟨UInt8.toNat_inj.1 this.1, UInt8.toNat_inj.1 this.2⟩
  · rintro ⟨rfl, rfl⟩; rfl
theorem xor_zero (x y : UInt8) : x ^^^ y = 0 ↔ x = y := UInt8.xor_eq_zero_iff
theorem dfI_zero (a b : List UInt8) : ∀ i, dfI a b i = 0 ↔ ∀ j, j < i → a.getD j 0 = b.getD j 0
  | 0 => ⟨fun _ j hj => by omega, fun _ => rfl⟩
  | i + 1 => by
    rw [dfI, or_zero, dfI_zero a b i, xor_zero]
    constructor
    · rintro ⟨h1, h2⟩ j hj
      by_cases e : j = i
      · rw [e]; exact h2
      · exact h1 j (by omega)
    · intro h
      exact ⟨fun j hj => h j (by omega), h i (by omega)⟩
theorem dfI_eq {a b : List UInt8} (h : a.length = b.length) : decide (dfI a b a.length = 0) = strEq a b := by
  unfold strEq
  refine decide_eq_decide.2 ?_
  rw [dfI_zero]
  constructor
  · intro hh
    apply List.ext_getElem h
    intro j h1 h2
    have := hh j h1
    rw [List.getD_eq_getElem?_getD, List.getD_eq_getElem?_getD, List.getElem?_eq_getElem h1, List.getElem?_eq_getElem h2] at this
    exact this
  · rintro rfl j _; rfl
def kEq : Con := Con.of [.v (.slice false (.int .u8)), .v (.slice false (.int .u8))] (fun x => [List.length (α := UInt8) x.1 ≤ 1000000000]) (fun x => ⟨.bool (strEq x.1 x.2.1), []⟩)
attribute [local go_sem] Tryd.f83 kEq cfgE1 tyTab
theorem equal_body (p : kEq.Par) (hp : ∀ q ∈ kEq.pre p, q) : BodyOK Tryd.prog cfgE1 Tryd.f83 (Tryd.f83.body.get rfl) kEq p := by
  obtain ⟨(a : List UInt8), (b : List UInt8), u⟩ := p
  obtain ⟨h0, _⟩ := Obs.of hp
  replace h0 : a.length ≤ 1000000000 := h0
  refine ⟨?_, Nat.zero_le _, rfl, rfl⟩
  show Tri _ _ _ (Code.seq _ (Code.seq (Code.seq _ (Code.cond _ (Code.seq _ _) _)) (Code.seq _ (Code.seq (Code.seq _ (Code.block _ (Code.loop (Code.seq _ (Code.seq (Code.cond _ _ _) (Code.seq (Code.block _ (Code.seq _ _)) _)))))) (Code.seq _ _))))) _
  by_cases hl : a.length = b.length
  · have hl' : decide ((a.length : Int) = (b.length : Int)) = true := decide_eq_true (by omega)
    refine Tri.at (by first | (simp only [hl', Con.start, go_sem]; rfl) | rfl) ?_
    repeat (first | ((first | refine Tri.seq (Tri.regT (cfgE1_ok.pins _) ?_) | refine Tri.rgnT (cfgE1_ok.pins _) ?_); (repeat (first | refine RunT.oneA (hp := by simp (maxSteps := 2000000) (disch := first | decide | omega | (simp only [List.length_append, List.length_cons, List.length_nil, List.length_take, List.length_drop]; omega)) only [hl', go_sem]; rfl) (h := ?_) | refine RunT.notA (h := ?_))); refine RunT.nil ?_; try simp only [InBlock, Then]) | ((first | refine Tri.seq (Tri.drwT (mixed) (cfgE1_ok.pins _) ?_) | refine Tri.drnT (mixed) (cfgE1_ok.pins _) ?_); (repeat (first | refine RunD.oneA (hp := by simp (maxSteps := 2000000) (disch := first | decide | omega | (simp only [List.length_append, List.length_cons, List.length_nil, List.length_take, List.length_drop]; omega)) only [hl', go_sem]; rfl) (h := ?_) | refine RunD.notA (h := ?_))); refine RunD.nil ?_; refine ⟨by kernel_rfl, ?_⟩; try simp only [InBlock, Then]) | refine Tri.cF (by first | (simp only [hl', go_sem]; done) | fail) ?_ | refine Tri.cT (by first | (simp only [hl', go_sem]; done) | fail) ?_ | (refine Tri.skip ?_; try simp only [InBlock, Then]) | (refine Tri.exit ?_; simp only [Then, InBlock, if_true, if_false, ↓reduceIte, Nat.reduceEqDiff]) | refine Tri.seq (Tri.block ?_) | refine Tri.block ?_ | refine Tri.seq ?_ | (refine Tri.ret ?_; refine Con.fin (.inl rfl) (by simp only [Tryd.f83, cfgE1, resA, resA1, go_sem]; rfl) (by simp only [Obs, and_true, true_and]) (by first | (simp only [kEq, Con.of, Con.ofO, resV, hl', go_sem]; done) | fail) trivial rfl rfl))
    refine Tri.loop (fun i : Nat => (⟨[some (.pure (.slice false (.int .u8)) a), some (.pure (.slice false (.int .u8)) b), none, none, none, some (.int .u8 (dfI a b i)), none, none, none, none, none, none, none, some (.pure (.slice false (.int .u8)) a), some (.int .i64 (a.length : Int)), some (.int .i64 (i : Int))] ++ List.replicate 15 none, []⟩ : AS)) (fun i => i ≤ a.length) (fun i => a.length - i) 0 ?_ (Nat.zero_le _) ?_
    · refine Wk.of ?_ ?_ rfl rfl
      · simp only [lessTs, List.reduceReplicate, List.cons_append, List.nil_append, dfI] <;> ((repeat' apply And.intro) <;> first | with_reducible rfl | exact True.intro | exact congrArg (fun z : Int => some (AV.int IntKind.i64 z)) (show (_ : Int) = _ by omega) | exact congrArg (fun z : Nat => some (AV.tsl _ _ _ _ _ z)) (show (_ : Nat) = _ by omega) | exact arrEq (by omega) (by with_reducible rfl))
      · simp only [lessHs, dfI] <;> ((repeat' apply And.intro) <;> first | with_reducible rfl | exact True.intro | exact congrArg (fun z : Int => some (AV.int IntKind.i64 z)) (show (_ : Int) = _ by omega) | exact congrArg (fun z : Nat => some (AV.tsl _ _ _ _ _ z)) (show (_ : Nat) = _ by omega) | exact arrEq (by omega) (by with_reducible rfl))
    · intro i hi
      generalize hD : dfI a b i = D
      by_cases h1 : i < a.length
      · have h1' : decide ((i : Int) < (a.length : Int)) = true := decide_eq_true (by omega)
        refine Tri.at (by first | (simp only [h1', Con.start, go_sem]; rfl) | rfl) ?_
        repeat (first | ((first | refine Tri.seq (Tri.regT (cfgE1_ok.pins _) ?_) | refine Tri.rgnT (cfgE1_ok.pins _) ?_); (repeat (first | refine RunT.oneA (hp := by simp (maxSteps := 2000000) (disch := first | decide | omega | (simp only [List.length_append, List.length_cons, List.length_nil, List.length_take, List.length_drop]; omega)) only [h1', go_sem]; rfl) (h := ?_) | refine RunT.notA (h := ?_))); refine RunT.nil ?_; try simp only [InBlock, Then]) | ((first | refine Tri.seq (Tri.drwT (mixed) (cfgE1_ok.pins _) ?_) | refine Tri.drnT (mixed) (cfgE1_ok.pins _) ?_); (repeat (first | refine RunD.oneA (hp := by simp (maxSteps := 2000000) (disch := first | decide | omega | (simp only [List.length_append, List.length_cons, List.length_nil, List.length_take, List.length_drop]; omega)) only [h1', go_sem]; rfl) (h := ?_) | refine RunD.notA (h := ?_))); refine RunD.nil ?_; refine ⟨by kernel_rfl, ?_⟩; try simp only [InBlock, Then]) | refine Tri.cF (by first | (simp only [h1', go_sem]; done) | fail) ?_ | refine Tri.cT (by first | (simp only [h1', go_sem]; done) | fail) ?_ | (refine Tri.skip ?_; try simp only [InBlock, Then]) | (refine Tri.exit ?_; simp only [Then, InBlock, if_true, if_false, ↓reduceIte, Nat.reduceEqDiff]) | refine Tri.seq (Tri.block ?_) | refine Tri.block ?_ | refine Tri.seq ?_ | (refine Tri.ret ?_; refine Con.fin (.inl rfl) (by simp only [Tryd.f83, cfgE1, resA, resA1, go_sem]; rfl) (by simp only [Obs, and_true, true_and]) (by first | (simp only [kEq, Con.of, Con.ofO, resV, h1', go_sem]; done) | fail) trivial rfl rfl))
        refine ⟨i+1, (by omega), (by omega), Wk.of ?_ ?_ rfl rfl⟩
        · simp only [lessTs, List.reduceReplicate, List.cons_append, List.nil_append, dfI, hD] <;> ((repeat' apply And.intro) <;> first | with_reducible rfl | exact True.intro | exact congrArg (fun z : Int => some (AV.int IntKind.i64 z)) (show (_ : Int) = _ by omega) | exact congrArg (fun z : Nat => some (AV.tsl _ _ _ _ _ z)) (show (_ : Nat) = _ by omega) | exact arrEq (by omega) (by with_reducible rfl))
        · simp only [lessHs, dfI, hD] <;> ((repeat' apply And.intro) <;> first | with_reducible rfl | exact True.intro | exact congrArg (fun z : Int => some (AV.int IntKind.i64 z)) (show (_ : Int) = _ by omega) | exact congrArg (fun z : Nat => some (AV.tsl _ _ _ _ _ z)) (show (_ : Nat) = _ by omega) | exact arrEq (by omega) (by with_reducible rfl))
      · have h1' : decide ((i : Int) < (a.length : Int)) = false := decide_eq_false (by omega)
        have hD0 : decide (D = 0) = strEq a b := by rw [← dfI_eq hl, ← hD, show i = a.length by omega]
        refine Tri.at (by first | (simp only [h1', hD0, Con.start, go_sem]; rfl) | rfl) ?_
        repeat (first | ((first | refine Tri.seq (Tri.regT (cfgE1_ok.pins _) ?_) | refine Tri.rgnT (cfgE1_ok.pins _) ?_); (repeat (first | refine RunT.oneA (hp := by simp (maxSteps := 2000000) (disch := first | decide | omega | (simp only [List.length_append, List.length_cons, List.length_nil, List.length_take, List.length_drop]; omega)) only [h1', hD0, go_sem]; rfl) (h := ?_) | refine RunT.notA (h := ?_))); refine RunT.nil ?_; try simp only [InBlock, Then]) | ((first | refine Tri.seq (Tri.drwT (mixed) (cfgE1_ok.pins _) ?_) | refine Tri.drnT (mixed) (cfgE1_ok.pins _) ?_); (repeat (first | refine RunD.oneA (hp := by simp (maxSteps := 2000000) (disch := first | decide | omega | (simp only [List.length_append, List.length_cons, List.length_nil, List.length_take, List.length_drop]; omega)) only [h1', hD0, go_sem]; rfl) (h := ?_) | refine RunD.notA (h := ?_))); refine RunD.nil ?_; refine ⟨by kernel_rfl, ?_⟩; try simp only [InBlock, Then]) | refine Tri.cF (by first | (simp only [h1', hD0, go_sem]; done) | fail) ?_ | refine Tri.cT (by first | (simp only [h1', hD0, go_sem]; done) | fail) ?_ | (refine Tri.skip ?_; try simp only [InBlock, Then]) | (refine Tri.exit ?_; simp only [Then, InBlock, if_true, if_false, ↓reduceIte, Nat.reduceEqDiff]) | refine Tri.seq (Tri.block ?_) | refine Tri.block ?_ | refine Tri.seq ?_ | (refine Tri.ret ?_; refine Con.fin (.inl rfl) (by simp only [Tryd.f83, cfgE1, resA, resA1, go_sem]; rfl) (by simp only [Obs, and_true, true_and]) (by first | (simp only [kEq, Con.of, Con.ofO, resV, h1', hD0, go_sem]; done) | fail) trivial rfl rfl))
  · have hl' : decide ((a.length : Int) = (b.length : Int)) = false := decide_eq_false (by omega)
    have hs : strEq a b = false := decide_eq_false fun e => hl (by rw [e])
    refine Tri.at (by first | (simp only [hl', hs, Con.start, go_sem]; rfl) | rfl) ?_
    repeat (first | ((first | refine Tri.seq (Tri.regT (cfgE1_ok.pins _) ?_) | refine Tri.rgnT (cfgE1_ok.pins _) ?_); (repeat (first | refine RunT.oneA (hp := by simp (maxSteps := 2000000) (disch := first | decide | omega | (simp only [List.length_append, List.length_cons, List.length_nil, List.length_take, List.length_drop]; omega)) only [hl', hs, go_sem]; rfl) (h := ?_) | refine RunT.notA (h := ?_))); refine RunT.nil ?_; try simp only [InBlock, Then]) | ((first | refine Tri.seq (Tri.drwT (mixed) (cfgE1_ok.pins _) ?_) | refine Tri.drnT (mixed) (cfgE1_ok.pins _) ?_); (repeat (first | refine RunD.oneA (hp := by simp (maxSteps := 2000000) (disch := first | decide | omega | (simp only [List.length_append, List.length_cons, List.length_nil, List.length_take, List.length_drop]; omega)) only [hl', hs, go_sem]; rfl) (h := ?_) | refine RunD.notA (h := ?_))); refine RunD.nil ?_; refine ⟨by kernel_rfl, ?_⟩; try simp only [InBlock, Then]) | refine Tri.cF (by first | (simp only [hl', hs, go_sem]; done) | fail) ?_ | refine Tri.cT (by first | (simp only [hl', hs, go_sem]; done) | fail) ?_ | (refine Tri.skip ?_; try simp only [InBlock, Then]) | (refine Tri.exit ?_; simp only [Then, InBlock, if_true, if_false, ↓reduceIte, Nat.reduceEqDiff]) | refine Tri.seq (Tri.block ?_) | refine Tri.block ?_ | refine Tri.seq ?_ | (refine Tri.ret ?_; refine Con.fin (.inl rfl) (by simp only [Tryd.f83, cfgE1, resA, resA1, go_sem]; rfl) (by simp only [Obs, and_true, true_and]) (by first | (simp only [kEq, Con.of, Con.ofO, resV, hl', hs, go_sem]; done) | fail) trivial rfl rfl))
theorem equal_sum : FSumOK Tryd.prog cfgE1.G 83 kEq.sum := Con.sumOK cfgE1_ok kEq Tryd.func83 rfl rfl (Con.of_inv _ _ _) equal_body
end Go.Proofs.YtlnkfdblkdhdgaaDoor

namespace Go.Proofs.YtlnkfdblkdhdgaaDoor.Ae
open Go.Vc Go.Proofs
set_option maxRecDepth 10000
def twice (b : UInt8) : UInt8 := if b &&& 128 = 0 then b <<< 1 else (b <<< 1) ^^^ 27
def kTwice : Con := Con.of [.v (.int .u8)] (fun _ => []) (fun x => ⟨.int .u8 (twice x.1), []⟩)
def cfgA : Cfg2 := { ty := tyTabS, fn := fun _ => none, G := shaG, pin := [], eq := fun _ => none }
theorem cfgA_ok : CfgOK Tryd.prog cfgA := ⟨tysSOK, (fun f s h => by cases h), (fun t d h => by cases h)⟩
theorem twice_body (p : kTwice.Par) : BodyOK Tryd.prog cfgA Tryd.f138 (Tryd.f138.body.get rfl) kTwice p := by
  obtain ⟨x, u⟩ := p
  refine ⟨?_, Nat.le_refl _, rfl, rfl⟩
  show Tri _ _ _ (Code.seq _ (Code.seq (Code.seq _ (Code.cond _ (Code.seq _ _) _)) (Code.seq _ _))) _
  refine Tri.seq (Tri.reg (cfgA_ok.pins _) (by simp only [Tryd.f138, kTwice, cfgA, tyTabS, go_sem]; rfl) (by simp only [Obs]) ?_)
  refine Tri.seq (Tri.seq (Tri.reg (cfgA_ok.pins _) (by simp only [Tryd.f138, kTwice, cfgA, tyTabS, go_sem]; rfl) (by simp only [Obs]) ?_))
  refine Tri.split (b := !decide (x &&& 128 = 0)) rfl (fun hb => ?_) (fun hb => ?_)
  · refine Tri.seq (Tri.reg (cfgA_ok.pins _) (by simp only [Tryd.f138, kTwice, cfgA, tyTabS, go_sem]; rfl) (by simp [Obs]) ?_)
    refine Tri.ret ?_
    refine Con.done (.inl rfl) (by simp only [Tryd.f138, resA, resA1, go_sem]; rfl) (by simp only [Obs]) ?_ (.nil _) rfl (fun id h => by cases h)
    ·
      have hb' : ¬ (x &&& 128 = 0) := by simpa using hb
      simp only [resV, kTwice, Con.of, twice, if_neg hb']
  · refine Tri.skp ?_
    refine Tri.seq (Tri.reg (cfgA_ok.pins _) (by simp only [Tryd.f138, kTwice, cfgA, tyTabS, go_sem]; rfl) (by simp [Obs]) ?_)
    refine Tri.ret ?_
    refine Con.done (.inl rfl) (by simp only [Tryd.f138, resA, resA1, go_sem]; rfl) (by simp only [Obs]) ?_ (.nil _) rfl (fun id h => by cases h)
    ·
      have hb' : (x &&& 128 = 0) := by simpa using hb
      simp only [resV, kTwice, Con.of, twice, if_pos hb']
theorem twice_sum : FSumOK Tryd.prog cfgA.G 138 kTwice.sum := Con.sumOK cfgA_ok kTwice Tryd.func138 rfl rfl (Con.of_inv _ _ _) fun p _ => twice_body p
end Go.Proofs.YtlnkfdblkdhdgaaDoor.Ae

namespace Go.Proofs.YtlnkfdblkdhdgaaDoor.Ae
open Go.Vc Go.Proofs
set_option maxRecDepth 10000
theorem mixed : Tryd.prog.follows .mixedOrders = true := by kernel_rfl
def turn (b : UInt8) (n : Int) : UInt8 := shlT .u8 b n.toNat ||| shrT .u8 b (8 - n).toNat
def kTurn : Con := Con.of [.v (.int .u8), .v (.int .i64)] (fun x => [0 ≤ toI .i64 x.2.1, toI .i64 x.2.1 ≤ 8]) (fun x => ⟨.int .u8 (turn x.1 x.2.1), []⟩)
theorem turn_body (p : kTurn.Par) (hp : ∀ q ∈ kTurn.pre p, q) : BodyOK Tryd.prog cfgA Tryd.f159 (Tryd.f159.body.get rfl) kTurn p := by
  obtain ⟨(x : UInt8), (n : Int), u⟩ := p
  obtain ⟨h1, h2, _⟩ := Obs.of hp
  replace h1 : (0 : Int) ≤ n := h1
  replace h2 : (n : Int) ≤ 8 := h2
  refine ⟨?_, Nat.le_refl _, rfl, rfl⟩
  show Tri _ _ _ (Code.seq _ (Code.seq _ _)) _
  refine Tri.seq (Tri.reg (cfgA_ok.pins _) (by simp (maxSteps := 2000000) (disch := first | decide | omega | (simp only [List.length_append, List.length_cons, List.length_nil, List.length_take, List.length_drop]; omega)) only [Tryd.f159, kTurn, cfgA, tyTabS, go_sem]; rfl) (by first | exact True.intro | (simp only [Obs, and_true, true_and]; omega) | (simp [Obs, AV.sizeL, AV.size, Kd.sz]; done) | (simp [Obs, AV.sizeL, AV.size, Kd.sz]; omega)) ?_)
  refine Tri.seq (Tri.drw (mixed) (cfgA_ok.pins _) (by simp (maxSteps := 2000000) (disch := first | decide | omega | (simp only [List.length_append, List.length_cons, List.length_nil, List.length_take, List.length_drop]; omega)) only [Tryd.f159, kTurn, cfgA, tyTabS, go_sem]; rfl) (by first | exact True.intro | (simp only [Obs, and_true, true_and]; omega) | (simp [Obs, AV.sizeL, AV.size, Kd.sz]; done) | (simp [Obs, AV.sizeL, AV.size, Kd.sz]; omega)) (by kernel_rfl) ?_)
  refine Tri.ret ?_
  refine Con.fin (.inl rfl) (by simp only [Tryd.f159, resA, resA1, go_sem]; rfl) (by trivial) ?_ trivial rfl rfl
  rfl
theorem turn_sum : FSumOK Tryd.prog cfgA.G 159 kTurn.sum := Con.sumOK cfgA_ok kTurn Tryd.func159 rfl rfl (Con.of_inv _ _ _) turn_body
end Go.Proofs.YtlnkfdblkdhdgaaDoor.Ae

namespace Go.Proofs.YtlnkfdblkdhdgaaDoor.Ae
open Go.Vc Go.Proofs
set_option maxRecDepth 10000
set_option maxHeartbeats 2000000
def cfgB : Cfg2 := { ty := tyTabS, fn := fun | 138 => some kTwice.sum | 159 => some kTurn.sum | _ => none, G := shaG, pin := [], eq := fun _ => none }
theorem cfgB_ok : CfgOK Tryd.prog cfgB := ⟨tysSOK, (fun f s h => by
  simp only [cfgB] at h
  split at h
  · injection h with h; subst h; exact .inl twice_sum
  · injection h with h; subst h; exact .inl turn_sum
  · cases h), (fun t d h => by cases h)⟩
def boxQ (q : UInt8) : UInt8 :=
  let a := q ^^^ q <<< 1
  let b := a ^^^ a <<< 2
  let c := b ^^^ b <<< 4
  if c &&& 128 = 0 then c else c ^^^ 9
def boxV (q : UInt8) : UInt8 := q ^^^ turn q 1 ^^^ turn q 2 ^^^ turn q 3 ^^^ turn q 4 ^^^ 99
def boxI (box : List UInt8) : Nat → UInt8 × UInt8 × List UInt8
  | 0 => (1, 1, box.set 0 99)
  | k + 1 => let s := boxI box k; (s.1 ^^^ twice s.1, boxQ s.2.1, s.2.2.set (s.1 ^^^ twice s.1).toNat (boxV (boxQ s.2.1)))
def kBoxes : Con := Con.of [.p cipK] (fun _ => []) (fun x => ⟨.tuple [], [.pure cipK ((boxI x.1.1 255).2.2, x.1.2)]⟩)
theorem boxes_body (p : kBoxes.Par) (hp : ∀ q ∈ kBoxes.pre p, q) : BodyOK Tryd.prog cfgB Tryd.f137 (Tryd.f137.body.get rfl) kBoxes p := by
  obtain ⟨⟨(box : List UInt8), (keys : a44.T × Unit)⟩, u⟩ := p
  refine ⟨?_, Nat.le_refl _, rfl, rfl⟩
  show Tri _ _ _ (Code.seq _ (Code.seq _ (Code.seq _ (Code.block _ (Code.loop (Code.seq _ (Code.seq (Code.cond _ _ _) (Code.seq (Code.block _ _) _)))))))) _
  refine Tri.seq (Tri.reg (cfgB_ok.pins _) (by simp (maxSteps := 2000000) (disch := first | decide | omega | (simp only [List.length_append, List.length_cons, List.length_nil, List.length_take, List.length_drop]; omega)) only [Tryd.f137, kBoxes, kTwice, kTurn, cfgB, tyTabS, cipK, go_sem]; rfl) (by first | exact True.intro | (simp only [Obs, and_true, true_and]; omega) | (simp [Obs, AV.sizeL, AV.size, Kd.sz]; done) | (simp [Obs, AV.sizeL, AV.size, Kd.sz]; omega)) ?_)
  refine Tri.seq (Tri.reg (cfgB_ok.pins _) (by simp (maxSteps := 2000000) (disch := first | decide | omega | (simp only [List.length_append, List.length_cons, List.length_nil, List.length_take, List.length_drop]; omega)) only [Tryd.f137, kBoxes, kTwice, kTurn, cfgB, tyTabS, cipK, go_sem]; rfl) (by first | exact True.intro | (simp only [Obs, and_true, true_and]; omega) | (simp [Obs, AV.sizeL, AV.size, Kd.sz]; done) | (simp [Obs, AV.sizeL, AV.size, Kd.sz]; omega)) ?_)
  refine Tri.seq (Tri.reg (cfgB_ok.pins _) (by simp (maxSteps := 2000000) (disch := first | decide | omega | (simp only [List.length_append, List.length_cons, List.length_nil, List.length_take, List.length_drop]; omega)) only [Tryd.f137, kBoxes, kTwice, kTurn, cfgB, tyTabS, cipK, go_sem]; rfl) (by first | exact True.intro | (simp only [Obs, and_true, true_and]; omega) | (simp [Obs, AV.sizeL, AV.size, Kd.sz]; done) | (simp [Obs, AV.sizeL, AV.size, Kd.sz]; omega)) ?_)
  refine Tri.block ?_
  refine Tri.loop (fun k : Nat => (⟨[some (.ptr 0 [] 0), none, some (.int .u8 (boxI box k).1), some (.int .u8 (boxI box k).2.1), none, none, none, none, some (.int .i64 (k : Int))] ++ List.replicate 42 none, [.live (.pure cipK ((boxI box k).2.2, keys))]⟩ : AS)) (· ≤ 255) (fun k => 255 - k) 0 ?_ (Nat.zero_le _) ?_
  · refine Wk.of ?_ ?_ rfl rfl
    · simp only [lessTs, List.reduceReplicate, List.cons_append, List.nil_append] <;> ((repeat' apply And.intro) <;> first | rfl | trivial)
    · simp only [lessHs, boxI]
      trivial
  · intro k hk
    show Tri _ _ _ (Code.seq _ (Code.seq (Code.cond _ _ _) (Code.seq (Code.block _ (Code.seq _ (Code.seq _ (Code.seq _ (Code.seq _ (Code.seq (Code.seq _ (Code.cond _ _ _)) _)))))) _))) _
    refine Tri.seq (Tri.reg (cfgB_ok.pins _) (by simp (maxSteps := 2000000) (disch := first | decide | omega | (simp only [List.length_append, List.length_cons, List.length_nil, List.length_take, List.length_drop]; omega)) only [Tryd.f137, kBoxes, kTwice, kTurn, cfgB, tyTabS, cipK, go_sem]; rfl) (by first | exact True.intro | (simp only [Obs, and_true, true_and]; omega) | (simp [Obs, AV.sizeL, AV.size, Kd.sz]; done) | (simp [Obs, AV.sizeL, AV.size, Kd.sz]; omega)) ?_)
    refine Tri.seq ?_
    refine Tri.split (by simp only [AS.ev, go_sem]; rfl) (fun hc => ?_) (fun hc => ?_)
    · refine Tri.skp ?_
      refine Tri.seq (Tri.block ?_)
      refine Tri.seq (Tri.reg (cfgB_ok.pins _) (by simp (maxSteps := 2000000) (disch := first | decide | omega | (simp only [List.length_append, List.length_cons, List.length_nil, List.length_take, List.length_drop]; omega)) only [Tryd.f137, kBoxes, kTwice, kTurn, cfgB, tyTabS, cipK, go_sem]; rfl) (by first | exact True.intro | (simp only [Obs, and_true, true_and]; omega) | (simp [Obs, AV.sizeL, AV.size, Kd.sz]; done) | (simp [Obs, AV.sizeL, AV.size, Kd.sz]; omega)) ?_)
      refine Tri.seq (Tri.reg (cfgB_ok.pins _) (by simp (maxSteps := 2000000) (disch := first | decide | omega | (simp only [List.length_append, List.length_cons, List.length_nil, List.length_take, List.length_drop]; omega)) only [Tryd.f137, kBoxes, kTwice, kTurn, cfgB, tyTabS, cipK, go_sem]; rfl) (by first | exact True.intro | (simp only [Obs, and_true, true_and]; omega) | (simp [Obs, AV.sizeL, AV.size, Kd.sz]; done) | (simp [Obs, AV.sizeL, AV.size, Kd.sz]; omega)) ?_)
      refine Tri.seq (Tri.reg (cfgB_ok.pins _) (by simp (maxSteps := 2000000) (disch := first | decide | omega | (simp only [List.length_append, List.length_cons, List.length_nil, List.length_take, List.length_drop]; omega)) only [Tryd.f137, kBoxes, kTwice, kTurn, cfgB, tyTabS, cipK, go_sem]; rfl) (by first | exact True.intro | (simp only [Obs, and_true, true_and]; omega) | (simp [Obs, AV.sizeL, AV.size, Kd.sz]; done) | (simp [Obs, AV.sizeL, AV.size, Kd.sz]; omega)) ?_)
      refine Tri.seq (Tri.reg (cfgB_ok.pins _) (by simp (maxSteps := 2000000) (disch := first | decide | omega | (simp only [List.length_append, List.length_cons, List.length_nil, List.length_take, List.length_drop]; omega)) only [Tryd.f137, kBoxes, kTwice, kTurn, cfgB, tyTabS, cipK, go_sem]; rfl) (by first | exact True.intro | (simp only [Obs, and_true, true_and]; omega) | (simp [Obs, AV.sizeL, AV.size, Kd.sz]; done) | (simp [Obs, AV.sizeL, AV.size, Kd.sz]; omega)) ?_)
      refine Tri.seq ?_
      refine Tri.seq (Tri.reg (cfgB_ok.pins _) (by simp (maxSteps := 2000000) (disch := first | decide | omega | (simp only [List.length_append, List.length_cons, List.length_nil, List.length_take, List.length_drop]; omega)) only [Tryd.f137, kBoxes, kTwice, kTurn, cfgB, tyTabS, cipK, go_sem]; rfl) (by first | exact True.intro | (simp only [Obs, and_true, true_and]; omega) | (simp [Obs, AV.sizeL, AV.size, Kd.sz]; done) | (simp [Obs, AV.sizeL, AV.size, Kd.sz]; omega)) ?_)
      refine Tri.split (by simp only [AS.ev, go_sem]; rfl) (fun hd => ?_) (fun hd => ?_)
      · refine (Tri.rgn (cfgB_ok.pins _) (by simp (maxSteps := 2000000) (disch := first | decide | omega | (simp only [List.length_append, List.length_cons, List.length_nil, List.length_take, List.length_drop]; omega)) only [Tryd.f137, kBoxes, kTwice, kTurn, cfgB, tyTabS, cipK, go_sem]; rfl) (by first | exact True.intro | (simp only [Obs, and_true, true_and]; omega) | (simp [Obs, AV.sizeL, AV.size, Kd.sz]; done) | (simp [Obs, AV.sizeL, AV.size, Kd.sz]; omega)) ?_)
        try simp only [InBlock, Then]
        have hlt := UInt8.toNat_lt ((boxI box k).1 ^^^ twice (boxI box k).1)
        refine (Tri.drn (mixed) (cfgB_ok.pins _) (by simp (maxSteps := 2000000) (disch := first | decide | omega | (simp only [List.length_append, List.length_cons, List.length_nil, List.length_take, List.length_drop]; omega)) only [Tryd.f137, kBoxes, kTwice, kTurn, cfgB, tyTabS, cipK, go_sem]; rfl) (by (simp only [Obs, and_true, true_and]; exact ⟨Int.natCast_nonneg _, Int.ofNat_lt.2 hlt, hlt⟩)) (by kernel_rfl) ?_)
        try simp only [InBlock, Then]
        refine (Tri.rgn (cfgB_ok.pins _) (by simp (maxSteps := 2000000) (disch := first | decide | omega | (simp only [List.length_append, List.length_cons, List.length_nil, List.length_take, List.length_drop]; omega)) only [Tryd.f137, kBoxes, kTwice, kTurn, cfgB, tyTabS, cipK, go_sem]; rfl) (by first | exact True.intro | (simp only [Obs, and_true, true_and]; omega) | (simp [Obs, AV.sizeL, AV.size, Kd.sz]; done) | (simp [Obs, AV.sizeL, AV.size, Kd.sz]; omega)) ?_)
        try simp only [InBlock, Then]
        have hd' := hd
        simp only [Bool.not_eq_true', decide_eq_false_iff_not] at hd'
        have hc' : (k : Int) < 255 := by simpa using hc
        refine ⟨k + 1, (by omega), (by omega), Wk.of ?_ ?_ rfl rfl⟩
        · simp only [lessTs, List.reduceReplicate, List.cons_append, List.nil_append, boxI, boxQ, if_neg hd'] <;> ((repeat' apply And.intro) <;> first | rfl | trivial)
        · simp only [lessHs, boxI, boxQ, boxV, if_neg hd'] <;> ((repeat' apply And.intro) <;> first | rfl | trivial)
      · refine Tri.skp ?_
        have hlt := UInt8.toNat_lt ((boxI box k).1 ^^^ twice (boxI box k).1)
        refine (Tri.drn (mixed) (cfgB_ok.pins _) (by simp (maxSteps := 2000000) (disch := first | decide | omega | (simp only [List.length_append, List.length_cons, List.length_nil, List.length_take, List.length_drop]; omega)) only [Tryd.f137, kBoxes, kTwice, kTurn, cfgB, tyTabS, cipK, go_sem]; rfl) (by (simp only [Obs, and_true, true_and]; exact ⟨Int.natCast_nonneg _, Int.ofNat_lt.2 hlt, hlt⟩)) (by kernel_rfl) ?_)
        try simp only [InBlock, Then]
        refine (Tri.rgn (cfgB_ok.pins _) (by simp (maxSteps := 2000000) (disch := first | decide | omega | (simp only [List.length_append, List.length_cons, List.length_nil, List.length_take, List.length_drop]; omega)) only [Tryd.f137, kBoxes, kTwice, kTurn, cfgB, tyTabS, cipK, go_sem]; rfl) (by first | exact True.intro | (simp only [Obs, and_true, true_and]; omega) | (simp [Obs, AV.sizeL, AV.size, Kd.sz]; done) | (simp [Obs, AV.sizeL, AV.size, Kd.sz]; omega)) ?_)
        try simp only [InBlock, Then]
        have hd' := hd
        simp only [Bool.not_eq_false', decide_eq_true_eq] at hd'
        have hc' : (k : Int) < 255 := by simpa using hc
        refine ⟨k + 1, (by omega), (by omega), Wk.of ?_ ?_ rfl rfl⟩
        · simp only [lessTs, List.reduceReplicate, List.cons_append, List.nil_append, boxI, boxQ, if_pos hd'] <;> ((repeat' apply And.intro) <;> first | rfl | trivial)
        · simp only [lessHs, boxI, boxQ, boxV, if_pos hd'] <;> ((repeat' apply And.intro) <;> first | rfl | trivial)
    · refine Tri.exit ?_
      show Con.post _ _ _ _ _ _
      have hc' : k = 255 := by
        have : ¬ ((k : Int) < 255) := by simpa using hc
        omega
      subst hc'
      refine Con.fin (.inr rfl) (by simp only [Tryd.f137, resA, resA1, go_sem]; rfl) (by trivial) rfl ?_ rfl rfl
      simp only [lessHs, kBoxes, Con.of, List.map] <;> ((repeat' apply And.intro) <;> first | rfl | trivial)
theorem boxes_sum : FSumOK Tryd.prog cfgB.G 137 kBoxes.sum := Con.sumOK cfgB_ok kBoxes Tryd.func137 rfl rfl (Con.of_inv _ _ _) boxes_body
end Go.Proofs.YtlnkfdblkdhdgaaDoor.Ae

namespace Go.Proofs.YtlnkfdblkdhdgaaDoor.Ae
open Go.Vc Go.Proofs
set_option maxRecDepth 10000
set_option maxHeartbeats 2000000
def addI (keys : List (List UInt8)) (r : Nat) (s : List UInt8) : Nat → List UInt8
  | 0 => s
  | k + 1 => (addI keys r s k).set k ((addI keys r s k).getD k 0 ^^^ (keys.getD (4 * r + k / 4) (Kd.dflt a4)).getD (k % 4) 0)
def kAdd : Con := Con.of [.p cipK, .p a16, .v (.int .i64)] (fun x => [0 ≤ toI .i64 x.2.2.1, toI .i64 x.2.2.1 ≤ 10]) (fun x => ⟨.tuple [], [.pure cipK x.1, .pure a16 (addI x.1.2.1 (Int.toNat x.2.2.1) x.2.1 16)]⟩)
theorem add_body (p : kAdd.Par) (hp : ∀ q ∈ kAdd.pre p, q) : BodyOK Tryd.prog cfgA Tryd.f160 (Tryd.f160.body.get rfl) kAdd p := by
  obtain ⟨⟨(box : List UInt8), (keys : List (List UInt8)), u1⟩, (s : List UInt8), (n : Int), u⟩ := p
  obtain ⟨h1, h2, _⟩ := Obs.of hp
  replace h1 : (0 : Int) ≤ n := h1
  replace h2 : (n : Int) ≤ 10 := h2
  obtain ⟨r, rfl⟩ := Int.eq_ofNat_of_zero_le h1
  refine ⟨?_, Nat.le_refl _, rfl, rfl⟩
  show Tri _ _ _ (Code.seq _ (Code.block _ (Code.loop (Code.seq _ (Code.seq (Code.cond _ _ _) (Code.seq (Code.block _ (Code.seq _ _)) _)))))) _
  refine Tri.seq (Tri.reg (cfgA_ok.pins _) (by simp (maxSteps := 2000000) (disch := first | decide | omega | (simp only [List.length_append, List.length_cons, List.length_nil, List.length_take, List.length_drop]; omega)) only [Tryd.f160, kAdd, cfgA, tyTabS, go_sem]; rfl) (by first | exact True.intro | (simp only [Obs, and_true, true_and]; omega) | (simp [Obs, AV.sizeL, AV.size, Kd.sz]; done) | (simp [Obs, AV.sizeL, AV.size, Kd.sz]; omega)) ?_)
  refine Tri.block ?_
  refine Tri.loop (fun k : Nat => (⟨[some (.ptr 0 [] 0), some (.ptr 1 [] 0), some (.int .i64 (r : Int)), none, none, none, none, some (.int .i64 (k : Int))] ++ List.replicate 24 none, [.live (.pure cipK (box, keys, u1)), .live (.pure a16 (addI keys r s k))]⟩ : AS)) (· ≤ 16) (fun k => 16 - k) 0 ?_ (Nat.zero_le _) ?_
  · refine Wk.of ?_ ?_ rfl rfl
    · simp only [lessTs, List.reduceReplicate, List.cons_append, List.nil_append] <;> ((repeat' apply And.intro) <;> first | rfl | trivial)
    · simp only [lessHs, addI] <;> ((repeat' apply And.intro) <;> first | rfl | trivial)
  · intro k hk
    refine Tri.seq (Tri.reg (cfgA_ok.pins _) (by simp (maxSteps := 2000000) (disch := first | decide | omega | (simp only [List.length_append, List.length_cons, List.length_nil, List.length_take, List.length_drop]; omega)) only [Tryd.f160, kAdd, cfgA, tyTabS, go_sem]; rfl) (by first | exact True.intro | (simp only [Obs, and_true, true_and]; omega) | (simp [Obs, AV.sizeL, AV.size, Kd.sz]; done) | (simp [Obs, AV.sizeL, AV.size, Kd.sz]; omega)) ?_)
    refine Tri.seq ?_
    refine Tri.split (by simp only [AS.ev, go_sem]; rfl) (fun hc => ?_) (fun hc => ?_)
    · have hc' : k < 16 := by
        have : (k : Int) < 16 := by simpa using hc
        omega
      refine Tri.skp ?_
      refine Tri.seq (Tri.block ?_)
      refine Tri.seq (Tri.reg (cfgA_ok.pins _) (by simp (maxSteps := 2000000) (disch := first | decide | omega | (simp only [List.length_append, List.length_cons, List.length_nil, List.length_take, List.length_drop]; omega)) only [Tryd.f160, kAdd, cfgA, tyTabS, go_sem]; rfl) (by first | exact True.intro | (simp only [Obs, and_true, true_and]; omega) | (simp [Obs, AV.sizeL, AV.size, Kd.sz]; done) | (simp [Obs, AV.sizeL, AV.size, Kd.sz]; omega)) ?_)
      refine (Tri.drn (mixed) (cfgA_ok.pins _) (by simp (maxSteps := 2000000) (disch := first | decide | omega | (simp only [List.length_append, List.length_cons, List.length_nil, List.length_take, List.length_drop]; omega)) only [Tryd.f160, kAdd, cfgA, tyTabS, go_sem]; rfl) (by first | exact True.intro | (simp only [Obs, and_true, true_and]; omega) | (simp [Obs, AV.sizeL, AV.size, Kd.sz]; done) | (simp [Obs, AV.sizeL, AV.size, Kd.sz]; omega)) (by kernel_rfl) ?_)
      try simp only [InBlock, Then]
      refine (Tri.rgn (cfgA_ok.pins _) (by simp (maxSteps := 2000000) (disch := first | decide | omega | (simp only [List.length_append, List.length_cons, List.length_nil, List.length_take, List.length_drop]; omega)) only [Tryd.f160, kAdd, cfgA, tyTabS, go_sem]; rfl) (by first | exact True.intro | (simp only [Obs, and_true, true_and]; omega) | (simp [Obs, AV.sizeL, AV.size, Kd.sz]; done) | (simp [Obs, AV.sizeL, AV.size, Kd.sz]; omega)) ?_)
      try simp only [InBlock, Then]
      refine ⟨k + 1, (by omega), (by omega), Wk.of ?_ ?_ rfl rfl⟩
      · simp only [lessTs, List.reduceReplicate, List.cons_append, List.nil_append] <;> ((repeat' apply And.intro) <;> first | rfl | trivial)
      · simp only [lessHs, addI] <;> ((repeat' apply And.intro) <;> first | rfl | trivial)
    · refine Tri.exit ?_
      show Con.post _ _ _ _ _ _
      have hc' : k = 16 := by
        have : ¬ ((k : Int) < 16) := by simpa using hc
        omega
      subst hc'
      refine Con.fin (.inr rfl) (by simp only [Tryd.f160, resA, resA1, go_sem]; rfl) (by trivial) rfl ?_ rfl rfl
      simp only [lessHs, kAdd, Con.of, List.map] <;> ((repeat' apply And.intro) <;> first | rfl | trivial)
theorem add_sum : FSumOK Tryd.prog cfgA.G 160 kAdd.sum := Con.sumOK cfgA_ok kAdd Tryd.func160 rfl rfl (Con.of_inv _ _ _) add_body
end Go.Proofs.YtlnkfdblkdhdgaaDoor.Ae

namespace Go.Proofs.YtlnkfdblkdhdgaaDoor.Ae
open Go.Vc Go.Proofs
set_option maxRecDepth 10000
set_option maxHeartbeats 2000000
def shI (box old : List UInt8) : Nat → List UInt8
  | 0 => old
  | k + 1 => (shI box old k).set k (box.getD (old.getD ((k + 4 * (k % 4)) % 16) 0).toNat 0)
def kShift : Con := Con.of [.p cipK, .p a16] (fun _ => []) (fun x => ⟨.tuple [], [.pure cipK x.1, .pure a16 (shI x.1.1 x.2.1 16)]⟩)
theorem shift_body (p : kShift.Par) (hp : ∀ q ∈ kShift.pre p, q) : BodyOK Tryd.prog cfgA Tryd.f161 (Tryd.f161.body.get rfl) kShift p := by
  obtain ⟨⟨(box : List UInt8), (keys : List (List UInt8)), u1⟩, (s : List UInt8), u⟩ := p
  refine ⟨?_, Nat.le_refl _, rfl, rfl⟩
  show Tri _ _ _ (Code.seq _ (Code.seq _ (Code.block _ (Code.loop (Code.seq _ (Code.seq (Code.cond _ _ _) (Code.seq (Code.block _ (Code.seq _ _)) _))))))) _
  refine Tri.seq (Tri.reg (cfgA_ok.pins _) (by simp (maxSteps := 2000000) (disch := first | decide | omega | (simp only [List.length_append, List.length_cons, List.length_nil, List.length_take, List.length_drop]; omega)) only [Tryd.f161, kShift, cfgA, tyTabS, go_sem]; rfl) (by first | exact True.intro | (simp only [Obs, and_true, true_and]; omega) | (simp [Obs, AV.sizeL, AV.size, Kd.sz]; done) | (simp [Obs, AV.sizeL, AV.size, Kd.sz]; omega)) ?_)
  refine Tri.seq (Tri.reg (cfgA_ok.pins _) (by simp (maxSteps := 2000000) (disch := first | decide | omega | (simp only [List.length_append, List.length_cons, List.length_nil, List.length_take, List.length_drop]; omega)) only [Tryd.f161, kShift, cfgA, tyTabS, go_sem]; rfl) (by first | exact True.intro | (simp only [Obs, and_true, true_and]; omega) | (simp [Obs, AV.sizeL, AV.size, Kd.sz]; done) | (simp [Obs, AV.sizeL, AV.size, Kd.sz]; omega)) ?_)
  refine Tri.block ?_
  refine Tri.loop (fun k : Nat => (⟨[some (.ptr 0 [] 0), some (.ptr 1 [] 0), none, none, some (.ptr 2 [] 0), none, none, none, none, some (.int .i64 (k : Int))] ++ List.replicate 20 none, [.live (.pure cipK (box, keys, u1)), .live (.pure a16 (shI box s k)), .live (.pure a16 s)]⟩ : AS)) (· ≤ 16) (fun k => 16 - k) 0 ?_ (Nat.zero_le _) ?_
  · refine Wk.of ?_ ?_ rfl rfl
    · simp only [lessTs, List.reduceReplicate, List.cons_append, List.nil_append] <;> ((repeat' apply And.intro) <;> first | rfl | trivial)
    · simp only [lessHs, shI] <;> ((repeat' apply And.intro) <;> first | rfl | trivial)
  · intro k hk
    refine Tri.seq (Tri.reg (cfgA_ok.pins _) (by simp (maxSteps := 2000000) (disch := first | decide | omega | (simp only [List.length_append, List.length_cons, List.length_nil, List.length_take, List.length_drop]; omega)) only [Tryd.f161, kShift, cfgA, tyTabS, go_sem]; rfl) (by first | exact True.intro | (simp only [Obs, and_true, true_and]; omega) | (simp [Obs, AV.sizeL, AV.size, Kd.sz]; done) | (simp [Obs, AV.sizeL, AV.size, Kd.sz]; omega)) ?_)
    refine Tri.seq ?_
    refine Tri.split (by simp only [AS.ev, go_sem]; rfl) (fun hc => ?_) (fun hc => ?_)
    · have hc' : k < 16 := by
        have : (k : Int) < 16 := by simpa using hc
        omega
      refine Tri.skp ?_
      refine Tri.seq (Tri.block ?_)
      refine Tri.seq (Tri.reg (cfgA_ok.pins _) (by simp (maxSteps := 2000000) (disch := first | decide | omega | (simp only [List.length_append, List.length_cons, List.length_nil, List.length_take, List.length_drop]; omega)) only [Tryd.f161, kShift, cfgA, tyTabS, go_sem]; rfl) (by first | exact True.intro | (simp only [Obs, and_true, true_and]; omega) | (simp [Obs, AV.sizeL, AV.size, Kd.sz]; done) | (simp [Obs, AV.sizeL, AV.size, Kd.sz]; omega)) ?_)
      have hlt := UInt8.toNat_lt (s.getD ((k + 4 * (k % 4)) % 16) 0)
      refine (Tri.drn (mixed) (cfgA_ok.pins _) (by simp (maxSteps := 2000000) (disch := first | decide | omega | (simp only [List.length_append, List.length_cons, List.length_nil, List.length_take, List.length_drop]; omega)) only [Tryd.f161, kShift, cfgA, tyTabS, go_sem]; rfl) (by (simp only [Obs, and_true, true_and]; generalize hz : (s.getD ((k + 4 * (k % 4)) % 16) 0).toNat = z at *; omega)) (by kernel_rfl) ?_)
      try simp only [InBlock, Then]
      refine (Tri.rgn (cfgA_ok.pins _) (by simp (maxSteps := 2000000) (disch := first | decide | omega | (simp only [List.length_append, List.length_cons, List.length_nil, List.length_take, List.length_drop]; omega)) only [Tryd.f161, kShift, cfgA, tyTabS, go_sem]; rfl) (by first | exact True.intro | (simp only [Obs, and_true, true_and]; omega) | (simp [Obs, AV.sizeL, AV.size, Kd.sz]; done) | (simp [Obs, AV.sizeL, AV.size, Kd.sz]; omega)) ?_)
      try simp only [InBlock, Then]
      refine ⟨k + 1, (by omega), (by omega), Wk.of ?_ ?_ rfl rfl⟩
      · simp only [lessTs, List.reduceReplicate, List.cons_append, List.nil_append] <;> ((repeat' apply And.intro) <;> first | rfl | trivial)
      · simp only [lessHs, shI] <;> ((repeat' apply And.intro) <;> first | rfl | trivial)
    · refine Tri.exit ?_
      show Con.post _ _ _ _ _ _
      have hc' : k = 16 := by
        have : ¬ ((k : Int) < 16) := by simpa using hc
        omega
      subst hc'
      refine Con.fin (.inr rfl) (by simp only [Tryd.f161, resA, resA1, go_sem]; rfl) (by trivial) rfl ?_ rfl rfl
      simp only [lessHs, kShift, Con.of, List.map] <;> ((repeat' apply And.intro) <;> first | rfl | trivial)
theorem shift_sum : FSumOK Tryd.prog cfgA.G 161 kShift.sum := Con.sumOK cfgA_ok kShift Tryd.func161 rfl rfl (Con.of_inv _ _ _) shift_body
end Go.Proofs.YtlnkfdblkdhdgaaDoor.Ae

namespace Go.Proofs.YtlnkfdblkdhdgaaDoor.Ae
open Go.Vc Go.Proofs
set_option maxRecDepth 10000
set_option maxHeartbeats 2000000
def mixC (s col : List UInt8) (all : UInt8) (c : Nat) : Nat → List UInt8
  | 0 => s
  | j + 1 => (mixC s col all c j).set (4 * c + j) (col.getD j 0 ^^^ all ^^^ twice (col.getD j 0 ^^^ col.getD ((j + 1) % 4) 0))
def mixI (s : List UInt8) : Nat → List UInt8
  | 0 => s
  | c + 1 => let t := mixI s c; let col := (t.drop (4 * c)).take 4; mixC t col (col.getD 0 0 ^^^ col.getD 1 0 ^^^ col.getD 2 0 ^^^ col.getD 3 0) c 4
def kMix : Con := Con.of [.p a16] (fun _ => []) (fun x => ⟨.tuple [], [.pure a16 (mixI x.1 4)]⟩)
theorem mix_body (p : kMix.Par) (hp : ∀ q ∈ kMix.pre p, q) : BodyOK Tryd.prog cfgB Tryd.f162 (Tryd.f162.body.get rfl) kMix p := by
  obtain ⟨(s : List UInt8), u⟩ := p
  refine ⟨?_, Nat.le_refl _, rfl, rfl⟩
  show Tri _ _ _ (Code.seq _ (Code.block _ (Code.loop (Code.seq (Code.seq _ (Code.cond _ _ _)) (Code.seq (Code.block _ (Code.seq _ (Code.seq _ (Code.seq _ (Code.block _ (Code.loop (Code.seq _ (Code.seq (Code.cond _ _ _) (Code.seq (Code.block _ (Code.seq _ _)) _))))))))) _))))) _
  refine Tri.seq (Tri.reg (cfgB_ok.pins _) (by simp (maxSteps := 2000000) (disch := first | decide | omega | (simp only [List.length_append, List.length_cons, List.length_nil, List.length_take, List.length_drop]; omega)) only [Tryd.f162, kMix, kTwice, cfgB, tyTabS, go_sem]; rfl) (by first | exact True.intro | (simp only [Obs, and_true, true_and]; omega) | (simp [Obs, AV.sizeL, AV.size, Kd.sz]; done) | (simp [Obs, AV.sizeL, AV.size, Kd.sz]; omega)) ?_)
  refine Tri.block ?_
  refine Tri.loop (fun c : Nat => (⟨[some (.ptr 0 [] 0), none, some (.int .i64 ((4 * c : Nat) : Int))] ++ List.replicate 51 none, [.live (.pure a16 (mixI s c))]⟩ : AS)) (· ≤ 4) (fun k => 4 - k) 0 ?_ (Nat.zero_le _) ?_
  · refine Wk.of ?_ ?_ rfl rfl
    · simp only [lessTs, List.reduceReplicate, List.cons_append, List.nil_append] <;> ((repeat' apply And.intro) <;> first | rfl | trivial)
    · simp only [lessHs, mixI] <;> ((repeat' apply And.intro) <;> first | rfl | trivial)
  · intro c hc
    refine Tri.seq ?_
    refine Tri.seq (Tri.reg (cfgB_ok.pins _) (by simp (maxSteps := 2000000) (disch := first | decide | omega | (simp only [List.length_append, List.length_cons, List.length_nil, List.length_take, List.length_drop]; omega)) only [Tryd.f162, kMix, kTwice, cfgB, tyTabS, go_sem]; rfl) (by first | exact True.intro | (simp only [Obs, and_true, true_and]; omega) | (simp [Obs, AV.sizeL, AV.size, Kd.sz]; done) | (simp [Obs, AV.sizeL, AV.size, Kd.sz]; omega)) ?_)
    refine Tri.split (by simp only [AS.ev, go_sem]; rfl) (fun hb => ?_) (fun hb => ?_)
    · have hc' : c < 4 := by
        have : ((4 * c : Nat) : Int) < 16 := by simpa using hb
        omega
      refine Tri.skp ?_
      refine Tri.seq (Tri.block ?_)
      refine Tri.seq (Tri.reg (cfgB_ok.pins _) (by simp (maxSteps := 2000000) (disch := first | decide | omega | (simp only [List.length_append, List.length_cons, List.length_nil, List.length_take, List.length_drop]; omega)) only [Tryd.f162, kMix, kTwice, cfgB, tyTabS, go_sem]; rfl) (by first | exact True.intro | (simp only [Obs, and_true, true_and]; omega) | (simp [Obs, AV.sizeL, AV.size, Kd.sz]; done) | (simp [Obs, AV.sizeL, AV.size, Kd.sz]; omega)) ?_)
      refine Tri.seq (Tri.reg (cfgB_ok.pins _) (by simp (maxSteps := 2000000) (disch := first | decide | omega | (simp only [List.length_append, List.length_cons, List.length_nil, List.length_take, List.length_drop]; omega)) only [Tryd.f162, kMix, kTwice, cfgB, tyTabS, go_sem]; rfl) (by first | exact True.intro | (simp only [Obs, and_true, true_and]; omega) | (simp [Obs, AV.sizeL, AV.size, Kd.sz]; done) | (simp [Obs, AV.sizeL, AV.size, Kd.sz]; omega)) ?_)
      refine Tri.seq (Tri.reg (cfgB_ok.pins _) (by simp (maxSteps := 2000000) (disch := first | decide | omega | (simp only [List.length_append, List.length_cons, List.length_nil, List.length_take, List.length_drop]; omega)) only [Tryd.f162, kMix, kTwice, cfgB, tyTabS, go_sem]; rfl) (by first | exact True.intro | (simp only [Obs, and_true, true_and]; omega) | (simp [Obs, AV.sizeL, AV.size, Kd.sz]; done) | (simp [Obs, AV.sizeL, AV.size, Kd.sz]; omega)) ?_)
      generalize hcol : List.take 4 (List.drop (4 * c) (mixI s c)) = col
      generalize hall : col.getD 0 0 ^^^ col.getD 1 0 ^^^ col.getD 2 0 ^^^ col.getD 3 0 = all
      refine Tri.block ?_
      refine Tri.loop (fun j : Nat => (⟨[some (.ptr 0 [] 0), none, some (.int .i64 ((4 * c : Nat) : Int)), some (.ptr 1 [] 0), some (.int .u8 all)] ++ List.replicate 25 none ++ [some (.pure a4 col), some (.int .i64 (j : Int))] ++ List.replicate 22 none, [.live (.pure a16 (mixC (mixI s c) col all c j)), .live (.pure a4 col)]⟩ : AS)) (· ≤ 4) (fun k => 4 - k) 0 ?_ (Nat.zero_le _) ?_
      · refine Wk.of ?_ ?_ rfl rfl
        · simp only [lessTs, List.reduceReplicate, List.cons_append, List.nil_append] <;> ((repeat' apply And.intro) <;> first | rfl | trivial)
        · simp only [lessHs, mixC] <;> ((repeat' apply And.intro) <;> first | rfl | trivial)
      · intro j hj
        refine Tri.seq (Tri.reg (cfgB_ok.pins _) (by simp (maxSteps := 2000000) (disch := first | decide | omega | (simp only [List.length_append, List.length_cons, List.length_nil, List.length_take, List.length_drop]; omega)) only [Tryd.f162, kMix, kTwice, cfgB, tyTabS, go_sem]; rfl) (by first | exact True.intro | (simp only [Obs, and_true, true_and]; omega) | (simp [Obs, AV.sizeL, AV.size, Kd.sz]; done) | (simp [Obs, AV.sizeL, AV.size, Kd.sz]; omega)) ?_)
        refine Tri.seq ?_
        refine Tri.split (by simp only [AS.ev, go_sem]; rfl) (fun hd => ?_) (fun hd => ?_)
        · have hd' : j < 4 := by
            have : (j : Int) < 4 := by simpa using hd
            omega
          refine Tri.skp ?_
          refine Tri.seq (Tri.block ?_)
          refine Tri.seq (Tri.reg (cfgB_ok.pins _) (by simp (maxSteps := 2000000) (disch := first | decide | omega | (simp only [List.length_append, List.length_cons, List.length_nil, List.length_take, List.length_drop]; omega)) only [Tryd.f162, kMix, kTwice, cfgB, tyTabS, go_sem]; rfl) (by first | exact True.intro | (simp only [Obs, and_true, true_and]; omega) | (simp [Obs, AV.sizeL, AV.size, Kd.sz]; done) | (simp [Obs, AV.sizeL, AV.size, Kd.sz]; omega)) ?_)
          refine (Tri.drn (mixed) (cfgB_ok.pins _) (by simp (maxSteps := 2000000) (disch := first | decide | omega | (simp only [List.length_append, List.length_cons, List.length_nil, List.length_take, List.length_drop]; omega)) only [Tryd.f162, kMix, kTwice, cfgB, tyTabS, go_sem]; rfl) (by first | exact True.intro | (simp only [Obs, and_true, true_and]; omega) | (simp [Obs, AV.sizeL, AV.size, Kd.sz]; done) | (simp [Obs, AV.sizeL, AV.size, Kd.sz]; omega)) (by kernel_rfl) ?_)
          try simp only [InBlock, Then]
          refine (Tri.rgn (cfgB_ok.pins _) (by simp (maxSteps := 2000000) (disch := first | decide | omega | (simp only [List.length_append, List.length_cons, List.length_nil, List.length_take, List.length_drop]; omega)) only [Tryd.f162, kMix, kTwice, cfgB, tyTabS, go_sem]; rfl) (by first | exact True.intro | (simp only [Obs, and_true, true_and]; omega) | (simp [Obs, AV.sizeL, AV.size, Kd.sz]; done) | (simp [Obs, AV.sizeL, AV.size, Kd.sz]; omega)) ?_)
          try simp only [InBlock, Then]
          refine ⟨j + 1, (by omega), (by omega), Wk.of ?_ ?_ rfl rfl⟩
          · simp only [lessTs, List.reduceReplicate, List.cons_append, List.nil_append] <;> ((repeat' apply And.intro) <;> first | rfl | trivial)
          · simp only [lessHs, mixC] <;> ((repeat' apply And.intro) <;> first | rfl | trivial)
        · refine Tri.exit ?_
          have hd' : j = 4 := by
            have : ¬ ((j : Int) < 4) := by simpa using hd
            omega
          subst hd'
          simp only [Then, InBlock, if_true]
          refine (Tri.rgn (cfgB_ok.pins _) (by simp (maxSteps := 2000000) (disch := first | decide | omega | (simp only [List.length_append, List.length_cons, List.length_nil, List.length_take, List.length_drop]; omega)) only [Tryd.f162, kMix, kTwice, cfgB, tyTabS, go_sem]; rfl) (by first | exact True.intro | (simp only [Obs, and_true, true_and]; omega) | (simp [Obs, AV.sizeL, AV.size, Kd.sz]; done) | (simp [Obs, AV.sizeL, AV.size, Kd.sz]; omega)) ?_)
          try simp only [InBlock, Then]
          refine ⟨c + 1, (by omega), (by omega), Wk.of ?_ ?_ rfl rfl⟩
          · simp only [lessTs, List.reduceReplicate, List.cons_append, List.nil_append] <;> ((repeat' apply And.intro) <;> first | rfl | trivial)
          · simp only [lessHs, mixI, hcol, hall] <;> ((repeat' apply And.intro) <;> first | rfl | trivial)
    · refine Tri.exit ?_
      show Con.post _ _ _ _ _ _
      have hc' : c = 4 := by
        have : ¬ (((4 * c : Nat) : Int) < 16) := by simpa using hb
        omega
      subst hc'
      refine Con.fin (.inr rfl) (by simp only [Tryd.f162, resA, resA1, go_sem]; rfl) (by trivial) rfl ?_ rfl rfl
      simp only [lessHs, kMix, Con.of, List.map] <;> ((repeat' apply And.intro) <;> first | rfl | trivial)
theorem mix_sum : FSumOK Tryd.prog cfgB.G 162 kMix.sum := Con.sumOK cfgB_ok kMix Tryd.func162 rfl rfl (Con.of_inv _ _ _) mix_body
end Go.Proofs.YtlnkfdblkdhdgaaDoor.Ae

namespace Go.Proofs.YtlnkfdblkdhdgaaDoor.Ae
open Go.Vc Go.Proofs
set_option maxRecDepth 10000
set_option maxHeartbeats 2000000
def ctI (a b : UInt64) : Nat → UInt64 × UInt64 × List UInt8
  | 0 => (a, b, List.replicate 16 0)
  | j + 1 => let s := ctI a b j; (s.1 >>> 8, s.2.1 >>> 8, (s.2.2.set (7 - j) s.1.toUInt8).set (8 + (7 - j)) s.2.1.toUInt8)
def kCounter : Con := Con.of [.v (.int .u64), .v (.int .u64)] (fun _ => []) (fun x => ⟨.pure a16 (ctI x.1 x.2.1 8).2.2, []⟩)
theorem counter_body (p : kCounter.Par) (hp : ∀ q ∈ kCounter.pre p, q) : BodyOK Tryd.prog cfgA Tryd.f141 (Tryd.f141.body.get rfl) kCounter p := by
  obtain ⟨(a : UInt64), (b : UInt64), u⟩ := p
  refine ⟨?_, Nat.le_refl _, rfl, rfl⟩
  show Tri _ _ _ (Code.seq _ (Code.seq (Code.seq _ (Code.block _ (Code.loop (Code.seq (Code.seq _ (Code.cond _ _ _)) (Code.seq (Code.block _ (Code.seq _ _)) _))))) (Code.seq _ _))) _
  refine Tri.seq (Tri.reg (cfgA_ok.pins _) (by simp (maxSteps := 2000000) (disch := first | decide | omega | (simp only [List.length_append, List.length_cons, List.length_nil, List.length_take, List.length_drop]; omega)) only [Tryd.f141, kCounter, cfgA, tyTabS, go_sem]; rfl) (by first | exact True.intro | (simp only [Obs, and_true, true_and]; omega) | (simp [Obs, AV.sizeL, AV.size, Kd.sz]; done) | (simp [Obs, AV.sizeL, AV.size, Kd.sz]; omega)) ?_)
  refine Tri.seq ?_
  refine Tri.seq (Tri.reg (cfgA_ok.pins _) (by simp (maxSteps := 2000000) (disch := first | decide | omega | (simp only [List.length_append, List.length_cons, List.length_nil, List.length_take, List.length_drop]; omega)) only [Tryd.f141, kCounter, cfgA, tyTabS, go_sem]; rfl) (by first | exact True.intro | (simp only [Obs, and_true, true_and]; omega) | (simp [Obs, AV.sizeL, AV.size, Kd.sz]; done) | (simp [Obs, AV.sizeL, AV.size, Kd.sz]; omega)) ?_)
  refine Tri.block ?_
  refine Tri.loop (fun j : Nat => (⟨[some (.int .u64 (ctI a b j).1), some (.int .u64 (ctI a b j).2.1), none, none, some (.ptr 0 [] 0), some (.int .i64 (7 - (j : Int)))] ++ List.replicate 18 none, [.live (.pure a16 (ctI a b j).2.2)]⟩ : AS)) (· ≤ 8) (fun k => 8 - k) 0 ?_ (Nat.zero_le _) ?_
  · refine Wk.of ?_ ?_ rfl rfl
    · simp only [lessTs, List.reduceReplicate, List.cons_append, List.nil_append] <;> ((repeat' apply And.intro) <;> first | rfl | trivial)
    · simp only [lessHs, ctI] <;> ((repeat' apply And.intro) <;> first | rfl | trivial)
  · intro j hj
    refine Tri.seq ?_
    refine Tri.seq (Tri.reg (cfgA_ok.pins _) (by simp (maxSteps := 2000000) (disch := first | decide | omega | (simp only [List.length_append, List.length_cons, List.length_nil, List.length_take, List.length_drop]; omega)) only [Tryd.f141, kCounter, cfgA, tyTabS, go_sem]; rfl) (by first | exact True.intro | (simp only [Obs, and_true, true_and]; omega) | (simp [Obs, AV.sizeL, AV.size, Kd.sz]; done) | (simp [Obs, AV.sizeL, AV.size, Kd.sz]; omega)) ?_)
    refine Tri.split (by simp only [AS.ev, go_sem]; rfl) (fun hc => ?_) (fun hc => ?_)
    · have hc' : j < 8 := by
        have : ¬ ((7 - (j : Int)) < 0) := by simpa using hc
        omega
      refine Tri.skp ?_
      refine Tri.seq (Tri.block ?_)
      obtain ⟨m, hm⟩ : ∃ m : Nat, 7 - (j : Int) = (m : Int) := ⟨7 - j, by omega⟩
      have hm' : 7 - j = m := by omega
      simp only [hm]
      refine Tri.seq (Tri.reg (cfgA_ok.pins _) (by simp (maxSteps := 2000000) (disch := first | decide | omega | (simp only [List.length_append, List.length_cons, List.length_nil, List.length_take, List.length_drop]; omega)) only [Tryd.f141, kCounter, cfgA, tyTabS, go_sem]; rfl) (by first | exact True.intro | (simp only [Obs, and_true, true_and]; omega) | (simp [Obs, AV.sizeL, AV.size, Kd.sz]; done) | (simp [Obs, AV.sizeL, AV.size, Kd.sz]; omega)) ?_)
      refine (Tri.rgn (cfgA_ok.pins _) (by simp (maxSteps := 2000000) (disch := first | decide | omega | (simp only [List.length_append, List.length_cons, List.length_nil, List.length_take, List.length_drop]; omega)) only [Tryd.f141, kCounter, cfgA, tyTabS, go_sem]; rfl) (by first | exact True.intro | (simp only [Obs, and_true, true_and]; omega) | (simp [Obs, AV.sizeL, AV.size, Kd.sz]; done) | (simp [Obs, AV.sizeL, AV.size, Kd.sz]; omega)) ?_)
      try simp only [InBlock, Then]
      refine (Tri.rgn (cfgA_ok.pins _) (by simp (maxSteps := 2000000) (disch := first | decide | omega | (simp only [List.length_append, List.length_cons, List.length_nil, List.length_take, List.length_drop]; omega)) only [Tryd.f141, kCounter, cfgA, tyTabS, go_sem]; rfl) (by first | exact True.intro | (simp only [Obs, and_true, true_and]; omega) | (simp [Obs, AV.sizeL, AV.size, Kd.sz]; done) | (simp [Obs, AV.sizeL, AV.size, Kd.sz]; omega)) ?_)
      try simp only [InBlock, Then]
      refine ⟨j + 1, (by omega), (by omega), Wk.of ?_ ?_ rfl rfl⟩
      · simp only [lessTs, List.reduceReplicate, List.cons_append, List.nil_append, ctI, ← hm, Int.natCast_add, Int.sub_sub] <;> ((repeat' apply And.intro) <;> first | rfl | trivial)
      · simp only [lessHs, ctI, hm'] <;> ((repeat' apply And.intro) <;> first | rfl | trivial)
    · refine Tri.exit ?_
      have hc' : j = 8 := by
        have : ((7 - (j : Int)) < 0) := by simpa using hc
        omega
      subst hc'
      simp only [Then, InBlock, if_true]
      refine Tri.seq (Tri.reg (cfgA_ok.pins _) (by simp (maxSteps := 2000000) (disch := first | decide | omega | (simp only [List.length_append, List.length_cons, List.length_nil, List.length_take, List.length_drop]; omega)) only [Tryd.f141, kCounter, cfgA, tyTabS, go_sem]; rfl) (by first | exact True.intro | (simp only [Obs, and_true, true_and]; omega) | (simp [Obs, AV.sizeL, AV.size, Kd.sz]; done) | (simp [Obs, AV.sizeL, AV.size, Kd.sz]; omega)) ?_)
      refine Tri.ret ?_
      refine Con.fin (.inl rfl) (by simp only [Tryd.f141, cfgA, tyTabS, resA, resA1, go_sem]; rfl) (by simp only [Obs, and_true, true_and]) rfl trivial rfl rfl
theorem counter_sum : FSumOK Tryd.prog cfgA.G 141 kCounter.sum := Con.sumOK cfgA_ok kCounter Tryd.func141 rfl rfl (Con.of_inv _ _ _) counter_body
end Go.Proofs.YtlnkfdblkdhdgaaDoor.Ae

namespace Go.Proofs.YtlnkfdblkdhdgaaDoor.Ae
open Go.Vc Go.Proofs
set_option maxRecDepth 10000
set_option maxHeartbeats 2000000
def cfgC : Cfg2 := { ty := tyTabS, fn := fun | 138 => some kTwice.sum | 160 => some kAdd.sum | 161 => some kShift.sum | 162 => some kMix.sum | 141 => some kCounter.sum | 159 => some kTurn.sum | _ => none, G := shaG, pin := [], eq := fun _ => none }
theorem cfgC_ok : CfgOK Tryd.prog cfgC := ⟨tysSOK, (fun f s h => by
  simp only [cfgC] at h
  split at h
  · injection h with h; subst h; exact .inl twice_sum
  · injection h with h; subst h; exact .inl add_sum
  · injection h with h; subst h; exact .inl shift_sum
  · injection h with h; subst h; exact .inl mix_sum
  · injection h with h; subst h; exact .inl counter_sum
  · injection h with h; subst h; exact .inl turn_sum
  · cases h), (fun t d h => by cases h)⟩
def rndI (box : List UInt8) (keys : List (List UInt8)) (s : List UInt8) : Nat → List UInt8
  | 0 => addI keys 0 s 16
  | r + 1 => let t := shI box (rndI box keys s r) 16; addI keys (r + 1) (if r + 1 < 10 then mixI t 4 else t) 16
def kBlock : Con := Con.of [.p cipK, .v a16] (fun _ => []) (fun x => ⟨.pure a16 (rndI x.1.1 x.1.2.1 x.2.1 10), [.pure cipK x.1]⟩)
theorem block_body (p : kBlock.Par) (hp : ∀ q ∈ kBlock.pre p, q) : BodyOK Tryd.prog cfgC Tryd.f140 (Tryd.f140.body.get rfl) kBlock p := by
  obtain ⟨⟨(box : List UInt8), (keys : List (List UInt8)), u1⟩, (s : List UInt8), u⟩ := p
  refine ⟨?_, Nat.le_refl _, rfl, rfl⟩
  show Tri _ _ _ (Code.seq _ (Code.seq _ (Code.seq (Code.seq _ (Code.block _ (Code.loop (Code.seq (Code.seq _ (Code.cond _ _ _)) (Code.seq (Code.block _ (Code.seq _ (Code.seq (Code.seq _ (Code.cond _ _ _)) _))) _))))) (Code.seq _ _)))) _
  refine Tri.seq (Tri.reg (cfgC_ok.pins _) (by simp (maxSteps := 2000000) (disch := first | decide | omega | (simp only [List.length_append, List.length_cons, List.length_nil, List.length_take, List.length_drop]; omega)) only [Tryd.f140, kBlock, kAdd, kShift, kMix, cfgC, tyTabS, go_sem]; rfl) (by first | exact True.intro | (simp only [Obs, and_true, true_and]; omega) | (simp [Obs, AV.sizeL, AV.size, Kd.sz]; done) | (simp [Obs, AV.sizeL, AV.size, Kd.sz]; omega)) ?_)
  refine Tri.seq (Tri.reg (cfgC_ok.pins _) (by simp (maxSteps := 2000000) (disch := first | decide | omega | (simp only [List.length_append, List.length_cons, List.length_nil, List.length_take, List.length_drop]; omega)) only [Tryd.f140, kBlock, kAdd, kShift, kMix, cfgC, tyTabS, go_sem]; rfl) (by first | exact True.intro | (simp only [Obs, and_true, true_and]; omega) | (simp [Obs, AV.sizeL, AV.size, Kd.sz]; done) | (simp [Obs, AV.sizeL, AV.size, Kd.sz]; omega)) ?_)
  refine Tri.seq ?_
  refine Tri.seq (Tri.reg (cfgC_ok.pins _) (by simp (maxSteps := 2000000) (disch := first | decide | omega | (simp only [List.length_append, List.length_cons, List.length_nil, List.length_take, List.length_drop]; omega)) only [Tryd.f140, kBlock, kAdd, kShift, kMix, cfgC, tyTabS, go_sem]; rfl) (by first | exact True.intro | (simp only [Obs, and_true, true_and]; omega) | (simp [Obs, AV.sizeL, AV.size, Kd.sz]; done) | (simp [Obs, AV.sizeL, AV.size, Kd.sz]; omega)) ?_)
  refine Tri.block ?_
  refine Tri.loop (fun r : Nat => (⟨[some (.ptr 0 [] 0), none, none, some (.ptr 1 [] 0), some (.ptr 2 [] 0), some (.int .i64 ((r + 1 : Nat) : Int))] ++ List.replicate 15 none, [.live (.pure cipK (box, keys, u1)), .live (.pure a16 (rndI box keys s r)), .live (.pure a16 (Kd.dflt a16))]⟩ : AS)) (· ≤ 10) (fun k => 10 - k) 0 ?_ (Nat.zero_le _) ?_
  · refine Wk.of ?_ ?_ rfl rfl
    · simp only [lessTs, List.reduceReplicate, List.cons_append, List.nil_append] <;> ((repeat' apply And.intro) <;> first | rfl | trivial)
    · simp only [lessHs, rndI] <;> ((repeat' apply And.intro) <;> first | rfl | trivial)
  · intro r hr
    refine Tri.seq ?_
    refine Tri.seq (Tri.reg (cfgC_ok.pins _) (by simp (maxSteps := 2000000) (disch := first | decide | omega | (simp only [List.length_append, List.length_cons, List.length_nil, List.length_take, List.length_drop]; omega)) only [Tryd.f140, kBlock, kAdd, kShift, kMix, cfgC, tyTabS, go_sem]; rfl) (by first | exact True.intro | (simp only [Obs, and_true, true_and]; omega) | (simp [Obs, AV.sizeL, AV.size, Kd.sz]; done) | (simp [Obs, AV.sizeL, AV.size, Kd.sz]; omega)) ?_)
    refine Tri.split (by simp only [AS.ev, go_sem]; rfl) (fun hc => ?_) (fun hc => ?_)
    · have hc' : r < 10 := by
        have : ¬ (10 < ((r + 1 : Nat) : Int)) := by simpa using hc
        omega
      refine Tri.skp ?_
      refine Tri.seq (Tri.block ?_)
      refine Tri.seq (Tri.reg (cfgC_ok.pins _) (by simp (maxSteps := 2000000) (disch := first | decide | omega | (simp only [List.length_append, List.length_cons, List.length_nil, List.length_take, List.length_drop]; omega)) only [Tryd.f140, kBlock, kAdd, kShift, kMix, cfgC, tyTabS, go_sem]; rfl) (by first | exact True.intro | (simp only [Obs, and_true, true_and]; omega) | (simp [Obs, AV.sizeL, AV.size, Kd.sz]; done) | (simp [Obs, AV.sizeL, AV.size, Kd.sz]; omega)) ?_)
      refine Tri.seq ?_
      refine Tri.seq (Tri.reg (cfgC_ok.pins _) (by simp (maxSteps := 2000000) (disch := first | decide | omega | (simp only [List.length_append, List.length_cons, List.length_nil, List.length_take, List.length_drop]; omega)) only [Tryd.f140, kBlock, kAdd, kShift, kMix, cfgC, tyTabS, go_sem]; rfl) (by first | exact True.intro | (simp only [Obs, and_true, true_and]; omega) | (simp [Obs, AV.sizeL, AV.size, Kd.sz]; done) | (simp [Obs, AV.sizeL, AV.size, Kd.sz]; omega)) ?_)
      refine Tri.split (by simp only [AS.ev, go_sem]; rfl) (fun hd => ?_) (fun hd => ?_)
      · have hd' : r + 1 < 10 := by
          have : (((r + 1 : Nat) : Int) < 10) := by simpa using hd
          omega
        refine (Tri.rgn (cfgC_ok.pins _) (by simp (maxSteps := 2000000) (disch := first | decide | omega | (simp only [List.length_append, List.length_cons, List.length_nil, List.length_take, List.length_drop]; omega)) only [Tryd.f140, kBlock, kAdd, kShift, kMix, cfgC, tyTabS, go_sem]; rfl) (by first | exact True.intro | (simp only [Obs, and_true, true_and]; omega) | (simp [Obs, AV.sizeL, AV.size, Kd.sz]; done) | (simp [Obs, AV.sizeL, AV.size, Kd.sz]; omega)) ?_)
        try simp only [InBlock, Then]
        refine (Tri.rgn (cfgC_ok.pins _) (by simp (maxSteps := 2000000) (disch := first | decide | omega | (simp only [List.length_append, List.length_cons, List.length_nil, List.length_take, List.length_drop]; omega)) only [Tryd.f140, kBlock, kAdd, kShift, kMix, cfgC, tyTabS, go_sem]; rfl) (by first | exact True.intro | (simp only [Obs, and_true, true_and]; omega) | (simp [Obs, AV.sizeL, AV.size, Kd.sz]; done) | (simp [Obs, AV.sizeL, AV.size, Kd.sz]; omega)) ?_)
        try simp only [InBlock, Then]
        refine (Tri.rgn (cfgC_ok.pins _) (by simp (maxSteps := 2000000) (disch := first | decide | omega | (simp only [List.length_append, List.length_cons, List.length_nil, List.length_take, List.length_drop]; omega)) only [Tryd.f140, kBlock, kAdd, kShift, kMix, cfgC, tyTabS, go_sem]; rfl) (by first | exact True.intro | (simp only [Obs, and_true, true_and]; omega) | (simp [Obs, AV.sizeL, AV.size, Kd.sz]; done) | (simp [Obs, AV.sizeL, AV.size, Kd.sz]; omega)) ?_)
        try simp only [InBlock, Then]
        refine ⟨r + 1, (by omega), (by omega), Wk.of ?_ ?_ rfl rfl⟩
        · simp only [lessTs, List.reduceReplicate, List.cons_append, List.nil_append] <;> ((repeat' apply And.intro) <;> first | rfl | trivial)
        · simp only [lessHs, rndI, if_pos hd'] <;> ((repeat' apply And.intro) <;> first | rfl | trivial)
      · have hd' : ¬ (r + 1 < 10) := by
          have : ¬ (((r + 1 : Nat) : Int) < 10) := by simpa using hd
          omega
        refine Tri.skp ?_
        refine (Tri.rgn (cfgC_ok.pins _) (by simp (maxSteps := 2000000) (disch := first | decide | omega | (simp only [List.length_append, List.length_cons, List.length_nil, List.length_take, List.length_drop]; omega)) only [Tryd.f140, kBlock, kAdd, kShift, kMix, cfgC, tyTabS, go_sem]; rfl) (by first | exact True.intro | (simp only [Obs, and_true, true_and]; omega) | (simp [Obs, AV.sizeL, AV.size, Kd.sz]; done) | (simp [Obs, AV.sizeL, AV.size, Kd.sz]; omega)) ?_)
        try simp only [InBlock, Then]
        refine (Tri.rgn (cfgC_ok.pins _) (by simp (maxSteps := 2000000) (disch := first | decide | omega | (simp only [List.length_append, List.length_cons, List.length_nil, List.length_take, List.length_drop]; omega)) only [Tryd.f140, kBlock, kAdd, kShift, kMix, cfgC, tyTabS, go_sem]; rfl) (by first | exact True.intro | (simp only [Obs, and_true, true_and]; omega) | (simp [Obs, AV.sizeL, AV.size, Kd.sz]; done) | (simp [Obs, AV.sizeL, AV.size, Kd.sz]; omega)) ?_)
        try simp only [InBlock, Then]
        refine ⟨r + 1, (by omega), (by omega), Wk.of ?_ ?_ rfl rfl⟩
        · simp only [lessTs, List.reduceReplicate, List.cons_append, List.nil_append] <;> ((repeat' apply And.intro) <;> first | rfl | trivial)
        · simp only [lessHs, rndI, if_neg hd'] <;> ((repeat' apply And.intro) <;> first | rfl | trivial)
    · refine Tri.exit ?_
      have hc' : r = 10 := by
        have : (10 < ((r + 1 : Nat) : Int)) := by simpa using hc
        omega
      subst hc'
      simp only [Then, InBlock, if_true]
      refine Tri.seq (Tri.reg (cfgC_ok.pins _) (by simp (maxSteps := 2000000) (disch := first | decide | omega | (simp only [List.length_append, List.length_cons, List.length_nil, List.length_take, List.length_drop]; omega)) only [Tryd.f140, kBlock, kAdd, kShift, kMix, cfgC, tyTabS, go_sem]; rfl) (by first | exact True.intro | (simp only [Obs, and_true, true_and]; omega) | (simp [Obs, AV.sizeL, AV.size, Kd.sz]; done) | (simp [Obs, AV.sizeL, AV.size, Kd.sz]; omega)) ?_)
      refine Tri.ret ?_
      refine Con.fin (.inl rfl) (by simp only [Tryd.f140, cfgC, tyTabS, resA, resA1, go_sem]; rfl) (by simp only [Obs, and_true, true_and]) rfl ?_ rfl rfl
      simp only [lessHs, kBlock, Con.of, List.map] <;> ((repeat' apply And.intro) <;> first | rfl | trivial)
theorem block_sum : FSumOK Tryd.prog cfgC.G 140 kBlock.sum := Con.sumOK cfgC_ok kBlock Tryd.func140 rfl rfl (Con.of_inv _ _ _) block_body
end Go.Proofs.YtlnkfdblkdhdgaaDoor.Ae
