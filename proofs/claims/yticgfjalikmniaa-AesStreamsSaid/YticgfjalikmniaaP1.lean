/- Part of a proof: any data under any key and number are turned as the document says -/
import Derived.Test.YticgfjalikmniaaVc3
import Derived.Test.YticgfjalikmniaaProg
namespace Go.Proofs.Yticgfjalikmniaa
set_option linter.unusedVariables false
set_option linter.unusedSimpArgs false
open Go.Vc Go.Proofs
abbrev u8K : Kd := .int .u8
abbrev a16 : Kd := .arr 16 (.int .u8)
abbrev a4 : Kd := .arr 4 (.int .u8)
abbrev a256 : Kd := .arr 256 (.int .u8)
abbrev a44 : Kd := .arr 44 a4
abbrev cipK : Kd := .st (.pair a256 (.pair a44 .unit))
def tyTab : TypeId → Option TyI
  | 3 => some (.kd1 (.int .i64) (.int .i64) 8)
  | 4 => some (.kd1 .bool .bool 1)
  | 5 => some (.kd1 (.int .u8) (.int .u8) 1)
  | 9 => some (.kd1 .str .str 16)
  | 22 => some (.kd1 (.arr 16 5) a16 16)
  | 23 => some (.kd1 (.arr 16 5) a16 16)
  | 25 => some (.ptr1 42)
  | 28 => some (.ptr1 50)
  | 32 => some (.kd1 (.int .u64) (.int .u64) 8)
  | 33 => some (.slice1 5)
  | 38 => some (.kd1 (.arr 256 5) a256 256)
  | 39 => some (.kd1 (.arr 4 5) a4 4)
  | 40 => some (.kd1 (.arr 44 39) a44 176)
  | 42 => some (.kd1 (.st [(38, 0, 256), (40, 256, 176)]) cipK 432)
  | 43 => some (.ptr1 39)
  | 46 => some (.ptr1 22)
  | 50 => some (.kd1 (.st [(38, 0, 256), (40, 256, 176)]) cipK 432)
  | 53 => some (.kd1 (.int .u64) (.int .u64) 8)
  | _ => none
theorem tysOK : TysOK Try.prog tyTab := by
  intro t i h
  unfold tyTab at h
  split at h <;> (try cases h)
  · exact TyOK.kd1 (td := .int .i64) Try.underlying3 (by kernel_rfl)
  · exact TyOK.kd1 (td := .bool) Try.underlying4 (by kernel_rfl)
  · exact TyOK.kd1 (td := .int .u8) Try.underlying5 (by kernel_rfl)
  · exact TyOK.kd1 (td := .str) Try.underlying9 (by kernel_rfl)
  · exact TyOK.kd1 (td := .arr 16 5) Try.underlying22 (by kernel_rfl)
  · exact TyOK.kd1 (td := .arr 16 5) Try.underlying23 (by kernel_rfl)
  · exact TyOK.ptr1 Try.underlying25 (by kernel_rfl)
  · exact TyOK.ptr1 Try.underlying28 (by kernel_rfl)
  · exact TyOK.kd1 (td := .int .u64) Try.underlying32 (by kernel_rfl)
  · exact TyOK.slice1 Try.underlying33 (by kernel_rfl)
  · exact TyOK.kd1 (td := .arr 256 5) Try.underlying38 (by kernel_rfl)
  · exact TyOK.kd1 (td := .arr 4 5) Try.underlying39 (by kernel_rfl)
  · exact TyOK.kd1 (td := .arr 44 39) Try.underlying40 (by kernel_rfl)
  · exact TyOK.kd1 (td := .st [(38, 0, 256), (40, 256, 176)]) ⟨_, Try.underlying42, by kernel_rfl, by kernel_rfl⟩ (by kernel_rfl)
  · exact TyOK.ptr1 Try.underlying43 (by kernel_rfl)
  · exact TyOK.ptr1 Try.underlying46 (by kernel_rfl)
  · exact TyOK.kd1 (td := .st [(38, 0, 256), (40, 256, 176)]) ⟨_, Try.underlying50, by kernel_rfl, by kernel_rfl⟩ (by kernel_rfl)
  · exact TyOK.kd1 (td := .int .u64) Try.underlying53 (by kernel_rfl)
end Go.Proofs.Yticgfjalikmniaa

namespace Go.Proofs.Yticgfjalikmniaa
set_option linter.unusedVariables false
set_option linter.unusedSimpArgs false
-- SEM
open Go.Vc Go.Proofs
set_option linter.unusedSimpArgs false
set_option maxRecDepth 10000
def twice (b : UInt8) : UInt8 := if b &&& 128 = 0 then b <<< 1 else (b <<< 1) ^^^ 27
def kTwice : Con := Con.of [.v (.int .u8)] (fun _ => []) (fun x => ⟨.int .u8 (twice x.1), []⟩)
def cfgA : Cfg2 := { ty := tyTab, fn := fun _ => none, G := fun _ => none, pin := [], eq := fun _ => none }
theorem cfgA_ok : CfgOK Try.prog cfgA := ⟨tysOK, (fun f s h => by cases h), (fun t d h => by cases h)⟩
theorem twice_body (p : kTwice.Par) : BodyOK Try.prog cfgA Try.f16 (Try.f16.body.get rfl) kTwice p := by
  obtain ⟨x, u⟩ := p
  refine ⟨?_, Nat.le_refl _, rfl, rfl⟩
  show Tri _ _ _ (Code.seq _ (Code.seq (Code.seq _ (Code.cond _ (Code.seq _ _) _)) (Code.seq _ _))) _
  refine Tri.seq (Tri.reg (cfgA_ok.pins _) (by simp only [Try.f16, kTwice, cfgA, tyTab, go_sem, ↓reduceIte, reduceCtorEq, Nat.reduceLT, Nat.reduceSub, Nat.reduceAdd, Nat.reduceMul, Nat.reduceEqDiff, Nat.reduceBEq, Nat.reduceBNe, Nat.reduceLeDiff, Nat.reduceDiv, Nat.reduceMod, Nat.reducePow, List.reduceReplicate, UInt8.reduceOfNat, UInt32.reduceOfNat, UInt64.reduceOfNat, Int.reduceLE, Int.reduceLT, Int.reduceNeg, Int.reduceToNat, Int.reduceAdd, Int.reduceSub, Int.reduceMul, Int.reduceEq, UInt64.reduceToNat, UInt8.reduceToNat, UInt32.reduceToNat]; rfl) (by simp only [Obs]) ?_)
  refine Tri.seq (Tri.seq (Tri.reg (cfgA_ok.pins _) (by simp only [Try.f16, kTwice, cfgA, tyTab, go_sem, ↓reduceIte, reduceCtorEq, Nat.reduceLT, Nat.reduceSub, Nat.reduceAdd, Nat.reduceMul, Nat.reduceEqDiff, Nat.reduceBEq, Nat.reduceBNe, Nat.reduceLeDiff, Nat.reduceDiv, Nat.reduceMod, Nat.reducePow, List.reduceReplicate, UInt8.reduceOfNat, UInt32.reduceOfNat, UInt64.reduceOfNat, Int.reduceLE, Int.reduceLT, Int.reduceNeg, Int.reduceToNat, Int.reduceAdd, Int.reduceSub, Int.reduceMul, Int.reduceEq, UInt64.reduceToNat, UInt8.reduceToNat, UInt32.reduceToNat]; rfl) (by simp only [Obs]) ?_))
  refine Tri.split (b := !decide (x &&& 128 = 0)) rfl (fun hb => ?_) (fun hb => ?_)
  · refine Tri.seq (Tri.reg (cfgA_ok.pins _) (by simp only [Try.f16, kTwice, cfgA, tyTab, go_sem, ↓reduceIte, reduceCtorEq, Nat.reduceLT, Nat.reduceSub, Nat.reduceAdd, Nat.reduceMul, Nat.reduceEqDiff, Nat.reduceBEq, Nat.reduceBNe, Nat.reduceLeDiff, Nat.reduceDiv, Nat.reduceMod, Nat.reducePow, List.reduceReplicate, UInt8.reduceOfNat, UInt32.reduceOfNat, UInt64.reduceOfNat, Int.reduceLE, Int.reduceLT, Int.reduceNeg, Int.reduceToNat, Int.reduceAdd, Int.reduceSub, Int.reduceMul, Int.reduceEq, UInt64.reduceToNat, UInt8.reduceToNat, UInt32.reduceToNat]; rfl) (by simp [Obs]) ?_)
    refine Tri.ret ?_
    refine Con.done (.inl rfl) (by simp only [Try.f16, resA, resA1, go_sem, ↓reduceIte, reduceCtorEq, Nat.reduceLT, Nat.reduceSub, Nat.reduceAdd, Nat.reduceMul, Nat.reduceEqDiff, Nat.reduceBEq, Nat.reduceBNe, Nat.reduceLeDiff, Nat.reduceDiv, Nat.reduceMod, Nat.reducePow, List.reduceReplicate, UInt8.reduceOfNat, UInt32.reduceOfNat, UInt64.reduceOfNat, Int.reduceLE, Int.reduceLT, Int.reduceNeg, Int.reduceToNat, Int.reduceAdd, Int.reduceSub, Int.reduceMul, Int.reduceEq, UInt64.reduceToNat, UInt8.reduceToNat, UInt32.reduceToNat]; rfl) (by simp only [Obs]) ?_ (.nil _) rfl (fun id h => by cases h)
    ·
      have hb' : ¬ (x &&& 128 = 0) := by simpa using hb
      simp only [resV, kTwice, Con.of, twice, if_neg hb']
  · refine Tri.skp ?_
    refine Tri.seq (Tri.reg (cfgA_ok.pins _) (by simp only [Try.f16, kTwice, cfgA, tyTab, go_sem, ↓reduceIte, reduceCtorEq, Nat.reduceLT, Nat.reduceSub, Nat.reduceAdd, Nat.reduceMul, Nat.reduceEqDiff, Nat.reduceBEq, Nat.reduceBNe, Nat.reduceLeDiff, Nat.reduceDiv, Nat.reduceMod, Nat.reducePow, List.reduceReplicate, UInt8.reduceOfNat, UInt32.reduceOfNat, UInt64.reduceOfNat, Int.reduceLE, Int.reduceLT, Int.reduceNeg, Int.reduceToNat, Int.reduceAdd, Int.reduceSub, Int.reduceMul, Int.reduceEq, UInt64.reduceToNat, UInt8.reduceToNat, UInt32.reduceToNat]; rfl) (by simp [Obs]) ?_)
    refine Tri.ret ?_
    refine Con.done (.inl rfl) (by simp only [Try.f16, resA, resA1, go_sem, ↓reduceIte, reduceCtorEq, Nat.reduceLT, Nat.reduceSub, Nat.reduceAdd, Nat.reduceMul, Nat.reduceEqDiff, Nat.reduceBEq, Nat.reduceBNe, Nat.reduceLeDiff, Nat.reduceDiv, Nat.reduceMod, Nat.reducePow, List.reduceReplicate, UInt8.reduceOfNat, UInt32.reduceOfNat, UInt64.reduceOfNat, Int.reduceLE, Int.reduceLT, Int.reduceNeg, Int.reduceToNat, Int.reduceAdd, Int.reduceSub, Int.reduceMul, Int.reduceEq, UInt64.reduceToNat, UInt8.reduceToNat, UInt32.reduceToNat]; rfl) (by simp only [Obs]) ?_ (.nil _) rfl (fun id h => by cases h)
    ·
      have hb' : (x &&& 128 = 0) := by simpa using hb
      simp only [resV, kTwice, Con.of, twice, if_pos hb']
theorem twice_sum : FSumOK Try.prog cfgA.G 16 kTwice.sum := Con.sumOK cfgA_ok kTwice Try.func16 rfl rfl (Con.of_inv _ _ _) fun p _ => twice_body p
end Go.Proofs.Yticgfjalikmniaa

namespace Go.Proofs.Yticgfjalikmniaa
set_option linter.unusedVariables false
set_option linter.unusedSimpArgs false
-- SEM
open Go.Vc Go.Proofs
set_option linter.unusedSimpArgs false
set_option maxRecDepth 10000
theorem mixed : Try.prog.follows .mixedOrders = true := by kernel_rfl
def turn (b : UInt8) (n : Int) : UInt8 := shlT .u8 b n.toNat ||| shrT .u8 b (8 - n).toNat
def kTurn : Con := Con.of [.v (.int .u8), .v (.int .i64)] (fun x => [0 ≤ toI .i64 x.2.1, toI .i64 x.2.1 ≤ 8]) (fun x => ⟨.int .u8 (turn x.1 x.2.1), []⟩)
theorem turn_body (p : kTurn.Par) (hp : ∀ q ∈ kTurn.pre p, q) : BodyOK Try.prog cfgA Try.f23 (Try.f23.body.get rfl) kTurn p := by
  obtain ⟨(x : UInt8), (n : Int), u⟩ := p
  obtain ⟨h1, h2, _⟩ := Obs.of hp
  replace h1 : (0 : Int) ≤ n := h1
  replace h2 : (n : Int) ≤ 8 := h2
  refine ⟨?_, Nat.le_refl _, rfl, rfl⟩
  show Tri _ _ _ (Code.seq _ (Code.seq _ _)) _
  refine Tri.seq (Tri.reg (cfgA_ok.pins _) (by simp (maxSteps := 2000000) (disch := first | decide | omega | (simp only [List.length_append, List.length_cons, List.length_nil, List.length_take, List.length_drop]; omega)) only [Try.f23, kTurn, cfgA, tyTab, go_sem, ↓reduceIte, reduceCtorEq, Nat.reduceLT, Nat.reduceSub, Nat.reduceAdd, Nat.reduceMul, Nat.reduceEqDiff, Nat.reduceBEq, Nat.reduceBNe, Nat.reduceLeDiff, Nat.reduceDiv, Nat.reduceMod, Nat.reducePow, List.reduceReplicate, UInt8.reduceOfNat, UInt32.reduceOfNat, UInt64.reduceOfNat, Int.reduceLE, Int.reduceLT, Int.reduceNeg, Int.reduceToNat, Int.reduceAdd, Int.reduceSub, Int.reduceMul, Int.reduceEq, UInt64.reduceToNat, UInt8.reduceToNat, UInt32.reduceToNat]; rfl) (by first | exact True.intro | (simp only [Obs, and_true, true_and]; omega) | (simp [Obs, AV.sizeL, AV.size, Kd.sz]; done) | (simp [Obs, AV.sizeL, AV.size, Kd.sz]; omega)) ?_)
  refine Tri.seq (Tri.drw (mixed) (cfgA_ok.pins _) (by simp (maxSteps := 2000000) (disch := first | decide | omega | (simp only [List.length_append, List.length_cons, List.length_nil, List.length_take, List.length_drop]; omega)) only [Try.f23, kTurn, cfgA, tyTab, go_sem, ↓reduceIte, reduceCtorEq, Nat.reduceLT, Nat.reduceSub, Nat.reduceAdd, Nat.reduceMul, Nat.reduceEqDiff, Nat.reduceBEq, Nat.reduceBNe, Nat.reduceLeDiff, Nat.reduceDiv, Nat.reduceMod, Nat.reducePow, List.reduceReplicate, UInt8.reduceOfNat, UInt32.reduceOfNat, UInt64.reduceOfNat, Int.reduceLE, Int.reduceLT, Int.reduceNeg, Int.reduceToNat, Int.reduceAdd, Int.reduceSub, Int.reduceMul, Int.reduceEq, UInt64.reduceToNat, UInt8.reduceToNat, UInt32.reduceToNat]; rfl) (by first | exact True.intro | (simp only [Obs, and_true, true_and]; omega) | (simp [Obs, AV.sizeL, AV.size, Kd.sz]; done) | (simp [Obs, AV.sizeL, AV.size, Kd.sz]; omega)) (by kernel_rfl) ?_)
  refine Tri.ret ?_
  refine Con.fin (.inl rfl) (by simp only [Try.f23, resA, resA1, go_sem, ↓reduceIte, reduceCtorEq, Nat.reduceLT, Nat.reduceSub, Nat.reduceAdd, Nat.reduceMul, Nat.reduceEqDiff, Nat.reduceBEq, Nat.reduceBNe, Nat.reduceLeDiff, Nat.reduceDiv, Nat.reduceMod, Nat.reducePow, List.reduceReplicate, UInt8.reduceOfNat, UInt32.reduceOfNat, UInt64.reduceOfNat, Int.reduceLE, Int.reduceLT, Int.reduceNeg, Int.reduceToNat, Int.reduceAdd, Int.reduceSub, Int.reduceMul, Int.reduceEq, UInt64.reduceToNat, UInt8.reduceToNat, UInt32.reduceToNat]; rfl) (by trivial) ?_ trivial rfl rfl
  rfl
theorem turn_sum : FSumOK Try.prog cfgA.G 23 kTurn.sum := Con.sumOK cfgA_ok kTurn Try.func23 rfl rfl (Con.of_inv _ _ _) turn_body
end Go.Proofs.Yticgfjalikmniaa

namespace Go.Proofs.Yticgfjalikmniaa
set_option linter.unusedVariables false
set_option linter.unusedSimpArgs false
-- SEM
open Go.Vc Go.Proofs
set_option linter.unusedSimpArgs false
set_option maxRecDepth 10000
set_option maxHeartbeats 2000000
def cfgB : Cfg2 := { ty := tyTab, fn := fun | 16 => some kTwice.sum | 23 => some kTurn.sum | _ => none, G := fun _ => none, pin := [], eq := fun _ => none }
theorem cfgB_ok : CfgOK Try.prog cfgB := ⟨tysOK, (fun f s h => by
  simp only [cfgB] at h
  split at h
  · injection h with h; subst h; exact twice_sum
  · injection h with h; subst h; exact turn_sum
  · cases h), (fun t d h => by cases h)⟩
def boxQ (q : UInt8) : UInt8 :=
  let a := q ^^^ q <<< 1
  let b := a ^^^ a <<< 2
  let c := b ^^^ b <<< 4
  if c &&& 128 = 0 then c else c ^^^ 9
def boxV (q : UInt8) : UInt8 := q ^^^ turn q 1 ^^^ turn q 2 ^^^ turn q 3 ^^^ turn q 4 ^^^ 99
def boxI (box : List UInt8) : Nat → UInt8 × UInt8 × List UInt8
  | 0 => (1, 1, box.set 0 99)
  | k + 1 => let s := boxI box k; (s.1 ^^^ twice s.1, boxQ s.2.1, s.2.2.set (s.1 ^^^ twice s.1).toNat (boxV (boxQ s.2.1)))
def kBoxes : Con := Con.of [.p cipK] (fun _ => []) (fun x => ⟨.tuple [], [.pure cipK ((boxI x.1.1 255).2.2, x.1.2)]⟩)
theorem boxes_body (p : kBoxes.Par) (hp : ∀ q ∈ kBoxes.pre p, q) : BodyOK Try.prog cfgB Try.f15 (Try.f15.body.get rfl) kBoxes p := by
  obtain ⟨⟨(box : List UInt8), (keys : a44.T × Unit)⟩, u⟩ := p
  refine ⟨?_, Nat.le_refl _, rfl, rfl⟩
  show Tri _ _ _ (Code.seq _ (Code.seq _ (Code.seq _ (Code.block _ (Code.loop (Code.seq _ (Code.seq (Code.cond _ _ _) (Code.seq (Code.block _ _) _)))))))) _
  refine Tri.seq (Tri.reg (cfgB_ok.pins _) (by simp (maxSteps := 2000000) (disch := first | decide | omega | (simp only [List.length_append, List.length_cons, List.length_nil, List.length_take, List.length_drop]; omega)) only [Try.f15, kBoxes, kTwice, kTurn, cfgB, tyTab, cipK, go_sem, ↓reduceIte, reduceCtorEq, Nat.reduceLT, Nat.reduceSub, Nat.reduceAdd, Nat.reduceMul, Nat.reduceEqDiff, Nat.reduceBEq, Nat.reduceBNe, Nat.reduceLeDiff, Nat.reduceDiv, Nat.reduceMod, Nat.reducePow, List.reduceReplicate, UInt8.reduceOfNat, UInt32.reduceOfNat, UInt64.reduceOfNat, Int.reduceLE, Int.reduceLT, Int.reduceNeg, Int.reduceToNat, Int.reduceAdd, Int.reduceSub, Int.reduceMul, Int.reduceEq, UInt64.reduceToNat, UInt8.reduceToNat, UInt32.reduceToNat]; rfl) (by first | exact True.intro | (simp only [Obs, and_true, true_and]; omega) | (simp [Obs, AV.sizeL, AV.size, Kd.sz]; done) | (simp [Obs, AV.sizeL, AV.size, Kd.sz]; omega)) ?_)
  refine Tri.seq (Tri.reg (cfgB_ok.pins _) (by simp (maxSteps := 2000000) (disch := first | decide | omega | (simp only [List.length_append, List.length_cons, List.length_nil, List.length_take, List.length_drop]; omega)) only [Try.f15, kBoxes, kTwice, kTurn, cfgB, tyTab, cipK, go_sem, ↓reduceIte, reduceCtorEq, Nat.reduceLT, Nat.reduceSub, Nat.reduceAdd, Nat.reduceMul, Nat.reduceEqDiff, Nat.reduceBEq, Nat.reduceBNe, Nat.reduceLeDiff, Nat.reduceDiv, Nat.reduceMod, Nat.reducePow, List.reduceReplicate, UInt8.reduceOfNat, UInt32.reduceOfNat, UInt64.reduceOfNat, Int.reduceLE, Int.reduceLT, Int.reduceNeg, Int.reduceToNat, Int.reduceAdd, Int.reduceSub, Int.reduceMul, Int.reduceEq, UInt64.reduceToNat, UInt8.reduceToNat, UInt32.reduceToNat]; rfl) (by first | exact True.intro | (simp only [Obs, and_true, true_and]; omega) | (simp [Obs, AV.sizeL, AV.size, Kd.sz]; done) | (simp [Obs, AV.sizeL, AV.size, Kd.sz]; omega)) ?_)
  refine Tri.seq (Tri.reg (cfgB_ok.pins _) (by simp (maxSteps := 2000000) (disch := first | decide | omega | (simp only [List.length_append, List.length_cons, List.length_nil, List.length_take, List.length_drop]; omega)) only [Try.f15, kBoxes, kTwice, kTurn, cfgB, tyTab, cipK, go_sem, ↓reduceIte, reduceCtorEq, Nat.reduceLT, Nat.reduceSub, Nat.reduceAdd, Nat.reduceMul, Nat.reduceEqDiff, Nat.reduceBEq, Nat.reduceBNe, Nat.reduceLeDiff, Nat.reduceDiv, Nat.reduceMod, Nat.reducePow, List.reduceReplicate, UInt8.reduceOfNat, UInt32.reduceOfNat, UInt64.reduceOfNat, Int.reduceLE, Int.reduceLT, Int.reduceNeg, Int.reduceToNat, Int.reduceAdd, Int.reduceSub, Int.reduceMul, Int.reduceEq, UInt64.reduceToNat, UInt8.reduceToNat, UInt32.reduceToNat]; rfl) (by first | exact True.intro | (simp only [Obs, and_true, true_and]; omega) | (simp [Obs, AV.sizeL, AV.size, Kd.sz]; done) | (simp [Obs, AV.sizeL, AV.size, Kd.sz]; omega)) ?_)
  refine Tri.block ?_
  refine Tri.loop (fun k : Nat => (⟨[some (.ptr 0 [] 0), none, some (.int .u8 (boxI box k).1), some (.int .u8 (boxI box k).2.1), none, none, none, none, some (.int .i64 (k : Int))] ++ List.replicate 42 none, [.live (.pure cipK ((boxI box k).2.2, keys))]⟩ : AS)) (· ≤ 255) (fun k => 255 - k) 0 ?_ (Nat.zero_le _) ?_
  · refine Wk.of ?_ ?_ rfl rfl
    · simp only [lessTs, List.reduceReplicate, List.cons_append, List.nil_append] <;> ((repeat' apply And.intro) <;> first | rfl | trivial)
    · simp only [lessHs, boxI]
      trivial
  · intro k hk
    show Tri _ _ _ (Code.seq _ (Code.seq (Code.cond _ _ _) (Code.seq (Code.block _ (Code.seq _ (Code.seq _ (Code.seq _ (Code.seq _ (Code.seq (Code.seq _ (Code.cond _ _ _)) _)))))) _))) _
    refine Tri.seq (Tri.reg (cfgB_ok.pins _) (by simp (maxSteps := 2000000) (disch := first | decide | omega | (simp only [List.length_append, List.length_cons, List.length_nil, List.length_take, List.length_drop]; omega)) only [Try.f15, kBoxes, kTwice, kTurn, cfgB, tyTab, cipK, go_sem, ↓reduceIte, reduceCtorEq, Nat.reduceLT, Nat.reduceSub, Nat.reduceAdd, Nat.reduceMul, Nat.reduceEqDiff, Nat.reduceBEq, Nat.reduceBNe, Nat.reduceLeDiff, Nat.reduceDiv, Nat.reduceMod, Nat.reducePow, List.reduceReplicate, UInt8.reduceOfNat, UInt32.reduceOfNat, UInt64.reduceOfNat, Int.reduceLE, Int.reduceLT, Int.reduceNeg, Int.reduceToNat, Int.reduceAdd, Int.reduceSub, Int.reduceMul, Int.reduceEq, UInt64.reduceToNat, UInt8.reduceToNat, UInt32.reduceToNat]; rfl) (by first | exact True.intro | (simp only [Obs, and_true, true_and]; omega) | (simp [Obs, AV.sizeL, AV.size, Kd.sz]; done) | (simp [Obs, AV.sizeL, AV.size, Kd.sz]; omega)) ?_)
    refine Tri.seq ?_
    refine Tri.split (by simp only [AS.ev, go_sem, ↓reduceIte, reduceCtorEq, Nat.reduceLT, Nat.reduceSub, Nat.reduceAdd, Nat.reduceMul, Nat.reduceEqDiff, Nat.reduceBEq, Nat.reduceBNe, Nat.reduceLeDiff, Nat.reduceDiv, Nat.reduceMod, Nat.reducePow, List.reduceReplicate, UInt8.reduceOfNat, UInt32.reduceOfNat, UInt64.reduceOfNat, Int.reduceLE, Int.reduceLT, Int.reduceNeg, Int.reduceToNat, Int.reduceAdd, Int.reduceSub, Int.reduceMul, Int.reduceEq, UInt64.reduceToNat, UInt8.reduceToNat, UInt32.reduceToNat]; rfl) (fun hc => ?_) (fun hc => ?_)
    · refine Tri.skp ?_
      refine Tri.seq (Tri.block ?_)
      refine Tri.seq (Tri.reg (cfgB_ok.pins _) (by simp (maxSteps := 2000000) (disch := first | decide | omega | (simp only [List.length_append, List.length_cons, List.length_nil, List.length_take, List.length_drop]; omega)) only [Try.f15, kBoxes, kTwice, kTurn, cfgB, tyTab, cipK, go_sem, ↓reduceIte, reduceCtorEq, Nat.reduceLT, Nat.reduceSub, Nat.reduceAdd, Nat.reduceMul, Nat.reduceEqDiff, Nat.reduceBEq, Nat.reduceBNe, Nat.reduceLeDiff, Nat.reduceDiv, Nat.reduceMod, Nat.reducePow, List.reduceReplicate, UInt8.reduceOfNat, UInt32.reduceOfNat, UInt64.reduceOfNat, Int.reduceLE, Int.reduceLT, Int.reduceNeg, Int.reduceToNat, Int.reduceAdd, Int.reduceSub, Int.reduceMul, Int.reduceEq, UInt64.reduceToNat, UInt8.reduceToNat, UInt32.reduceToNat]; rfl) (by first | exact True.intro | (simp only [Obs, and_true, true_and]; omega) | (simp [Obs, AV.sizeL, AV.size, Kd.sz]; done) | (simp [Obs, AV.sizeL, AV.size, Kd.sz]; omega)) ?_)
      refine Tri.seq (Tri.reg (cfgB_ok.pins _) (by simp (maxSteps := 2000000) (disch := first | decide | omega | (simp only [List.length_append, List.length_cons, List.length_nil, List.length_take, List.length_drop]; omega)) only [Try.f15, kBoxes, kTwice, kTurn, cfgB, tyTab, cipK, go_sem, ↓reduceIte, reduceCtorEq, Nat.reduceLT, Nat.reduceSub, Nat.reduceAdd, Nat.reduceMul, Nat.reduceEqDiff, Nat.reduceBEq, Nat.reduceBNe, Nat.reduceLeDiff, Nat.reduceDiv, Nat.reduceMod, Nat.reducePow, List.reduceReplicate, UInt8.reduceOfNat, UInt32.reduceOfNat, UInt64.reduceOfNat, Int.reduceLE, Int.reduceLT, Int.reduceNeg, Int.reduceToNat, Int.reduceAdd, Int.reduceSub, Int.reduceMul, Int.reduceEq, UInt64.reduceToNat, UInt8.reduceToNat, UInt32.reduceToNat]; rfl) (by first | exact True.intro | (simp only [Obs, and_true, true_and]; omega) | (simp [Obs, AV.sizeL, AV.size, Kd.sz]; done) | (simp [Obs, AV.sizeL, AV.size, Kd.sz]; omega)) ?_)
      refine Tri.seq (Tri.reg (cfgB_ok.pins _) (by simp (maxSteps := 2000000) (disch := first | decide | omega | (simp only [List.length_append, List.length_cons, List.length_nil, List.length_take, List.length_drop]; omega)) only [Try.f15, kBoxes, kTwice, kTurn, cfgB, tyTab, cipK, go_sem, ↓reduceIte, reduceCtorEq, Nat.reduceLT, Nat.reduceSub, Nat.reduceAdd, Nat.reduceMul, Nat.reduceEqDiff, Nat.reduceBEq, Nat.reduceBNe, Nat.reduceLeDiff, Nat.reduceDiv, Nat.reduceMod, Nat.reducePow, List.reduceReplicate, UInt8.reduceOfNat, UInt32.reduceOfNat, UInt64.reduceOfNat, Int.reduceLE, Int.reduceLT, Int.reduceNeg, Int.reduceToNat, Int.reduceAdd, Int.reduceSub, Int.reduceMul, Int.reduceEq, UInt64.reduceToNat, UInt8.reduceToNat, UInt32.reduceToNat]; rfl) (by first | exact True.intro | (simp only [Obs, and_true, true_and]; omega) | (simp [Obs, AV.sizeL, AV.size, Kd.sz]; done) | (simp [Obs, AV.sizeL, AV.size, Kd.sz]; omega)) ?_)
      refine Tri.seq (Tri.reg (cfgB_ok.pins _) (by simp (maxSteps := 2000000) (disch := first | decide | omega | (simp only [List.length_append, List.length_cons, List.length_nil, List.length_take, List.length_drop]; omega)) only [Try.f15, kBoxes, kTwice, kTurn, cfgB, tyTab, cipK, go_sem, ↓reduceIte, reduceCtorEq, Nat.reduceLT, Nat.reduceSub, Nat.reduceAdd, Nat.reduceMul, Nat.reduceEqDiff, Nat.reduceBEq, Nat.reduceBNe, Nat.reduceLeDiff, Nat.reduceDiv, Nat.reduceMod, Nat.reducePow, List.reduceReplicate, UInt8.reduceOfNat, UInt32.reduceOfNat, UInt64.reduceOfNat, Int.reduceLE, Int.reduceLT, Int.reduceNeg, Int.reduceToNat, Int.reduceAdd, Int.reduceSub, Int.reduceMul, Int.reduceEq, UInt64.reduceToNat, UInt8.reduceToNat, UInt32.reduceToNat]; rfl) (by first | exact True.intro | (simp only [Obs, and_true, true_and]; omega) | (simp [Obs, AV.sizeL, AV.size, Kd.sz]; done) | (simp [Obs, AV.sizeL, AV.size, Kd.sz]; omega)) ?_)
      refine Tri.seq ?_
      refine Tri.seq (Tri.reg (cfgB_ok.pins _) (by simp (maxSteps := 2000000) (disch := first | decide | omega | (simp only [List.length_append, List.length_cons, List.length_nil, List.length_take, List.length_drop]; omega)) only [Try.f15, kBoxes, kTwice, kTurn, cfgB, tyTab, cipK, go_sem, ↓reduceIte, reduceCtorEq, Nat.reduceLT, Nat.reduceSub, Nat.reduceAdd, Nat.reduceMul, Nat.reduceEqDiff, Nat.reduceBEq, Nat.reduceBNe, Nat.reduceLeDiff, Nat.reduceDiv, Nat.reduceMod, Nat.reducePow, List.reduceReplicate, UInt8.reduceOfNat, UInt32.reduceOfNat, UInt64.reduceOfNat, Int.reduceLE, Int.reduceLT, Int.reduceNeg, Int.reduceToNat, Int.reduceAdd, Int.reduceSub, Int.reduceMul, Int.reduceEq, UInt64.reduceToNat, UInt8.reduceToNat, UInt32.reduceToNat]; rfl) (by first | exact True.intro | (simp only [Obs, and_true, true_and]; omega) | (simp [Obs, AV.sizeL, AV.size, Kd.sz]; done) | (simp [Obs, AV.sizeL, AV.size, Kd.sz]; omega)) ?_)
      refine Tri.split (by simp only [AS.ev, go_sem, ↓reduceIte, reduceCtorEq, Nat.reduceLT, Nat.reduceSub, Nat.reduceAdd, Nat.reduceMul, Nat.reduceEqDiff, Nat.reduceBEq, Nat.reduceBNe, Nat.reduceLeDiff, Nat.reduceDiv, Nat.reduceMod, Nat.reducePow, List.reduceReplicate, UInt8.reduceOfNat, UInt32.reduceOfNat, UInt64.reduceOfNat, Int.reduceLE, Int.reduceLT, Int.reduceNeg, Int.reduceToNat, Int.reduceAdd, Int.reduceSub, Int.reduceMul, Int.reduceEq, UInt64.reduceToNat, UInt8.reduceToNat, UInt32.reduceToNat]; rfl) (fun hd => ?_) (fun hd => ?_)
      · refine (Tri.rgn (cfgB_ok.pins _) (by simp (maxSteps := 2000000) (disch := first | decide | omega | (simp only [List.length_append, List.length_cons, List.length_nil, List.length_take, List.length_drop]; omega)) only [Try.f15, kBoxes, kTwice, kTurn, cfgB, tyTab, cipK, go_sem, ↓reduceIte, reduceCtorEq, Nat.reduceLT, Nat.reduceSub, Nat.reduceAdd, Nat.reduceMul, Nat.reduceEqDiff, Nat.reduceBEq, Nat.reduceBNe, Nat.reduceLeDiff, Nat.reduceDiv, Nat.reduceMod, Nat.reducePow, List.reduceReplicate, UInt8.reduceOfNat, UInt32.reduceOfNat, UInt64.reduceOfNat, Int.reduceLE, Int.reduceLT, Int.reduceNeg, Int.reduceToNat, Int.reduceAdd, Int.reduceSub, Int.reduceMul, Int.reduceEq, UInt64.reduceToNat, UInt8.reduceToNat, UInt32.reduceToNat]; rfl) (by first | exact True.intro | (simp only [Obs, and_true, true_and]; omega) | (simp [Obs, AV.sizeL, AV.size, Kd.sz]; done) | (simp [Obs, AV.sizeL, AV.size, Kd.sz]; omega)) ?_)
        try simp only [InBlock, Then]
        have hlt := UInt8.toNat_lt ((boxI box k).1 ^^^ twice (boxI box k).1)
        refine (Tri.drn (mixed) (cfgB_ok.pins _) (by simp (maxSteps := 2000000) (disch := first | decide | omega | (simp only [List.length_append, List.length_cons, List.length_nil, List.length_take, List.length_drop]; omega)) only [Try.f15, kBoxes, kTwice, kTurn, cfgB, tyTab, cipK, go_sem, ↓reduceIte, reduceCtorEq, Nat.reduceLT, Nat.reduceSub, Nat.reduceAdd, Nat.reduceMul, Nat.reduceEqDiff, Nat.reduceBEq, Nat.reduceBNe, Nat.reduceLeDiff, Nat.reduceDiv, Nat.reduceMod, Nat.reducePow, List.reduceReplicate, UInt8.reduceOfNat, UInt32.reduceOfNat, UInt64.reduceOfNat, Int.reduceLE, Int.reduceLT, Int.reduceNeg, Int.reduceToNat, Int.reduceAdd, Int.reduceSub, Int.reduceMul, Int.reduceEq, UInt64.reduceToNat, UInt8.reduceToNat, UInt32.reduceToNat]; rfl) (by (simp only [Obs, and_true, true_and]; exact ⟨Int.natCast_nonneg _, Int.ofNat_lt.2 hlt, hlt⟩)) (by kernel_rfl) ?_)
        try simp only [InBlock, Then]
        refine (Tri.rgn (cfgB_ok.pins _) (by simp (maxSteps := 2000000) (disch := first | decide | omega | (simp only [List.length_append, List.length_cons, List.length_nil, List.length_take, List.length_drop]; omega)) only [Try.f15, kBoxes, kTwice, kTurn, cfgB, tyTab, cipK, go_sem, ↓reduceIte, reduceCtorEq, Nat.reduceLT, Nat.reduceSub, Nat.reduceAdd, Nat.reduceMul, Nat.reduceEqDiff, Nat.reduceBEq, Nat.reduceBNe, Nat.reduceLeDiff, Nat.reduceDiv, Nat.reduceMod, Nat.reducePow, List.reduceReplicate, UInt8.reduceOfNat, UInt32.reduceOfNat, UInt64.reduceOfNat, Int.reduceLE, Int.reduceLT, Int.reduceNeg, Int.reduceToNat, Int.reduceAdd, Int.reduceSub, Int.reduceMul, Int.reduceEq, UInt64.reduceToNat, UInt8.reduceToNat, UInt32.reduceToNat]; rfl) (by first | exact True.intro | (simp only [Obs, and_true, true_and]; omega) | (simp [Obs, AV.sizeL, AV.size, Kd.sz]; done) | (simp [Obs, AV.sizeL, AV.size, Kd.sz]; omega)) ?_)
        try simp only [InBlock, Then]
        have hd' := hd
        simp only [Bool.not_eq_true', decide_eq_false_iff_not] at hd'
        have hc' : (k : Int) < 255 := by simpa using hc
        refine ⟨k + 1, (by omega), (by omega), Wk.of ?_ ?_ rfl rfl⟩
        · simp only [lessTs, List.reduceReplicate, List.cons_append, List.nil_append, boxI, boxQ, if_neg hd'] <;> ((repeat' apply And.intro) <;> first | rfl | trivial)
        · simp only [lessHs, boxI, boxQ, boxV, if_neg hd'] <;> ((repeat' apply And.intro) <;> first | rfl | trivial)
      · refine Tri.skp ?_
        have hlt := UInt8.toNat_lt ((boxI box k).1 ^^^ twice (boxI box k).1)
        refine (Tri.drn (mixed) (cfgB_ok.pins _) (by simp (maxSteps := 2000000) (disch := first | decide | omega | (simp only [List.length_append, List.length_cons, List.length_nil, List.length_take, List.length_drop]; omega)) only [Try.f15, kBoxes, kTwice, kTurn, cfgB, tyTab, cipK, go_sem, ↓reduceIte, reduceCtorEq, Nat.reduceLT, Nat.reduceSub, Nat.reduceAdd, Nat.reduceMul, Nat.reduceEqDiff, Nat.reduceBEq, Nat.reduceBNe, Nat.reduceLeDiff, Nat.reduceDiv, Nat.reduceMod, Nat.reducePow, List.reduceReplicate, UInt8.reduceOfNat, UInt32.reduceOfNat, UInt64.reduceOfNat, Int.reduceLE, Int.reduceLT, Int.reduceNeg, Int.reduceToNat, Int.reduceAdd, Int.reduceSub, Int.reduceMul, Int.reduceEq, UInt64.reduceToNat, UInt8.reduceToNat, UInt32.reduceToNat]; rfl) (by (simp only [Obs, and_true, true_and]; exact ⟨Int.natCast_nonneg _, Int.ofNat_lt.2 hlt, hlt⟩)) (by kernel_rfl) ?_)
        try simp only [InBlock, Then]
        refine (Tri.rgn (cfgB_ok.pins _) (by simp (maxSteps := 2000000) (disch := first | decide | omega | (simp only [List.length_append, List.length_cons, List.length_nil, List.length_take, List.length_drop]; omega)) only [Try.f15, kBoxes, kTwice, kTurn, cfgB, tyTab, cipK, go_sem, ↓reduceIte, reduceCtorEq, Nat.reduceLT, Nat.reduceSub, Nat.reduceAdd, Nat.reduceMul, Nat.reduceEqDiff, Nat.reduceBEq, Nat.reduceBNe, Nat.reduceLeDiff, Nat.reduceDiv, Nat.reduceMod, Nat.reducePow, List.reduceReplicate, UInt8.reduceOfNat, UInt32.reduceOfNat, UInt64.reduceOfNat, Int.reduceLE, Int.reduceLT, Int.reduceNeg, Int.reduceToNat, Int.reduceAdd, Int.reduceSub, Int.reduceMul, Int.reduceEq, UInt64.reduceToNat, UInt8.reduceToNat, UInt32.reduceToNat]; rfl) (by first | exact True.intro | (simp only [Obs, and_true, true_and]; omega) | (simp [Obs, AV.sizeL, AV.size, Kd.sz]; done) | (simp [Obs, AV.sizeL, AV.size, Kd.sz]; omega)) ?_)
        try simp only [InBlock, Then]
        have hd' := hd
        simp only [Bool.not_eq_false', decide_eq_true_eq] at hd'
        have hc' : (k : Int) < 255 := by simpa using hc
        refine ⟨k + 1, (by omega), (by omega), Wk.of ?_ ?_ rfl rfl⟩
        · simp only [lessTs, List.reduceReplicate, List.cons_append, List.nil_append, boxI, boxQ, if_pos hd'] <;> ((repeat' apply And.intro) <;> first | rfl | trivial)
        · simp only [lessHs, boxI, boxQ, boxV, if_pos hd'] <;> ((repeat' apply And.intro) <;> first | rfl | trivial)
    · refine Tri.exit ?_
      show Con.post _ _ _ _ _ _
      have hc' : k = 255 := by
        have : ¬ ((k : Int) < 255) := by simpa using hc
        omega
      subst hc'
      refine Con.fin (.inr rfl) (by simp only [Try.f15, resA, resA1, go_sem, ↓reduceIte, reduceCtorEq, Nat.reduceLT, Nat.reduceSub, Nat.reduceAdd, Nat.reduceMul, Nat.reduceEqDiff, Nat.reduceBEq, Nat.reduceBNe, Nat.reduceLeDiff, Nat.reduceDiv, Nat.reduceMod, Nat.reducePow, List.reduceReplicate, UInt8.reduceOfNat, UInt32.reduceOfNat, UInt64.reduceOfNat, Int.reduceLE, Int.reduceLT, Int.reduceNeg, Int.reduceToNat, Int.reduceAdd, Int.reduceSub, Int.reduceMul, Int.reduceEq, UInt64.reduceToNat, UInt8.reduceToNat, UInt32.reduceToNat]; rfl) (by trivial) rfl ?_ rfl rfl
      simp only [lessHs, kBoxes, Con.of, List.map] <;> ((repeat' apply And.intro) <;> first | rfl | trivial)
theorem boxes_sum : FSumOK Try.prog cfgB.G 15 kBoxes.sum := Con.sumOK cfgB_ok kBoxes Try.func15 rfl rfl (Con.of_inv _ _ _) boxes_body
end Go.Proofs.Yticgfjalikmniaa

namespace Go.Proofs.Yticgfjalikmniaa
set_option linter.unusedVariables false
set_option linter.unusedSimpArgs false
-- SEM
open Go.Vc Go.Proofs
set_option linter.unusedSimpArgs false
set_option maxRecDepth 10000
set_option maxHeartbeats 2000000
/-- A round's key, byte by byte. -/
def addI (keys : List (List UInt8)) (r : Nat) (s : List UInt8) : Nat → List UInt8
  | 0 => s
  | k + 1 => (addI keys r s k).set k ((addI keys r s k).getD k 0 ^^^ (keys.getD (4 * r + k / 4) (Kd.dflt a4)).getD (k % 4) 0)
def kAdd : Con := Con.of [.p cipK, .p a16, .v (.int .i64)] (fun x => [0 ≤ toI .i64 x.2.2.1, toI .i64 x.2.2.1 ≤ 10]) (fun x => ⟨.tuple [], [.pure cipK x.1, .pure a16 (addI x.1.2.1 (Int.toNat x.2.2.1) x.2.1 16)]⟩)
theorem add_body (p : kAdd.Par) (hp : ∀ q ∈ kAdd.pre p, q) : BodyOK Try.prog cfgA Try.f17 (Try.f17.body.get rfl) kAdd p := by
  obtain ⟨⟨(box : List UInt8), (keys : List (List UInt8)), u1⟩, (s : List UInt8), (n : Int), u⟩ := p
  obtain ⟨h1, h2, _⟩ := Obs.of hp
  replace h1 : (0 : Int) ≤ n := h1
  replace h2 : (n : Int) ≤ 10 := h2
  obtain ⟨r, rfl⟩ := Int.eq_ofNat_of_zero_le h1
  refine ⟨?_, Nat.le_refl _, rfl, rfl⟩
  show Tri _ _ _ (Code.seq _ (Code.block _ (Code.loop (Code.seq _ (Code.seq (Code.cond _ _ _) (Code.seq (Code.block _ (Code.seq _ _)) _)))))) _
  refine Tri.seq (Tri.reg (cfgA_ok.pins _) (by simp (maxSteps := 2000000) (disch := first | decide | omega | (simp only [List.length_append, List.length_cons, List.length_nil, List.length_take, List.length_drop]; omega)) only [Try.f17, kAdd, cfgA, tyTab, go_sem, ↓reduceIte, reduceCtorEq, Nat.reduceLT, Nat.reduceSub, Nat.reduceAdd, Nat.reduceMul, Nat.reduceEqDiff, Nat.reduceBEq, Nat.reduceBNe, Nat.reduceLeDiff, Nat.reduceDiv, Nat.reduceMod, Nat.reducePow, List.reduceReplicate, UInt8.reduceOfNat, UInt32.reduceOfNat, UInt64.reduceOfNat, Int.reduceLE, Int.reduceLT, Int.reduceNeg, Int.reduceToNat, Int.reduceAdd, Int.reduceSub, Int.reduceMul, Int.reduceEq, UInt64.reduceToNat, UInt8.reduceToNat, UInt32.reduceToNat]; rfl) (by first | exact True.intro | (simp only [Obs, and_true, true_and]; omega) | (simp [Obs, AV.sizeL, AV.size, Kd.sz]; done) | (simp [Obs, AV.sizeL, AV.size, Kd.sz]; omega)) ?_)
  refine Tri.block ?_
  refine Tri.loop (fun k : Nat => (⟨[some (.ptr 0 [] 0), some (.ptr 1 [] 0), some (.int .i64 (r : Int)), none, none, none, none, some (.int .i64 (k : Int))] ++ List.replicate 24 none, [.live (.pure cipK (box, keys, u1)), .live (.pure a16 (addI keys r s k))]⟩ : AS)) (· ≤ 16) (fun k => 16 - k) 0 ?_ (Nat.zero_le _) ?_
  · refine Wk.of ?_ ?_ rfl rfl
    · simp only [lessTs, List.reduceReplicate, List.cons_append, List.nil_append] <;> ((repeat' apply And.intro) <;> first | rfl | trivial)
    · simp only [lessHs, addI] <;> ((repeat' apply And.intro) <;> first | rfl | trivial)
  · intro k hk
    refine Tri.seq (Tri.reg (cfgA_ok.pins _) (by simp (maxSteps := 2000000) (disch := first | decide | omega | (simp only [List.length_append, List.length_cons, List.length_nil, List.length_take, List.length_drop]; omega)) only [Try.f17, kAdd, cfgA, tyTab, go_sem, ↓reduceIte, reduceCtorEq, Nat.reduceLT, Nat.reduceSub, Nat.reduceAdd, Nat.reduceMul, Nat.reduceEqDiff, Nat.reduceBEq, Nat.reduceBNe, Nat.reduceLeDiff, Nat.reduceDiv, Nat.reduceMod, Nat.reducePow, List.reduceReplicate, UInt8.reduceOfNat, UInt32.reduceOfNat, UInt64.reduceOfNat, Int.reduceLE, Int.reduceLT, Int.reduceNeg, Int.reduceToNat, Int.reduceAdd, Int.reduceSub, Int.reduceMul, Int.reduceEq, UInt64.reduceToNat, UInt8.reduceToNat, UInt32.reduceToNat]; rfl) (by first | exact True.intro | (simp only [Obs, and_true, true_and]; omega) | (simp [Obs, AV.sizeL, AV.size, Kd.sz]; done) | (simp [Obs, AV.sizeL, AV.size, Kd.sz]; omega)) ?_)
    refine Tri.seq ?_
    refine Tri.split (by simp only [AS.ev, go_sem, ↓reduceIte, reduceCtorEq, Nat.reduceLT, Nat.reduceSub, Nat.reduceAdd, Nat.reduceMul, Nat.reduceEqDiff, Nat.reduceBEq, Nat.reduceBNe, Nat.reduceLeDiff, Nat.reduceDiv, Nat.reduceMod, Nat.reducePow, List.reduceReplicate, UInt8.reduceOfNat, UInt32.reduceOfNat, UInt64.reduceOfNat, Int.reduceLE, Int.reduceLT, Int.reduceNeg, Int.reduceToNat, Int.reduceAdd, Int.reduceSub, Int.reduceMul, Int.reduceEq, UInt64.reduceToNat, UInt8.reduceToNat, UInt32.reduceToNat]; rfl) (fun hc => ?_) (fun hc => ?_)
    · have hc' : k < 16 := by
        have : (k : Int) < 16 := by simpa using hc
        omega
      refine Tri.skp ?_
      refine Tri.seq (Tri.block ?_)
      refine Tri.seq (Tri.reg (cfgA_ok.pins _) (by simp (maxSteps := 2000000) (disch := first | decide | omega | (simp only [List.length_append, List.length_cons, List.length_nil, List.length_take, List.length_drop]; omega)) only [Try.f17, kAdd, cfgA, tyTab, go_sem, ↓reduceIte, reduceCtorEq, Nat.reduceLT, Nat.reduceSub, Nat.reduceAdd, Nat.reduceMul, Nat.reduceEqDiff, Nat.reduceBEq, Nat.reduceBNe, Nat.reduceLeDiff, Nat.reduceDiv, Nat.reduceMod, Nat.reducePow, List.reduceReplicate, UInt8.reduceOfNat, UInt32.reduceOfNat, UInt64.reduceOfNat, Int.reduceLE, Int.reduceLT, Int.reduceNeg, Int.reduceToNat, Int.reduceAdd, Int.reduceSub, Int.reduceMul, Int.reduceEq, UInt64.reduceToNat, UInt8.reduceToNat, UInt32.reduceToNat]; rfl) (by first | exact True.intro | (simp only [Obs, and_true, true_and]; omega) | (simp [Obs, AV.sizeL, AV.size, Kd.sz]; done) | (simp [Obs, AV.sizeL, AV.size, Kd.sz]; omega)) ?_)
      refine (Tri.drn (mixed) (cfgA_ok.pins _) (by simp (maxSteps := 2000000) (disch := first | decide | omega | (simp only [List.length_append, List.length_cons, List.length_nil, List.length_take, List.length_drop]; omega)) only [Try.f17, kAdd, cfgA, tyTab, go_sem, ↓reduceIte, reduceCtorEq, Nat.reduceLT, Nat.reduceSub, Nat.reduceAdd, Nat.reduceMul, Nat.reduceEqDiff, Nat.reduceBEq, Nat.reduceBNe, Nat.reduceLeDiff, Nat.reduceDiv, Nat.reduceMod, Nat.reducePow, List.reduceReplicate, UInt8.reduceOfNat, UInt32.reduceOfNat, UInt64.reduceOfNat, Int.reduceLE, Int.reduceLT, Int.reduceNeg, Int.reduceToNat, Int.reduceAdd, Int.reduceSub, Int.reduceMul, Int.reduceEq, UInt64.reduceToNat, UInt8.reduceToNat, UInt32.reduceToNat]; rfl) (by first | exact True.intro | (simp only [Obs, and_true, true_and]; omega) | (simp [Obs, AV.sizeL, AV.size, Kd.sz]; done) | (simp [Obs, AV.sizeL, AV.size, Kd.sz]; omega)) (by kernel_rfl) ?_)
      try simp only [InBlock, Then]
      refine (Tri.rgn (cfgA_ok.pins _) (by simp (maxSteps := 2000000) (disch := first | decide | omega | (simp only [List.length_append, List.length_cons, List.length_nil, List.length_take, List.length_drop]; omega)) only [Try.f17, kAdd, cfgA, tyTab, go_sem, ↓reduceIte, reduceCtorEq, Nat.reduceLT, Nat.reduceSub, Nat.reduceAdd, Nat.reduceMul, Nat.reduceEqDiff, Nat.reduceBEq, Nat.reduceBNe, Nat.reduceLeDiff, Nat.reduceDiv, Nat.reduceMod, Nat.reducePow, List.reduceReplicate, UInt8.reduceOfNat, UInt32.reduceOfNat, UInt64.reduceOfNat, Int.reduceLE, Int.reduceLT, Int.reduceNeg, Int.reduceToNat, Int.reduceAdd, Int.reduceSub, Int.reduceMul, Int.reduceEq, UInt64.reduceToNat, UInt8.reduceToNat, UInt32.reduceToNat]; rfl) (by first | exact True.intro | (simp only [Obs, and_true, true_and]; omega) | (simp [Obs, AV.sizeL, AV.size, Kd.sz]; done) | (simp [Obs, AV.sizeL, AV.size, Kd.sz]; omega)) ?_)
      try simp only [InBlock, Then]
      refine ⟨k + 1, (by omega), (by omega), Wk.of ?_ ?_ rfl rfl⟩
      · simp only [lessTs, List.reduceReplicate, List.cons_append, List.nil_append] <;> ((repeat' apply And.intro) <;> first | rfl | trivial)
      · simp only [lessHs, addI] <;> ((repeat' apply And.intro) <;> first | rfl | trivial)
    · refine Tri.exit ?_
      show Con.post _ _ _ _ _ _
      have hc' : k = 16 := by
        have : ¬ ((k : Int) < 16) := by simpa using hc
        omega
      subst hc'
      refine Con.fin (.inr rfl) (by simp only [Try.f17, resA, resA1, go_sem, ↓reduceIte, reduceCtorEq, Nat.reduceLT, Nat.reduceSub, Nat.reduceAdd, Nat.reduceMul, Nat.reduceEqDiff, Nat.reduceBEq, Nat.reduceBNe, Nat.reduceLeDiff, Nat.reduceDiv, Nat.reduceMod, Nat.reducePow, List.reduceReplicate, UInt8.reduceOfNat, UInt32.reduceOfNat, UInt64.reduceOfNat, Int.reduceLE, Int.reduceLT, Int.reduceNeg, Int.reduceToNat, Int.reduceAdd, Int.reduceSub, Int.reduceMul, Int.reduceEq, UInt64.reduceToNat, UInt8.reduceToNat, UInt32.reduceToNat]; rfl) (by trivial) rfl ?_ rfl rfl
      simp only [lessHs, kAdd, Con.of, List.map] <;> ((repeat' apply And.intro) <;> first | rfl | trivial)
theorem add_sum : FSumOK Try.prog cfgA.G 17 kAdd.sum := Con.sumOK cfgA_ok kAdd Try.func17 rfl rfl (Con.of_inv _ _ _) add_body
end Go.Proofs.Yticgfjalikmniaa

namespace Go.Proofs.Yticgfjalikmniaa
set_option linter.unusedVariables false
set_option linter.unusedSimpArgs false
-- SEM
open Go.Vc Go.Proofs
set_option linter.unusedSimpArgs false
set_option maxRecDepth 10000
set_option maxHeartbeats 2000000
def shI (box old : List UInt8) : Nat → List UInt8
  | 0 => old
  | k + 1 => (shI box old k).set k (box.getD (old.getD ((k + 4 * (k % 4)) % 16) 0).toNat 0)
def kShift : Con := Con.of [.p cipK, .p a16] (fun _ => []) (fun x => ⟨.tuple [], [.pure cipK x.1, .pure a16 (shI x.1.1 x.2.1 16)]⟩)
theorem shift_body (p : kShift.Par) (hp : ∀ q ∈ kShift.pre p, q) : BodyOK Try.prog cfgA Try.f18 (Try.f18.body.get rfl) kShift p := by
  obtain ⟨⟨(box : List UInt8), (keys : List (List UInt8)), u1⟩, (s : List UInt8), u⟩ := p
  refine ⟨?_, Nat.le_refl _, rfl, rfl⟩
  show Tri _ _ _ (Code.seq _ (Code.seq _ (Code.block _ (Code.loop (Code.seq _ (Code.seq (Code.cond _ _ _) (Code.seq (Code.block _ (Code.seq _ _)) _))))))) _
  refine Tri.seq (Tri.reg (cfgA_ok.pins _) (by simp (maxSteps := 2000000) (disch := first | decide | omega | (simp only [List.length_append, List.length_cons, List.length_nil, List.length_take, List.length_drop]; omega)) only [Try.f18, kShift, cfgA, tyTab, go_sem, ↓reduceIte, reduceCtorEq, Nat.reduceLT, Nat.reduceSub, Nat.reduceAdd, Nat.reduceMul, Nat.reduceEqDiff, Nat.reduceBEq, Nat.reduceBNe, Nat.reduceLeDiff, Nat.reduceDiv, Nat.reduceMod, Nat.reducePow, List.reduceReplicate, UInt8.reduceOfNat, UInt32.reduceOfNat, UInt64.reduceOfNat, Int.reduceLE, Int.reduceLT, Int.reduceNeg, Int.reduceToNat, Int.reduceAdd, Int.reduceSub, Int.reduceMul, Int.reduceEq, UInt64.reduceToNat, UInt8.reduceToNat, UInt32.reduceToNat]; rfl) (by first | exact True.intro | (simp only [Obs, and_true, true_and]; omega) | (simp [Obs, AV.sizeL, AV.size, Kd.sz]; done) | (simp [Obs, AV.sizeL, AV.size, Kd.sz]; omega)) ?_)
  refine Tri.seq (Tri.reg (cfgA_ok.pins _) (by simp (maxSteps := 2000000) (disch := first | decide | omega | (simp only [List.length_append, List.length_cons, List.length_nil, List.length_take, List.length_drop]; omega)) only [Try.f18, kShift, cfgA, tyTab, go_sem, ↓reduceIte, reduceCtorEq, Nat.reduceLT, Nat.reduceSub, Nat.reduceAdd, Nat.reduceMul, Nat.reduceEqDiff, Nat.reduceBEq, Nat.reduceBNe, Nat.reduceLeDiff, Nat.reduceDiv, Nat.reduceMod, Nat.reducePow, List.reduceReplicate, UInt8.reduceOfNat, UInt32.reduceOfNat, UInt64.reduceOfNat, Int.reduceLE, Int.reduceLT, Int.reduceNeg, Int.reduceToNat, Int.reduceAdd, Int.reduceSub, Int.reduceMul, Int.reduceEq, UInt64.reduceToNat, UInt8.reduceToNat, UInt32.reduceToNat]; rfl) (by first | exact True.intro | (simp only [Obs, and_true, true_and]; omega) | (simp [Obs, AV.sizeL, AV.size, Kd.sz]; done) | (simp [Obs, AV.sizeL, AV.size, Kd.sz]; omega)) ?_)
  refine Tri.block ?_
  refine Tri.loop (fun k : Nat => (⟨[some (.ptr 0 [] 0), some (.ptr 1 [] 0), none, none, some (.ptr 2 [] 0), none, none, none, none, some (.int .i64 (k : Int))] ++ List.replicate 20 none, [.live (.pure cipK (box, keys, u1)), .live (.pure a16 (shI box s k)), .live (.pure a16 s)]⟩ : AS)) (· ≤ 16) (fun k => 16 - k) 0 ?_ (Nat.zero_le _) ?_
  · refine Wk.of ?_ ?_ rfl rfl
    · simp only [lessTs, List.reduceReplicate, List.cons_append, List.nil_append] <;> ((repeat' apply And.intro) <;> first | rfl | trivial)
    · simp only [lessHs, shI] <;> ((repeat' apply And.intro) <;> first | rfl | trivial)
  · intro k hk
    refine Tri.seq (Tri.reg (cfgA_ok.pins _) (by simp (maxSteps := 2000000) (disch := first | decide | omega | (simp only [List.length_append, List.length_cons, List.length_nil, List.length_take, List.length_drop]; omega)) only [Try.f18, kShift, cfgA, tyTab, go_sem, ↓reduceIte, reduceCtorEq, Nat.reduceLT, Nat.reduceSub, Nat.reduceAdd, Nat.reduceMul, Nat.reduceEqDiff, Nat.reduceBEq, Nat.reduceBNe, Nat.reduceLeDiff, Nat.reduceDiv, Nat.reduceMod, Nat.reducePow, List.reduceReplicate, UInt8.reduceOfNat, UInt32.reduceOfNat, UInt64.reduceOfNat, Int.reduceLE, Int.reduceLT, Int.reduceNeg, Int.reduceToNat, Int.reduceAdd, Int.reduceSub, Int.reduceMul, Int.reduceEq, UInt64.reduceToNat, UInt8.reduceToNat, UInt32.reduceToNat]; rfl) (by first | exact True.intro | (simp only [Obs, and_true, true_and]; omega) | (simp [Obs, AV.sizeL, AV.size, Kd.sz]; done) | (simp [Obs, AV.sizeL, AV.size, Kd.sz]; omega)) ?_)
    refine Tri.seq ?_
    refine Tri.split (by simp only [AS.ev, go_sem, ↓reduceIte, reduceCtorEq, Nat.reduceLT, Nat.reduceSub, Nat.reduceAdd, Nat.reduceMul, Nat.reduceEqDiff, Nat.reduceBEq, Nat.reduceBNe, Nat.reduceLeDiff, Nat.reduceDiv, Nat.reduceMod, Nat.reducePow, List.reduceReplicate, UInt8.reduceOfNat, UInt32.reduceOfNat, UInt64.reduceOfNat, Int.reduceLE, Int.reduceLT, Int.reduceNeg, Int.reduceToNat, Int.reduceAdd, Int.reduceSub, Int.reduceMul, Int.reduceEq, UInt64.reduceToNat, UInt8.reduceToNat, UInt32.reduceToNat]; rfl) (fun hc => ?_) (fun hc => ?_)
    · have hc' : k < 16 := by
        have : (k : Int) < 16 := by simpa using hc
        omega
      refine Tri.skp ?_
      refine Tri.seq (Tri.block ?_)
      refine Tri.seq (Tri.reg (cfgA_ok.pins _) (by simp (maxSteps := 2000000) (disch := first | decide | omega | (simp only [List.length_append, List.length_cons, List.length_nil, List.length_take, List.length_drop]; omega)) only [Try.f18, kShift, cfgA, tyTab, go_sem, ↓reduceIte, reduceCtorEq, Nat.reduceLT, Nat.reduceSub, Nat.reduceAdd, Nat.reduceMul, Nat.reduceEqDiff, Nat.reduceBEq, Nat.reduceBNe, Nat.reduceLeDiff, Nat.reduceDiv, Nat.reduceMod, Nat.reducePow, List.reduceReplicate, UInt8.reduceOfNat, UInt32.reduceOfNat, UInt64.reduceOfNat, Int.reduceLE, Int.reduceLT, Int.reduceNeg, Int.reduceToNat, Int.reduceAdd, Int.reduceSub, Int.reduceMul, Int.reduceEq, UInt64.reduceToNat, UInt8.reduceToNat, UInt32.reduceToNat]; rfl) (by first | exact True.intro | (simp only [Obs, and_true, true_and]; omega) | (simp [Obs, AV.sizeL, AV.size, Kd.sz]; done) | (simp [Obs, AV.sizeL, AV.size, Kd.sz]; omega)) ?_)
      have hlt := UInt8.toNat_lt (s.getD ((k + 4 * (k % 4)) % 16) 0)
      refine (Tri.drn (mixed) (cfgA_ok.pins _) (by simp (maxSteps := 2000000) (disch := first | decide | omega | (simp only [List.length_append, List.length_cons, List.length_nil, List.length_take, List.length_drop]; omega)) only [Try.f18, kShift, cfgA, tyTab, go_sem, ↓reduceIte, reduceCtorEq, Nat.reduceLT, Nat.reduceSub, Nat.reduceAdd, Nat.reduceMul, Nat.reduceEqDiff, Nat.reduceBEq, Nat.reduceBNe, Nat.reduceLeDiff, Nat.reduceDiv, Nat.reduceMod, Nat.reducePow, List.reduceReplicate, UInt8.reduceOfNat, UInt32.reduceOfNat, UInt64.reduceOfNat, Int.reduceLE, Int.reduceLT, Int.reduceNeg, Int.reduceToNat, Int.reduceAdd, Int.reduceSub, Int.reduceMul, Int.reduceEq, UInt64.reduceToNat, UInt8.reduceToNat, UInt32.reduceToNat]; rfl) (by (simp only [Obs, and_true, true_and]; generalize hz : (s.getD ((k + 4 * (k % 4)) % 16) 0).toNat = z at *; omega)) (by kernel_rfl) ?_)
      try simp only [InBlock, Then]
      refine (Tri.rgn (cfgA_ok.pins _) (by simp (maxSteps := 2000000) (disch := first | decide | omega | (simp only [List.length_append, List.length_cons, List.length_nil, List.length_take, List.length_drop]; omega)) only [Try.f18, kShift, cfgA, tyTab, go_sem, ↓reduceIte, reduceCtorEq, Nat.reduceLT, Nat.reduceSub, Nat.reduceAdd, Nat.reduceMul, Nat.reduceEqDiff, Nat.reduceBEq, Nat.reduceBNe, Nat.reduceLeDiff, Nat.reduceDiv, Nat.reduceMod, Nat.reducePow, List.reduceReplicate, UInt8.reduceOfNat, UInt32.reduceOfNat, UInt64.reduceOfNat, Int.reduceLE, Int.reduceLT, Int.reduceNeg, Int.reduceToNat, Int.reduceAdd, Int.reduceSub, Int.reduceMul, Int.reduceEq, UInt64.reduceToNat, UInt8.reduceToNat, UInt32.reduceToNat]; rfl) (by first | exact True.intro | (simp only [Obs, and_true, true_and]; omega) | (simp [Obs, AV.sizeL, AV.size, Kd.sz]; done) | (simp [Obs, AV.sizeL, AV.size, Kd.sz]; omega)) ?_)
      try simp only [InBlock, Then]
      refine ⟨k + 1, (by omega), (by omega), Wk.of ?_ ?_ rfl rfl⟩
      · simp only [lessTs, List.reduceReplicate, List.cons_append, List.nil_append] <;> ((repeat' apply And.intro) <;> first | rfl | trivial)
      · simp only [lessHs, shI] <;> ((repeat' apply And.intro) <;> first | rfl | trivial)
    · refine Tri.exit ?_
      show Con.post _ _ _ _ _ _
      have hc' : k = 16 := by
        have : ¬ ((k : Int) < 16) := by simpa using hc
        omega
      subst hc'
      refine Con.fin (.inr rfl) (by simp only [Try.f18, resA, resA1, go_sem, ↓reduceIte, reduceCtorEq, Nat.reduceLT, Nat.reduceSub, Nat.reduceAdd, Nat.reduceMul, Nat.reduceEqDiff, Nat.reduceBEq, Nat.reduceBNe, Nat.reduceLeDiff, Nat.reduceDiv, Nat.reduceMod, Nat.reducePow, List.reduceReplicate, UInt8.reduceOfNat, UInt32.reduceOfNat, UInt64.reduceOfNat, Int.reduceLE, Int.reduceLT, Int.reduceNeg, Int.reduceToNat, Int.reduceAdd, Int.reduceSub, Int.reduceMul, Int.reduceEq, UInt64.reduceToNat, UInt8.reduceToNat, UInt32.reduceToNat]; rfl) (by trivial) rfl ?_ rfl rfl
      simp only [lessHs, kShift, Con.of, List.map] <;> ((repeat' apply And.intro) <;> first | rfl | trivial)
theorem shift_sum : FSumOK Try.prog cfgA.G 18 kShift.sum := Con.sumOK cfgA_ok kShift Try.func18 rfl rfl (Con.of_inv _ _ _) shift_body
end Go.Proofs.Yticgfjalikmniaa

namespace Go.Proofs.Yticgfjalikmniaa
set_option linter.unusedVariables false
set_option linter.unusedSimpArgs false
-- SEM
open Go.Vc Go.Proofs
set_option linter.unusedSimpArgs false
set_option maxRecDepth 10000
set_option maxHeartbeats 2000000
def mixC (s col : List UInt8) (all : UInt8) (c : Nat) : Nat → List UInt8
  | 0 => s
  | j + 1 => (mixC s col all c j).set (4 * c + j) (col.getD j 0 ^^^ all ^^^ twice (col.getD j 0 ^^^ col.getD ((j + 1) % 4) 0))
def mixI (s : List UInt8) : Nat → List UInt8
  | 0 => s
  | c + 1 => let t := mixI s c; let col := (t.drop (4 * c)).take 4; mixC t col (col.getD 0 0 ^^^ col.getD 1 0 ^^^ col.getD 2 0 ^^^ col.getD 3 0) c 4
def kMix : Con := Con.of [.p a16] (fun _ => []) (fun x => ⟨.tuple [], [.pure a16 (mixI x.1 4)]⟩)
theorem mix_body (p : kMix.Par) (hp : ∀ q ∈ kMix.pre p, q) : BodyOK Try.prog cfgB Try.f19 (Try.f19.body.get rfl) kMix p := by
  obtain ⟨(s : List UInt8), u⟩ := p
  refine ⟨?_, Nat.le_refl _, rfl, rfl⟩
  show Tri _ _ _ (Code.seq _ (Code.block _ (Code.loop (Code.seq (Code.seq _ (Code.cond _ _ _)) (Code.seq (Code.block _ (Code.seq _ (Code.seq _ (Code.seq _ (Code.block _ (Code.loop (Code.seq _ (Code.seq (Code.cond _ _ _) (Code.seq (Code.block _ (Code.seq _ _)) _))))))))) _))))) _
  refine Tri.seq (Tri.reg (cfgB_ok.pins _) (by simp (maxSteps := 2000000) (disch := first | decide | omega | (simp only [List.length_append, List.length_cons, List.length_nil, List.length_take, List.length_drop]; omega)) only [Try.f19, kMix, kTwice, cfgB, tyTab, go_sem, ↓reduceIte, reduceCtorEq, Nat.reduceLT, Nat.reduceSub, Nat.reduceAdd, Nat.reduceMul, Nat.reduceEqDiff, Nat.reduceBEq, Nat.reduceBNe, Nat.reduceLeDiff, Nat.reduceDiv, Nat.reduceMod, Nat.reducePow, List.reduceReplicate, UInt8.reduceOfNat, UInt32.reduceOfNat, UInt64.reduceOfNat, Int.reduceLE, Int.reduceLT, Int.reduceNeg, Int.reduceToNat, Int.reduceAdd, Int.reduceSub, Int.reduceMul, Int.reduceEq, UInt64.reduceToNat, UInt8.reduceToNat, UInt32.reduceToNat]; rfl) (by first | exact True.intro | (simp only [Obs, and_true, true_and]; omega) | (simp [Obs, AV.sizeL, AV.size, Kd.sz]; done) | (simp [Obs, AV.sizeL, AV.size, Kd.sz]; omega)) ?_)
  refine Tri.block ?_
  refine Tri.loop (fun c : Nat => (⟨[some (.ptr 0 [] 0), none, some (.int .i64 ((4 * c : Nat) : Int))] ++ List.replicate 51 none, [.live (.pure a16 (mixI s c))]⟩ : AS)) (· ≤ 4) (fun k => 4 - k) 0 ?_ (Nat.zero_le _) ?_
  · refine Wk.of ?_ ?_ rfl rfl
    · simp only [lessTs, List.reduceReplicate, List.cons_append, List.nil_append] <;> ((repeat' apply And.intro) <;> first | rfl | trivial)
    · simp only [lessHs, mixI] <;> ((repeat' apply And.intro) <;> first | rfl | trivial)
  · intro c hc
    refine Tri.seq ?_
    refine Tri.seq (Tri.reg (cfgB_ok.pins _) (by simp (maxSteps := 2000000) (disch := first | decide | omega | (simp only [List.length_append, List.length_cons, List.length_nil, List.length_take, List.length_drop]; omega)) only [Try.f19, kMix, kTwice, cfgB, tyTab, go_sem, ↓reduceIte, reduceCtorEq, Nat.reduceLT, Nat.reduceSub, Nat.reduceAdd, Nat.reduceMul, Nat.reduceEqDiff, Nat.reduceBEq, Nat.reduceBNe, Nat.reduceLeDiff, Nat.reduceDiv, Nat.reduceMod, Nat.reducePow, List.reduceReplicate, UInt8.reduceOfNat, UInt32.reduceOfNat, UInt64.reduceOfNat, Int.reduceLE, Int.reduceLT, Int.reduceNeg, Int.reduceToNat, Int.reduceAdd, Int.reduceSub, Int.reduceMul, Int.reduceEq, UInt64.reduceToNat, UInt8.reduceToNat, UInt32.reduceToNat]; rfl) (by first | exact True.intro | (simp only [Obs, and_true, true_and]; omega) | (simp [Obs, AV.sizeL, AV.size, Kd.sz]; done) | (simp [Obs, AV.sizeL, AV.size, Kd.sz]; omega)) ?_)
    refine Tri.split (by simp only [AS.ev, go_sem, ↓reduceIte, reduceCtorEq, Nat.reduceLT, Nat.reduceSub, Nat.reduceAdd, Nat.reduceMul, Nat.reduceEqDiff, Nat.reduceBEq, Nat.reduceBNe, Nat.reduceLeDiff, Nat.reduceDiv, Nat.reduceMod, Nat.reducePow, List.reduceReplicate, UInt8.reduceOfNat, UInt32.reduceOfNat, UInt64.reduceOfNat, Int.reduceLE, Int.reduceLT, Int.reduceNeg, Int.reduceToNat, Int.reduceAdd, Int.reduceSub, Int.reduceMul, Int.reduceEq, UInt64.reduceToNat, UInt8.reduceToNat, UInt32.reduceToNat]; rfl) (fun hb => ?_) (fun hb => ?_)
    · have hc' : c < 4 := by
        have : ((4 * c : Nat) : Int) < 16 := by simpa using hb
        omega
      refine Tri.skp ?_
      refine Tri.seq (Tri.block ?_)
      refine Tri.seq (Tri.reg (cfgB_ok.pins _) (by simp (maxSteps := 2000000) (disch := first | decide | omega | (simp only [List.length_append, List.length_cons, List.length_nil, List.length_take, List.length_drop]; omega)) only [Try.f19, kMix, kTwice, cfgB, tyTab, go_sem, ↓reduceIte, reduceCtorEq, Nat.reduceLT, Nat.reduceSub, Nat.reduceAdd, Nat.reduceMul, Nat.reduceEqDiff, Nat.reduceBEq, Nat.reduceBNe, Nat.reduceLeDiff, Nat.reduceDiv, Nat.reduceMod, Nat.reducePow, List.reduceReplicate, UInt8.reduceOfNat, UInt32.reduceOfNat, UInt64.reduceOfNat, Int.reduceLE, Int.reduceLT, Int.reduceNeg, Int.reduceToNat, Int.reduceAdd, Int.reduceSub, Int.reduceMul, Int.reduceEq, UInt64.reduceToNat, UInt8.reduceToNat, UInt32.reduceToNat]; rfl) (by first | exact True.intro | (simp only [Obs, and_true, true_and]; omega) | (simp [Obs, AV.sizeL, AV.size, Kd.sz]; done) | (simp [Obs, AV.sizeL, AV.size, Kd.sz]; omega)) ?_)
      refine Tri.seq (Tri.reg (cfgB_ok.pins _) (by simp (maxSteps := 2000000) (disch := first | decide | omega | (simp only [List.length_append, List.length_cons, List.length_nil, List.length_take, List.length_drop]; omega)) only [Try.f19, kMix, kTwice, cfgB, tyTab, go_sem, ↓reduceIte, reduceCtorEq, Nat.reduceLT, Nat.reduceSub, Nat.reduceAdd, Nat.reduceMul, Nat.reduceEqDiff, Nat.reduceBEq, Nat.reduceBNe, Nat.reduceLeDiff, Nat.reduceDiv, Nat.reduceMod, Nat.reducePow, List.reduceReplicate, UInt8.reduceOfNat, UInt32.reduceOfNat, UInt64.reduceOfNat, Int.reduceLE, Int.reduceLT, Int.reduceNeg, Int.reduceToNat, Int.reduceAdd, Int.reduceSub, Int.reduceMul, Int.reduceEq, UInt64.reduceToNat, UInt8.reduceToNat, UInt32.reduceToNat]; rfl) (by first | exact True.intro | (simp only [Obs, and_true, true_and]; omega) | (simp [Obs, AV.sizeL, AV.size, Kd.sz]; done) | (simp [Obs, AV.sizeL, AV.size, Kd.sz]; omega)) ?_)
      refine Tri.seq (Tri.reg (cfgB_ok.pins _) (by simp (maxSteps := 2000000) (disch := first | decide | omega | (simp only [List.length_append, List.length_cons, List.length_nil, List.length_take, List.length_drop]; omega)) only [Try.f19, kMix, kTwice, cfgB, tyTab, go_sem, ↓reduceIte, reduceCtorEq, Nat.reduceLT, Nat.reduceSub, Nat.reduceAdd, Nat.reduceMul, Nat.reduceEqDiff, Nat.reduceBEq, Nat.reduceBNe, Nat.reduceLeDiff, Nat.reduceDiv, Nat.reduceMod, Nat.reducePow, List.reduceReplicate, UInt8.reduceOfNat, UInt32.reduceOfNat, UInt64.reduceOfNat, Int.reduceLE, Int.reduceLT, Int.reduceNeg, Int.reduceToNat, Int.reduceAdd, Int.reduceSub, Int.reduceMul, Int.reduceEq, UInt64.reduceToNat, UInt8.reduceToNat, UInt32.reduceToNat]; rfl) (by first | exact True.intro | (simp only [Obs, and_true, true_and]; omega) | (simp [Obs, AV.sizeL, AV.size, Kd.sz]; done) | (simp [Obs, AV.sizeL, AV.size, Kd.sz]; omega)) ?_)
      generalize hcol : List.take 4 (List.drop (4 * c) (mixI s c)) = col
      generalize hall : col.getD 0 0 ^^^ col.getD 1 0 ^^^ col.getD 2 0 ^^^ col.getD 3 0 = all
      refine Tri.block ?_
      refine Tri.loop (fun j : Nat => (⟨[some (.ptr 0 [] 0), none, some (.int .i64 ((4 * c : Nat) : Int)), some (.ptr 1 [] 0), some (.int .u8 all)] ++ List.replicate 25 none ++ [some (.pure a4 col), some (.int .i64 (j : Int))] ++ List.replicate 22 none, [.live (.pure a16 (mixC (mixI s c) col all c j)), .live (.pure a4 col)]⟩ : AS)) (· ≤ 4) (fun k => 4 - k) 0 ?_ (Nat.zero_le _) ?_
      · refine Wk.of ?_ ?_ rfl rfl
        · simp only [lessTs, List.reduceReplicate, List.cons_append, List.nil_append] <;> ((repeat' apply And.intro) <;> first | rfl | trivial)
        · simp only [lessHs, mixC] <;> ((repeat' apply And.intro) <;> first | rfl | trivial)
      · intro j hj
        refine Tri.seq (Tri.reg (cfgB_ok.pins _) (by simp (maxSteps := 2000000) (disch := first | decide | omega | (simp only [List.length_append, List.length_cons, List.length_nil, List.length_take, List.length_drop]; omega)) only [Try.f19, kMix, kTwice, cfgB, tyTab, go_sem, ↓reduceIte, reduceCtorEq, Nat.reduceLT, Nat.reduceSub, Nat.reduceAdd, Nat.reduceMul, Nat.reduceEqDiff, Nat.reduceBEq, Nat.reduceBNe, Nat.reduceLeDiff, Nat.reduceDiv, Nat.reduceMod, Nat.reducePow, List.reduceReplicate, UInt8.reduceOfNat, UInt32.reduceOfNat, UInt64.reduceOfNat, Int.reduceLE, Int.reduceLT, Int.reduceNeg, Int.reduceToNat, Int.reduceAdd, Int.reduceSub, Int.reduceMul, Int.reduceEq, UInt64.reduceToNat, UInt8.reduceToNat, UInt32.reduceToNat]; rfl) (by first | exact True.intro | (simp only [Obs, and_true, true_and]; omega) | (simp [Obs, AV.sizeL, AV.size, Kd.sz]; done) | (simp [Obs, AV.sizeL, AV.size, Kd.sz]; omega)) ?_)
        refine Tri.seq ?_
        refine Tri.split (by simp only [AS.ev, go_sem, ↓reduceIte, reduceCtorEq, Nat.reduceLT, Nat.reduceSub, Nat.reduceAdd, Nat.reduceMul, Nat.reduceEqDiff, Nat.reduceBEq, Nat.reduceBNe, Nat.reduceLeDiff, Nat.reduceDiv, Nat.reduceMod, Nat.reducePow, List.reduceReplicate, UInt8.reduceOfNat, UInt32.reduceOfNat, UInt64.reduceOfNat, Int.reduceLE, Int.reduceLT, Int.reduceNeg, Int.reduceToNat, Int.reduceAdd, Int.reduceSub, Int.reduceMul, Int.reduceEq, UInt64.reduceToNat, UInt8.reduceToNat, UInt32.reduceToNat]; rfl) (fun hd => ?_) (fun hd => ?_)
        · have hd' : j < 4 := by
            have : (j : Int) < 4 := by simpa using hd
            omega
          refine Tri.skp ?_
          refine Tri.seq (Tri.block ?_)
          refine Tri.seq (Tri.reg (cfgB_ok.pins _) (by simp (maxSteps := 2000000) (disch := first | decide | omega | (simp only [List.length_append, List.length_cons, List.length_nil, List.length_take, List.length_drop]; omega)) only [Try.f19, kMix, kTwice, cfgB, tyTab, go_sem, ↓reduceIte, reduceCtorEq, Nat.reduceLT, Nat.reduceSub, Nat.reduceAdd, Nat.reduceMul, Nat.reduceEqDiff, Nat.reduceBEq, Nat.reduceBNe, Nat.reduceLeDiff, Nat.reduceDiv, Nat.reduceMod, Nat.reducePow, List.reduceReplicate, UInt8.reduceOfNat, UInt32.reduceOfNat, UInt64.reduceOfNat, Int.reduceLE, Int.reduceLT, Int.reduceNeg, Int.reduceToNat, Int.reduceAdd, Int.reduceSub, Int.reduceMul, Int.reduceEq, UInt64.reduceToNat, UInt8.reduceToNat, UInt32.reduceToNat]; rfl) (by first | exact True.intro | (simp only [Obs, and_true, true_and]; omega) | (simp [Obs, AV.sizeL, AV.size, Kd.sz]; done) | (simp [Obs, AV.sizeL, AV.size, Kd.sz]; omega)) ?_)
          refine (Tri.drn (mixed) (cfgB_ok.pins _) (by simp (maxSteps := 2000000) (disch := first | decide | omega | (simp only [List.length_append, List.length_cons, List.length_nil, List.length_take, List.length_drop]; omega)) only [Try.f19, kMix, kTwice, cfgB, tyTab, go_sem, ↓reduceIte, reduceCtorEq, Nat.reduceLT, Nat.reduceSub, Nat.reduceAdd, Nat.reduceMul, Nat.reduceEqDiff, Nat.reduceBEq, Nat.reduceBNe, Nat.reduceLeDiff, Nat.reduceDiv, Nat.reduceMod, Nat.reducePow, List.reduceReplicate, UInt8.reduceOfNat, UInt32.reduceOfNat, UInt64.reduceOfNat, Int.reduceLE, Int.reduceLT, Int.reduceNeg, Int.reduceToNat, Int.reduceAdd, Int.reduceSub, Int.reduceMul, Int.reduceEq, UInt64.reduceToNat, UInt8.reduceToNat, UInt32.reduceToNat]; rfl) (by first | exact True.intro | (simp only [Obs, and_true, true_and]; omega) | (simp [Obs, AV.sizeL, AV.size, Kd.sz]; done) | (simp [Obs, AV.sizeL, AV.size, Kd.sz]; omega)) (by kernel_rfl) ?_)
          try simp only [InBlock, Then]
          refine (Tri.rgn (cfgB_ok.pins _) (by simp (maxSteps := 2000000) (disch := first | decide | omega | (simp only [List.length_append, List.length_cons, List.length_nil, List.length_take, List.length_drop]; omega)) only [Try.f19, kMix, kTwice, cfgB, tyTab, go_sem, ↓reduceIte, reduceCtorEq, Nat.reduceLT, Nat.reduceSub, Nat.reduceAdd, Nat.reduceMul, Nat.reduceEqDiff, Nat.reduceBEq, Nat.reduceBNe, Nat.reduceLeDiff, Nat.reduceDiv, Nat.reduceMod, Nat.reducePow, List.reduceReplicate, UInt8.reduceOfNat, UInt32.reduceOfNat, UInt64.reduceOfNat, Int.reduceLE, Int.reduceLT, Int.reduceNeg, Int.reduceToNat, Int.reduceAdd, Int.reduceSub, Int.reduceMul, Int.reduceEq, UInt64.reduceToNat, UInt8.reduceToNat, UInt32.reduceToNat]; rfl) (by first | exact True.intro | (simp only [Obs, and_true, true_and]; omega) | (simp [Obs, AV.sizeL, AV.size, Kd.sz]; done) | (simp [Obs, AV.sizeL, AV.size, Kd.sz]; omega)) ?_)
          try simp only [InBlock, Then]
          refine ⟨j + 1, (by omega), (by omega), Wk.of ?_ ?_ rfl rfl⟩
          · simp only [lessTs, List.reduceReplicate, List.cons_append, List.nil_append] <;> ((repeat' apply And.intro) <;> first | rfl | trivial)
          · simp only [lessHs, mixC] <;> ((repeat' apply And.intro) <;> first | rfl | trivial)
        · refine Tri.exit ?_
          have hd' : j = 4 := by
            have : ¬ ((j : Int) < 4) := by simpa using hd
            omega
          subst hd'
          simp only [Then, InBlock, if_true]
          refine (Tri.rgn (cfgB_ok.pins _) (by simp (maxSteps := 2000000) (disch := first | decide | omega | (simp only [List.length_append, List.length_cons, List.length_nil, List.length_take, List.length_drop]; omega)) only [Try.f19, kMix, kTwice, cfgB, tyTab, go_sem, ↓reduceIte, reduceCtorEq, Nat.reduceLT, Nat.reduceSub, Nat.reduceAdd, Nat.reduceMul, Nat.reduceEqDiff, Nat.reduceBEq, Nat.reduceBNe, Nat.reduceLeDiff, Nat.reduceDiv, Nat.reduceMod, Nat.reducePow, List.reduceReplicate, UInt8.reduceOfNat, UInt32.reduceOfNat, UInt64.reduceOfNat, Int.reduceLE, Int.reduceLT, Int.reduceNeg, Int.reduceToNat, Int.reduceAdd, Int.reduceSub, Int.reduceMul, Int.reduceEq, UInt64.reduceToNat, UInt8.reduceToNat, UInt32.reduceToNat]; rfl) (by first | exact True.intro | (simp only [Obs, and_true, true_and]; omega) | (simp [Obs, AV.sizeL, AV.size, Kd.sz]; done) | (simp [Obs, AV.sizeL, AV.size, Kd.sz]; omega)) ?_)
          try simp only [InBlock, Then]
          refine ⟨c + 1, (by omega), (by omega), Wk.of ?_ ?_ rfl rfl⟩
          · simp only [lessTs, List.reduceReplicate, List.cons_append, List.nil_append] <;> ((repeat' apply And.intro) <;> first | rfl | trivial)
          · simp only [lessHs, mixI, hcol, hall] <;> ((repeat' apply And.intro) <;> first | rfl | trivial)
    · refine Tri.exit ?_
      show Con.post _ _ _ _ _ _
      have hc' : c = 4 := by
        have : ¬ (((4 * c : Nat) : Int) < 16) := by simpa using hb
        omega
      subst hc'
      refine Con.fin (.inr rfl) (by simp only [Try.f19, resA, resA1, go_sem, ↓reduceIte, reduceCtorEq, Nat.reduceLT, Nat.reduceSub, Nat.reduceAdd, Nat.reduceMul, Nat.reduceEqDiff, Nat.reduceBEq, Nat.reduceBNe, Nat.reduceLeDiff, Nat.reduceDiv, Nat.reduceMod, Nat.reducePow, List.reduceReplicate, UInt8.reduceOfNat, UInt32.reduceOfNat, UInt64.reduceOfNat, Int.reduceLE, Int.reduceLT, Int.reduceNeg, Int.reduceToNat, Int.reduceAdd, Int.reduceSub, Int.reduceMul, Int.reduceEq, UInt64.reduceToNat, UInt8.reduceToNat, UInt32.reduceToNat]; rfl) (by trivial) rfl ?_ rfl rfl
      simp only [lessHs, kMix, Con.of, List.map] <;> ((repeat' apply And.intro) <;> first | rfl | trivial)
theorem mix_sum : FSumOK Try.prog cfgB.G 19 kMix.sum := Con.sumOK cfgB_ok kMix Try.func19 rfl rfl (Con.of_inv _ _ _) mix_body
end Go.Proofs.Yticgfjalikmniaa

namespace Go.Proofs.Yticgfjalikmniaa
set_option linter.unusedVariables false
set_option linter.unusedSimpArgs false
-- SEM
open Go.Vc Go.Proofs
set_option linter.unusedSimpArgs false
set_option maxRecDepth 10000
set_option maxHeartbeats 2000000
def ctI (a b : UInt64) : Nat → UInt64 × UInt64 × List UInt8
  | 0 => (a, b, List.replicate 16 0)
  | j + 1 => let s := ctI a b j; (s.1 >>> 8, s.2.1 >>> 8, (s.2.2.set (7 - j) s.1.toUInt8).set (8 + (7 - j)) s.2.1.toUInt8)
def kCounter : Con := Con.of [.v (.int .u64), .v (.int .u64)] (fun _ => []) (fun x => ⟨.pure a16 (ctI x.1 x.2.1 8).2.2, []⟩)
theorem counter_body (p : kCounter.Par) (hp : ∀ q ∈ kCounter.pre p, q) : BodyOK Try.prog cfgA Try.f22 (Try.f22.body.get rfl) kCounter p := by
  obtain ⟨(a : UInt64), (b : UInt64), u⟩ := p
  refine ⟨?_, Nat.le_refl _, rfl, rfl⟩
  show Tri _ _ _ (Code.seq _ (Code.seq (Code.seq _ (Code.block _ (Code.loop (Code.seq (Code.seq _ (Code.cond _ _ _)) (Code.seq (Code.block _ (Code.seq _ _)) _))))) (Code.seq _ _))) _
  refine Tri.seq (Tri.reg (cfgA_ok.pins _) (by simp (maxSteps := 2000000) (disch := first | decide | omega | (simp only [List.length_append, List.length_cons, List.length_nil, List.length_take, List.length_drop]; omega)) only [Try.f22, kCounter, cfgA, tyTab, go_sem, ↓reduceIte, reduceCtorEq, Nat.reduceLT, Nat.reduceSub, Nat.reduceAdd, Nat.reduceMul, Nat.reduceEqDiff, Nat.reduceBEq, Nat.reduceBNe, Nat.reduceLeDiff, Nat.reduceDiv, Nat.reduceMod, Nat.reducePow, List.reduceReplicate, UInt8.reduceOfNat, UInt32.reduceOfNat, UInt64.reduceOfNat, Int.reduceLE, Int.reduceLT, Int.reduceNeg, Int.reduceToNat, Int.reduceAdd, Int.reduceSub, Int.reduceMul, Int.reduceEq, UInt64.reduceToNat, UInt8.reduceToNat, UInt32.reduceToNat]; rfl) (by first | exact True.intro | (simp only [Obs, and_true, true_and]; omega) | (simp [Obs, AV.sizeL, AV.size, Kd.sz]; done) | (simp [Obs, AV.sizeL, AV.size, Kd.sz]; omega)) ?_)
  refine Tri.seq ?_
  refine Tri.seq (Tri.reg (cfgA_ok.pins _) (by simp (maxSteps := 2000000) (disch := first | decide | omega | (simp only [List.length_append, List.length_cons, List.length_nil, List.length_take, List.length_drop]; omega)) only [Try.f22, kCounter, cfgA, tyTab, go_sem, ↓reduceIte, reduceCtorEq, Nat.reduceLT, Nat.reduceSub, Nat.reduceAdd, Nat.reduceMul, Nat.reduceEqDiff, Nat.reduceBEq, Nat.reduceBNe, Nat.reduceLeDiff, Nat.reduceDiv, Nat.reduceMod, Nat.reducePow, List.reduceReplicate, UInt8.reduceOfNat, UInt32.reduceOfNat, UInt64.reduceOfNat, Int.reduceLE, Int.reduceLT, Int.reduceNeg, Int.reduceToNat, Int.reduceAdd, Int.reduceSub, Int.reduceMul, Int.reduceEq, UInt64.reduceToNat, UInt8.reduceToNat, UInt32.reduceToNat]; rfl) (by first | exact True.intro | (simp only [Obs, and_true, true_and]; omega) | (simp [Obs, AV.sizeL, AV.size, Kd.sz]; done) | (simp [Obs, AV.sizeL, AV.size, Kd.sz]; omega)) ?_)
  refine Tri.block ?_
  refine Tri.loop (fun j : Nat => (⟨[some (.int .u64 (ctI a b j).1), some (.int .u64 (ctI a b j).2.1), none, none, some (.ptr 0 [] 0), some (.int .i64 (7 - (j : Int)))] ++ List.replicate 18 none, [.live (.pure a16 (ctI a b j).2.2)]⟩ : AS)) (· ≤ 8) (fun k => 8 - k) 0 ?_ (Nat.zero_le _) ?_
  · refine Wk.of ?_ ?_ rfl rfl
    · simp only [lessTs, List.reduceReplicate, List.cons_append, List.nil_append] <;> ((repeat' apply And.intro) <;> first | rfl | trivial)
    · simp only [lessHs, ctI] <;> ((repeat' apply And.intro) <;> first | rfl | trivial)
  · intro j hj
    refine Tri.seq ?_
    refine Tri.seq (Tri.reg (cfgA_ok.pins _) (by simp (maxSteps := 2000000) (disch := first | decide | omega | (simp only [List.length_append, List.length_cons, List.length_nil, List.length_take, List.length_drop]; omega)) only [Try.f22, kCounter, cfgA, tyTab, go_sem, ↓reduceIte, reduceCtorEq, Nat.reduceLT, Nat.reduceSub, Nat.reduceAdd, Nat.reduceMul, Nat.reduceEqDiff, Nat.reduceBEq, Nat.reduceBNe, Nat.reduceLeDiff, Nat.reduceDiv, Nat.reduceMod, Nat.reducePow, List.reduceReplicate, UInt8.reduceOfNat, UInt32.reduceOfNat, UInt64.reduceOfNat, Int.reduceLE, Int.reduceLT, Int.reduceNeg, Int.reduceToNat, Int.reduceAdd, Int.reduceSub, Int.reduceMul, Int.reduceEq, UInt64.reduceToNat, UInt8.reduceToNat, UInt32.reduceToNat]; rfl) (by first | exact True.intro | (simp only [Obs, and_true, true_and]; omega) | (simp [Obs, AV.sizeL, AV.size, Kd.sz]; done) | (simp [Obs, AV.sizeL, AV.size, Kd.sz]; omega)) ?_)
    refine Tri.split (by simp only [AS.ev, go_sem, ↓reduceIte, reduceCtorEq, Nat.reduceLT, Nat.reduceSub, Nat.reduceAdd, Nat.reduceMul, Nat.reduceEqDiff, Nat.reduceBEq, Nat.reduceBNe, Nat.reduceLeDiff, Nat.reduceDiv, Nat.reduceMod, Nat.reducePow, List.reduceReplicate, UInt8.reduceOfNat, UInt32.reduceOfNat, UInt64.reduceOfNat, Int.reduceLE, Int.reduceLT, Int.reduceNeg, Int.reduceToNat, Int.reduceAdd, Int.reduceSub, Int.reduceMul, Int.reduceEq, UInt64.reduceToNat, UInt8.reduceToNat, UInt32.reduceToNat]; rfl) (fun hc => ?_) (fun hc => ?_)
    · have hc' : j < 8 := by
        have : ¬ ((7 - (j : Int)) < 0) := by simpa using hc
        omega
      refine Tri.skp ?_
      refine Tri.seq (Tri.block ?_)
      obtain ⟨m, hm⟩ : ∃ m : Nat, 7 - (j : Int) = (m : Int) := ⟨7 - j, by omega⟩
      have hm' : 7 - j = m := by omega
      simp only [hm]
      refine Tri.seq (Tri.reg (cfgA_ok.pins _) (by simp (maxSteps := 2000000) (disch := first | decide | omega | (simp only [List.length_append, List.length_cons, List.length_nil, List.length_take, List.length_drop]; omega)) only [Try.f22, kCounter, cfgA, tyTab, go_sem, ↓reduceIte, reduceCtorEq, Nat.reduceLT, Nat.reduceSub, Nat.reduceAdd, Nat.reduceMul, Nat.reduceEqDiff, Nat.reduceBEq, Nat.reduceBNe, Nat.reduceLeDiff, Nat.reduceDiv, Nat.reduceMod, Nat.reducePow, List.reduceReplicate, UInt8.reduceOfNat, UInt32.reduceOfNat, UInt64.reduceOfNat, Int.reduceLE, Int.reduceLT, Int.reduceNeg, Int.reduceToNat, Int.reduceAdd, Int.reduceSub, Int.reduceMul, Int.reduceEq, UInt64.reduceToNat, UInt8.reduceToNat, UInt32.reduceToNat]; rfl) (by first | exact True.intro | (simp only [Obs, and_true, true_and]; omega) | (simp [Obs, AV.sizeL, AV.size, Kd.sz]; done) | (simp [Obs, AV.sizeL, AV.size, Kd.sz]; omega)) ?_)
      refine (Tri.rgn (cfgA_ok.pins _) (by simp (maxSteps := 2000000) (disch := first | decide | omega | (simp only [List.length_append, List.length_cons, List.length_nil, List.length_take, List.length_drop]; omega)) only [Try.f22, kCounter, cfgA, tyTab, go_sem, ↓reduceIte, reduceCtorEq, Nat.reduceLT, Nat.reduceSub, Nat.reduceAdd, Nat.reduceMul, Nat.reduceEqDiff, Nat.reduceBEq, Nat.reduceBNe, Nat.reduceLeDiff, Nat.reduceDiv, Nat.reduceMod, Nat.reducePow, List.reduceReplicate, UInt8.reduceOfNat, UInt32.reduceOfNat, UInt64.reduceOfNat, Int.reduceLE, Int.reduceLT, Int.reduceNeg, Int.reduceToNat, Int.reduceAdd, Int.reduceSub, Int.reduceMul, Int.reduceEq, UInt64.reduceToNat, UInt8.reduceToNat, UInt32.reduceToNat]; rfl) (by first | exact True.intro | (simp only [Obs, and_true, true_and]; omega) | (simp [Obs, AV.sizeL, AV.size, Kd.sz]; done) | (simp [Obs, AV.sizeL, AV.size, Kd.sz]; omega)) ?_)
      try simp only [InBlock, Then]
      refine (Tri.rgn (cfgA_ok.pins _) (by simp (maxSteps := 2000000) (disch := first | decide | omega | (simp only [List.length_append, List.length_cons, List.length_nil, List.length_take, List.length_drop]; omega)) only [Try.f22, kCounter, cfgA, tyTab, go_sem, ↓reduceIte, reduceCtorEq, Nat.reduceLT, Nat.reduceSub, Nat.reduceAdd, Nat.reduceMul, Nat.reduceEqDiff, Nat.reduceBEq, Nat.reduceBNe, Nat.reduceLeDiff, Nat.reduceDiv, Nat.reduceMod, Nat.reducePow, List.reduceReplicate, UInt8.reduceOfNat, UInt32.reduceOfNat, UInt64.reduceOfNat, Int.reduceLE, Int.reduceLT, Int.reduceNeg, Int.reduceToNat, Int.reduceAdd, Int.reduceSub, Int.reduceMul, Int.reduceEq, UInt64.reduceToNat, UInt8.reduceToNat, UInt32.reduceToNat]; rfl) (by first | exact True.intro | (simp only [Obs, and_true, true_and]; omega) | (simp [Obs, AV.sizeL, AV.size, Kd.sz]; done) | (simp [Obs, AV.sizeL, AV.size, Kd.sz]; omega)) ?_)
      try simp only [InBlock, Then]
      refine ⟨j + 1, (by omega), (by omega), Wk.of ?_ ?_ rfl rfl⟩
      · simp only [lessTs, List.reduceReplicate, List.cons_append, List.nil_append, ctI, ← hm, Int.natCast_add, Int.sub_sub] <;> ((repeat' apply And.intro) <;> first | rfl | trivial)
      · simp only [lessHs, ctI, hm'] <;> ((repeat' apply And.intro) <;> first | rfl | trivial)
    · refine Tri.exit ?_
      have hc' : j = 8 := by
        have : ((7 - (j : Int)) < 0) := by simpa using hc
        omega
      subst hc'
      simp only [Then, InBlock, if_true]
      refine Tri.seq (Tri.reg (cfgA_ok.pins _) (by simp (maxSteps := 2000000) (disch := first | decide | omega | (simp only [List.length_append, List.length_cons, List.length_nil, List.length_take, List.length_drop]; omega)) only [Try.f22, kCounter, cfgA, tyTab, go_sem, ↓reduceIte, reduceCtorEq, Nat.reduceLT, Nat.reduceSub, Nat.reduceAdd, Nat.reduceMul, Nat.reduceEqDiff, Nat.reduceBEq, Nat.reduceBNe, Nat.reduceLeDiff, Nat.reduceDiv, Nat.reduceMod, Nat.reducePow, List.reduceReplicate, UInt8.reduceOfNat, UInt32.reduceOfNat, UInt64.reduceOfNat, Int.reduceLE, Int.reduceLT, Int.reduceNeg, Int.reduceToNat, Int.reduceAdd, Int.reduceSub, Int.reduceMul, Int.reduceEq, UInt64.reduceToNat, UInt8.reduceToNat, UInt32.reduceToNat]; rfl) (by first | exact True.intro | (simp only [Obs, and_true, true_and]; omega) | (simp [Obs, AV.sizeL, AV.size, Kd.sz]; done) | (simp [Obs, AV.sizeL, AV.size, Kd.sz]; omega)) ?_)
      refine Tri.ret ?_
      refine Con.fin (.inl rfl) (by simp only [Try.f22, cfgA, tyTab, resA, resA1, go_sem, ↓reduceIte, reduceCtorEq, Nat.reduceLT, Nat.reduceSub, Nat.reduceAdd, Nat.reduceMul, Nat.reduceEqDiff, Nat.reduceBEq, Nat.reduceBNe, Nat.reduceLeDiff, Nat.reduceDiv, Nat.reduceMod, Nat.reducePow, List.reduceReplicate, UInt8.reduceOfNat, UInt32.reduceOfNat, UInt64.reduceOfNat, Int.reduceLE, Int.reduceLT, Int.reduceNeg, Int.reduceToNat, Int.reduceAdd, Int.reduceSub, Int.reduceMul, Int.reduceEq, UInt64.reduceToNat, UInt8.reduceToNat, UInt32.reduceToNat]; rfl) (by simp only [Obs, and_true, true_and]) rfl trivial rfl rfl
theorem counter_sum : FSumOK Try.prog cfgA.G 22 kCounter.sum := Con.sumOK cfgA_ok kCounter Try.func22 rfl rfl (Con.of_inv _ _ _) counter_body
end Go.Proofs.Yticgfjalikmniaa

namespace Go.Proofs.Yticgfjalikmniaa
set_option linter.unusedVariables false
set_option linter.unusedSimpArgs false
-- SEM
open Go.Vc Go.Proofs
set_option linter.unusedSimpArgs false
set_option maxRecDepth 10000
set_option maxHeartbeats 2000000
def cfgC : Cfg2 := { ty := tyTab, fn := fun | 16 => some kTwice.sum | 17 => some kAdd.sum | 18 => some kShift.sum | 19 => some kMix.sum | 22 => some kCounter.sum | 23 => some kTurn.sum | _ => none, G := fun _ => none, pin := [], eq := fun _ => none }
theorem cfgC_ok : CfgOK Try.prog cfgC := ⟨tysOK, (fun f s h => by
  simp only [cfgC] at h
  split at h
  · injection h with h; subst h; exact twice_sum
  · injection h with h; subst h; exact add_sum
  · injection h with h; subst h; exact shift_sum
  · injection h with h; subst h; exact mix_sum
  · injection h with h; subst h; exact counter_sum
  · injection h with h; subst h; exact turn_sum
  · cases h), (fun t d h => by cases h)⟩
def rndI (box : List UInt8) (keys : List (List UInt8)) (s : List UInt8) : Nat → List UInt8
  | 0 => addI keys 0 s 16
  | r + 1 => let t := shI box (rndI box keys s r) 16; addI keys (r + 1) (if r + 1 < 10 then mixI t 4 else t) 16
def kBlock : Con := Con.of [.p cipK, .v a16] (fun _ => []) (fun x => ⟨.pure a16 (rndI x.1.1 x.1.2.1 x.2.1 10), [.pure cipK x.1]⟩)
theorem block_body (p : kBlock.Par) (hp : ∀ q ∈ kBlock.pre p, q) : BodyOK Try.prog cfgC Try.f10 (Try.f10.body.get rfl) kBlock p := by
  obtain ⟨⟨(box : List UInt8), (keys : List (List UInt8)), u1⟩, (s : List UInt8), u⟩ := p
  refine ⟨?_, Nat.le_refl _, rfl, rfl⟩
  show Tri _ _ _ (Code.seq _ (Code.seq _ (Code.seq (Code.seq _ (Code.block _ (Code.loop (Code.seq (Code.seq _ (Code.cond _ _ _)) (Code.seq (Code.block _ (Code.seq _ (Code.seq (Code.seq _ (Code.cond _ _ _)) _))) _))))) (Code.seq _ _)))) _
  refine Tri.seq (Tri.reg (cfgC_ok.pins _) (by simp (maxSteps := 2000000) (disch := first | decide | omega | (simp only [List.length_append, List.length_cons, List.length_nil, List.length_take, List.length_drop]; omega)) only [Try.f10, kBlock, kAdd, kShift, kMix, cfgC, tyTab, go_sem, ↓reduceIte, reduceCtorEq, Nat.reduceLT, Nat.reduceSub, Nat.reduceAdd, Nat.reduceMul, Nat.reduceEqDiff, Nat.reduceBEq, Nat.reduceBNe, Nat.reduceLeDiff, Nat.reduceDiv, Nat.reduceMod, Nat.reducePow, List.reduceReplicate, UInt8.reduceOfNat, UInt32.reduceOfNat, UInt64.reduceOfNat, Int.reduceLE, Int.reduceLT, Int.reduceNeg, Int.reduceToNat, Int.reduceAdd, Int.reduceSub, Int.reduceMul, Int.reduceEq, UInt64.reduceToNat, UInt8.reduceToNat, UInt32.reduceToNat]; rfl) (by first | exact True.intro | (simp only [Obs, and_true, true_and]; omega) | (simp [Obs, AV.sizeL, AV.size, Kd.sz]; done) | (simp [Obs, AV.sizeL, AV.size, Kd.sz]; omega)) ?_)
  refine Tri.seq (Tri.reg (cfgC_ok.pins _) (by simp (maxSteps := 2000000) (disch := first | decide | omega | (simp only [List.length_append, List.length_cons, List.length_nil, List.length_take, List.length_drop]; omega)) only [Try.f10, kBlock, kAdd, kShift, kMix, cfgC, tyTab, go_sem, ↓reduceIte, reduceCtorEq, Nat.reduceLT, Nat.reduceSub, Nat.reduceAdd, Nat.reduceMul, Nat.reduceEqDiff, Nat.reduceBEq, Nat.reduceBNe, Nat.reduceLeDiff, Nat.reduceDiv, Nat.reduceMod, Nat.reducePow, List.reduceReplicate, UInt8.reduceOfNat, UInt32.reduceOfNat, UInt64.reduceOfNat, Int.reduceLE, Int.reduceLT, Int.reduceNeg, Int.reduceToNat, Int.reduceAdd, Int.reduceSub, Int.reduceMul, Int.reduceEq, UInt64.reduceToNat, UInt8.reduceToNat, UInt32.reduceToNat]; rfl) (by first | exact True.intro | (simp only [Obs, and_true, true_and]; omega) | (simp [Obs, AV.sizeL, AV.size, Kd.sz]; done) | (simp [Obs, AV.sizeL, AV.size, Kd.sz]; omega)) ?_)
  refine Tri.seq ?_
  refine Tri.seq (Tri.reg (cfgC_ok.pins _) (by simp (maxSteps := 2000000) (disch := first | decide | omega | (simp only [List.length_append, List.length_cons, List.length_nil, List.length_take, List.length_drop]; omega)) only [Try.f10, kBlock, kAdd, kShift, kMix, cfgC, tyTab, go_sem, ↓reduceIte, reduceCtorEq, Nat.reduceLT, Nat.reduceSub, Nat.reduceAdd, Nat.reduceMul, Nat.reduceEqDiff, Nat.reduceBEq, Nat.reduceBNe, Nat.reduceLeDiff, Nat.reduceDiv, Nat.reduceMod, Nat.reducePow, List.reduceReplicate, UInt8.reduceOfNat, UInt32.reduceOfNat, UInt64.reduceOfNat, Int.reduceLE, Int.reduceLT, Int.reduceNeg, Int.reduceToNat, Int.reduceAdd, Int.reduceSub, Int.reduceMul, Int.reduceEq, UInt64.reduceToNat, UInt8.reduceToNat, UInt32.reduceToNat]; rfl) (by first | exact True.intro | (simp only [Obs, and_true, true_and]; omega) | (simp [Obs, AV.sizeL, AV.size, Kd.sz]; done) | (simp [Obs, AV.sizeL, AV.size, Kd.sz]; omega)) ?_)
  refine Tri.block ?_
  refine Tri.loop (fun r : Nat => (⟨[some (.ptr 0 [] 0), none, none, some (.ptr 1 [] 0), some (.ptr 2 [] 0), some (.int .i64 ((r + 1 : Nat) : Int))] ++ List.replicate 15 none, [.live (.pure cipK (box, keys, u1)), .live (.pure a16 (rndI box keys s r)), .live (.pure a16 (Kd.dflt a16))]⟩ : AS)) (· ≤ 10) (fun k => 10 - k) 0 ?_ (Nat.zero_le _) ?_
  · refine Wk.of ?_ ?_ rfl rfl
    · simp only [lessTs, List.reduceReplicate, List.cons_append, List.nil_append] <;> ((repeat' apply And.intro) <;> first | rfl | trivial)
    · simp only [lessHs, rndI] <;> ((repeat' apply And.intro) <;> first | rfl | trivial)
  · intro r hr
    refine Tri.seq ?_
    refine Tri.seq (Tri.reg (cfgC_ok.pins _) (by simp (maxSteps := 2000000) (disch := first | decide | omega | (simp only [List.length_append, List.length_cons, List.length_nil, List.length_take, List.length_drop]; omega)) only [Try.f10, kBlock, kAdd, kShift, kMix, cfgC, tyTab, go_sem, ↓reduceIte, reduceCtorEq, Nat.reduceLT, Nat.reduceSub, Nat.reduceAdd, Nat.reduceMul, Nat.reduceEqDiff, Nat.reduceBEq, Nat.reduceBNe, Nat.reduceLeDiff, Nat.reduceDiv, Nat.reduceMod, Nat.reducePow, List.reduceReplicate, UInt8.reduceOfNat, UInt32.reduceOfNat, UInt64.reduceOfNat, Int.reduceLE, Int.reduceLT, Int.reduceNeg, Int.reduceToNat, Int.reduceAdd, Int.reduceSub, Int.reduceMul, Int.reduceEq, UInt64.reduceToNat, UInt8.reduceToNat, UInt32.reduceToNat]; rfl) (by first | exact True.intro | (simp only [Obs, and_true, true_and]; omega) | (simp [Obs, AV.sizeL, AV.size, Kd.sz]; done) | (simp [Obs, AV.sizeL, AV.size, Kd.sz]; omega)) ?_)
    refine Tri.split (by simp only [AS.ev, go_sem, ↓reduceIte, reduceCtorEq, Nat.reduceLT, Nat.reduceSub, Nat.reduceAdd, Nat.reduceMul, Nat.reduceEqDiff, Nat.reduceBEq, Nat.reduceBNe, Nat.reduceLeDiff, Nat.reduceDiv, Nat.reduceMod, Nat.reducePow, List.reduceReplicate, UInt8.reduceOfNat, UInt32.reduceOfNat, UInt64.reduceOfNat, Int.reduceLE, Int.reduceLT, Int.reduceNeg, Int.reduceToNat, Int.reduceAdd, Int.reduceSub, Int.reduceMul, Int.reduceEq, UInt64.reduceToNat, UInt8.reduceToNat, UInt32.reduceToNat]; rfl) (fun hc => ?_) (fun hc => ?_)
    · have hc' : r < 10 := by
        have : ¬ (10 < ((r + 1 : Nat) : Int)) := by simpa using hc
        omega
      refine Tri.skp ?_
      refine Tri.seq (Tri.block ?_)
      refine Tri.seq (Tri.reg (cfgC_ok.pins _) (by simp (maxSteps := 2000000) (disch := first | decide | omega | (simp only [List.length_append, List.length_cons, List.length_nil, List.length_take, List.length_drop]; omega)) only [Try.f10, kBlock, kAdd, kShift, kMix, cfgC, tyTab, go_sem, ↓reduceIte, reduceCtorEq, Nat.reduceLT, Nat.reduceSub, Nat.reduceAdd, Nat.reduceMul, Nat.reduceEqDiff, Nat.reduceBEq, Nat.reduceBNe, Nat.reduceLeDiff, Nat.reduceDiv, Nat.reduceMod, Nat.reducePow, List.reduceReplicate, UInt8.reduceOfNat, UInt32.reduceOfNat, UInt64.reduceOfNat, Int.reduceLE, Int.reduceLT, Int.reduceNeg, Int.reduceToNat, Int.reduceAdd, Int.reduceSub, Int.reduceMul, Int.reduceEq, UInt64.reduceToNat, UInt8.reduceToNat, UInt32.reduceToNat]; rfl) (by first | exact True.intro | (simp only [Obs, and_true, true_and]; omega) | (simp [Obs, AV.sizeL, AV.size, Kd.sz]; done) | (simp [Obs, AV.sizeL, AV.size, Kd.sz]; omega)) ?_)
      refine Tri.seq ?_
      refine Tri.seq (Tri.reg (cfgC_ok.pins _) (by simp (maxSteps := 2000000) (disch := first | decide | omega | (simp only [List.length_append, List.length_cons, List.length_nil, List.length_take, List.length_drop]; omega)) only [Try.f10, kBlock, kAdd, kShift, kMix, cfgC, tyTab, go_sem, ↓reduceIte, reduceCtorEq, Nat.reduceLT, Nat.reduceSub, Nat.reduceAdd, Nat.reduceMul, Nat.reduceEqDiff, Nat.reduceBEq, Nat.reduceBNe, Nat.reduceLeDiff, Nat.reduceDiv, Nat.reduceMod, Nat.reducePow, List.reduceReplicate, UInt8.reduceOfNat, UInt32.reduceOfNat, UInt64.reduceOfNat, Int.reduceLE, Int.reduceLT, Int.reduceNeg, Int.reduceToNat, Int.reduceAdd, Int.reduceSub, Int.reduceMul, Int.reduceEq, UInt64.reduceToNat, UInt8.reduceToNat, UInt32.reduceToNat]; rfl) (by first | exact True.intro | (simp only [Obs, and_true, true_and]; omega) | (simp [Obs, AV.sizeL, AV.size, Kd.sz]; done) | (simp [Obs, AV.sizeL, AV.size, Kd.sz]; omega)) ?_)
      refine Tri.split (by simp only [AS.ev, go_sem, ↓reduceIte, reduceCtorEq, Nat.reduceLT, Nat.reduceSub, Nat.reduceAdd, Nat.reduceMul, Nat.reduceEqDiff, Nat.reduceBEq, Nat.reduceBNe, Nat.reduceLeDiff, Nat.reduceDiv, Nat.reduceMod, Nat.reducePow, List.reduceReplicate, UInt8.reduceOfNat, UInt32.reduceOfNat, UInt64.reduceOfNat, Int.reduceLE, Int.reduceLT, Int.reduceNeg, Int.reduceToNat, Int.reduceAdd, Int.reduceSub, Int.reduceMul, Int.reduceEq, UInt64.reduceToNat, UInt8.reduceToNat, UInt32.reduceToNat]; rfl) (fun hd => ?_) (fun hd => ?_)
      · have hd' : r + 1 < 10 := by
          have : (((r + 1 : Nat) : Int) < 10) := by simpa using hd
          omega
        refine (Tri.rgn (cfgC_ok.pins _) (by simp (maxSteps := 2000000) (disch := first | decide | omega | (simp only [List.length_append, List.length_cons, List.length_nil, List.length_take, List.length_drop]; omega)) only [Try.f10, kBlock, kAdd, kShift, kMix, cfgC, tyTab, go_sem, ↓reduceIte, reduceCtorEq, Nat.reduceLT, Nat.reduceSub, Nat.reduceAdd, Nat.reduceMul, Nat.reduceEqDiff, Nat.reduceBEq, Nat.reduceBNe, Nat.reduceLeDiff, Nat.reduceDiv, Nat.reduceMod, Nat.reducePow, List.reduceReplicate, UInt8.reduceOfNat, UInt32.reduceOfNat, UInt64.reduceOfNat, Int.reduceLE, Int.reduceLT, Int.reduceNeg, Int.reduceToNat, Int.reduceAdd, Int.reduceSub, Int.reduceMul, Int.reduceEq, UInt64.reduceToNat, UInt8.reduceToNat, UInt32.reduceToNat]; rfl) (by first | exact True.intro | (simp only [Obs, and_true, true_and]; omega) | (simp [Obs, AV.sizeL, AV.size, Kd.sz]; done) | (simp [Obs, AV.sizeL, AV.size, Kd.sz]; omega)) ?_)
        try simp only [InBlock, Then]
        refine (Tri.rgn (cfgC_ok.pins _) (by simp (maxSteps := 2000000) (disch := first | decide | omega | (simp only [List.length_append, List.length_cons, List.length_nil, List.length_take, List.length_drop]; omega)) only [Try.f10, kBlock, kAdd, kShift, kMix, cfgC, tyTab, go_sem, ↓reduceIte, reduceCtorEq, Nat.reduceLT, Nat.reduceSub, Nat.reduceAdd, Nat.reduceMul, Nat.reduceEqDiff, Nat.reduceBEq, Nat.reduceBNe, Nat.reduceLeDiff, Nat.reduceDiv, Nat.reduceMod, Nat.reducePow, List.reduceReplicate, UInt8.reduceOfNat, UInt32.reduceOfNat, UInt64.reduceOfNat, Int.reduceLE, Int.reduceLT, Int.reduceNeg, Int.reduceToNat, Int.reduceAdd, Int.reduceSub, Int.reduceMul, Int.reduceEq, UInt64.reduceToNat, UInt8.reduceToNat, UInt32.reduceToNat]; rfl) (by first | exact True.intro | (simp only [Obs, and_true, true_and]; omega) | (simp [Obs, AV.sizeL, AV.size, Kd.sz]; done) | (simp [Obs, AV.sizeL, AV.size, Kd.sz]; omega)) ?_)
        try simp only [InBlock, Then]
        refine (Tri.rgn (cfgC_ok.pins _) (by simp (maxSteps := 2000000) (disch := first | decide | omega | (simp only [List.length_append, List.length_cons, List.length_nil, List.length_take, List.length_drop]; omega)) only [Try.f10, kBlock, kAdd, kShift, kMix, cfgC, tyTab, go_sem, ↓reduceIte, reduceCtorEq, Nat.reduceLT, Nat.reduceSub, Nat.reduceAdd, Nat.reduceMul, Nat.reduceEqDiff, Nat.reduceBEq, Nat.reduceBNe, Nat.reduceLeDiff, Nat.reduceDiv, Nat.reduceMod, Nat.reducePow, List.reduceReplicate, UInt8.reduceOfNat, UInt32.reduceOfNat, UInt64.reduceOfNat, Int.reduceLE, Int.reduceLT, Int.reduceNeg, Int.reduceToNat, Int.reduceAdd, Int.reduceSub, Int.reduceMul, Int.reduceEq, UInt64.reduceToNat, UInt8.reduceToNat, UInt32.reduceToNat]; rfl) (by first | exact True.intro | (simp only [Obs, and_true, true_and]; omega) | (simp [Obs, AV.sizeL, AV.size, Kd.sz]; done) | (simp [Obs, AV.sizeL, AV.size, Kd.sz]; omega)) ?_)
        try simp only [InBlock, Then]
        refine ⟨r + 1, (by omega), (by omega), Wk.of ?_ ?_ rfl rfl⟩
        · simp only [lessTs, List.reduceReplicate, List.cons_append, List.nil_append] <;> ((repeat' apply And.intro) <;> first | rfl | trivial)
        · simp only [lessHs, rndI, if_pos hd'] <;> ((repeat' apply And.intro) <;> first | rfl | trivial)
      · have hd' : ¬ (r + 1 < 10) := by
          have : ¬ (((r + 1 : Nat) : Int) < 10) := by simpa using hd
          omega
        refine Tri.skp ?_
        refine (Tri.rgn (cfgC_ok.pins _) (by simp (maxSteps := 2000000) (disch := first | decide | omega | (simp only [List.length_append, List.length_cons, List.length_nil, List.length_take, List.length_drop]; omega)) only [Try.f10, kBlock, kAdd, kShift, kMix, cfgC, tyTab, go_sem, ↓reduceIte, reduceCtorEq, Nat.reduceLT, Nat.reduceSub, Nat.reduceAdd, Nat.reduceMul, Nat.reduceEqDiff, Nat.reduceBEq, Nat.reduceBNe, Nat.reduceLeDiff, Nat.reduceDiv, Nat.reduceMod, Nat.reducePow, List.reduceReplicate, UInt8.reduceOfNat, UInt32.reduceOfNat, UInt64.reduceOfNat, Int.reduceLE, Int.reduceLT, Int.reduceNeg, Int.reduceToNat, Int.reduceAdd, Int.reduceSub, Int.reduceMul, Int.reduceEq, UInt64.reduceToNat, UInt8.reduceToNat, UInt32.reduceToNat]; rfl) (by first | exact True.intro | (simp only [Obs, and_true, true_and]; omega) | (simp [Obs, AV.sizeL, AV.size, Kd.sz]; done) | (simp [Obs, AV.sizeL, AV.size, Kd.sz]; omega)) ?_)
        try simp only [InBlock, Then]
        refine (Tri.rgn (cfgC_ok.pins _) (by simp (maxSteps := 2000000) (disch := first | decide | omega | (simp only [List.length_append, List.length_cons, List.length_nil, List.length_take, List.length_drop]; omega)) only [Try.f10, kBlock, kAdd, kShift, kMix, cfgC, tyTab, go_sem, ↓reduceIte, reduceCtorEq, Nat.reduceLT, Nat.reduceSub, Nat.reduceAdd, Nat.reduceMul, Nat.reduceEqDiff, Nat.reduceBEq, Nat.reduceBNe, Nat.reduceLeDiff, Nat.reduceDiv, Nat.reduceMod, Nat.reducePow, List.reduceReplicate, UInt8.reduceOfNat, UInt32.reduceOfNat, UInt64.reduceOfNat, Int.reduceLE, Int.reduceLT, Int.reduceNeg, Int.reduceToNat, Int.reduceAdd, Int.reduceSub, Int.reduceMul, Int.reduceEq, UInt64.reduceToNat, UInt8.reduceToNat, UInt32.reduceToNat]; rfl) (by first | exact True.intro | (simp only [Obs, and_true, true_and]; omega) | (simp [Obs, AV.sizeL, AV.size, Kd.sz]; done) | (simp [Obs, AV.sizeL, AV.size, Kd.sz]; omega)) ?_)
        try simp only [InBlock, Then]
        refine ⟨r + 1, (by omega), (by omega), Wk.of ?_ ?_ rfl rfl⟩
        · simp only [lessTs, List.reduceReplicate, List.cons_append, List.nil_append] <;> ((repeat' apply And.intro) <;> first | rfl | trivial)
        · simp only [lessHs, rndI, if_neg hd'] <;> ((repeat' apply And.intro) <;> first | rfl | trivial)
    · refine Tri.exit ?_
      have hc' : r = 10 := by
        have : (10 < ((r + 1 : Nat) : Int)) := by simpa using hc
        omega
      subst hc'
      simp only [Then, InBlock, if_true]
      refine Tri.seq (Tri.reg (cfgC_ok.pins _) (by simp (maxSteps := 2000000) (disch := first | decide | omega | (simp only [List.length_append, List.length_cons, List.length_nil, List.length_take, List.length_drop]; omega)) only [Try.f10, kBlock, kAdd, kShift, kMix, cfgC, tyTab, go_sem, ↓reduceIte, reduceCtorEq, Nat.reduceLT, Nat.reduceSub, Nat.reduceAdd, Nat.reduceMul, Nat.reduceEqDiff, Nat.reduceBEq, Nat.reduceBNe, Nat.reduceLeDiff, Nat.reduceDiv, Nat.reduceMod, Nat.reducePow, List.reduceReplicate, UInt8.reduceOfNat, UInt32.reduceOfNat, UInt64.reduceOfNat, Int.reduceLE, Int.reduceLT, Int.reduceNeg, Int.reduceToNat, Int.reduceAdd, Int.reduceSub, Int.reduceMul, Int.reduceEq, UInt64.reduceToNat, UInt8.reduceToNat, UInt32.reduceToNat]; rfl) (by first | exact True.intro | (simp only [Obs, and_true, true_and]; omega) | (simp [Obs, AV.sizeL, AV.size, Kd.sz]; done) | (simp [Obs, AV.sizeL, AV.size, Kd.sz]; omega)) ?_)
      refine Tri.ret ?_
      refine Con.fin (.inl rfl) (by simp only [Try.f10, cfgC, tyTab, resA, resA1, go_sem, ↓reduceIte, reduceCtorEq, Nat.reduceLT, Nat.reduceSub, Nat.reduceAdd, Nat.reduceMul, Nat.reduceEqDiff, Nat.reduceBEq, Nat.reduceBNe, Nat.reduceLeDiff, Nat.reduceDiv, Nat.reduceMod, Nat.reducePow, List.reduceReplicate, UInt8.reduceOfNat, UInt32.reduceOfNat, UInt64.reduceOfNat, Int.reduceLE, Int.reduceLT, Int.reduceNeg, Int.reduceToNat, Int.reduceAdd, Int.reduceSub, Int.reduceMul, Int.reduceEq, UInt64.reduceToNat, UInt8.reduceToNat, UInt32.reduceToNat]; rfl) (by simp only [Obs, and_true, true_and]) rfl ?_ rfl rfl
      simp only [lessHs, kBlock, Con.of, List.map] <;> ((repeat' apply And.intro) <;> first | rfl | trivial)
theorem block_sum : FSumOK Try.prog cfgC.G 10 kBlock.sum := Con.sumOK cfgC_ok kBlock Try.func10 rfl rfl (Con.of_inv _ _ _) block_body
end Go.Proofs.Yticgfjalikmniaa

namespace Go.Proofs.Yticgfjalikmniaa
set_option linter.unusedVariables false
set_option linter.unusedSimpArgs false
-- SEM
open Go.Vc Go.Proofs
set_option linter.unusedSimpArgs false
set_option maxRecDepth 10000
set_option maxHeartbeats 4000000
def cfgD : Cfg2 := { ty := tyTab, fn := fun | 10 => some kBlock.sum | 15 => some kBoxes.sum | 16 => some kTwice.sum | 22 => some kCounter.sum | _ => none, G := fun _ => none, pin := [], eq := fun _ => none }
theorem cfgD_ok : CfgOK Try.prog cfgD := ⟨tysOK, (fun f s h => by
  simp only [cfgD] at h
  split at h
  · injection h with h; subst h; exact block_sum
  · injection h with h; subst h; exact boxes_sum
  · injection h with h; subst h; exact twice_sum
  · injection h with h; subst h; exact counter_sum
  · cases h), (fun t d h => by cases h)⟩
abbrev d4 : List UInt8 := [0, 0, 0, 0]
/-- A word and the word of four before it. -/
def kxI (ks : List (List UInt8)) (i : Nat) : Nat → List (List UInt8)
  | 0 => ks
  | j + 1 => (kxI ks i j).set i (((kxI ks i j).getD i d4).set j (((kxI ks i j).getD i d4).getD j 0 ^^^ ((kxI ks i j).getD (i - 4) d4).getD j 0))
/-- The key's word that is put over a word. -/
def cpK (old key : List UInt8) (i : Nat) : List UInt8 :=
  let src := List.take (16 - 4 * i) (List.drop (4 * i) key)
  List.take 0 old ++ List.take (min src.length 4) src ++ List.drop (List.take (min src.length 4) src).length old
def keyStep (box key : List UInt8) (i : Nat) (s : UInt8 × List (List UInt8)) : UInt8 × List (List UInt8) :=
  if i < 4 then (s.1, s.2.set i (cpK (s.2.getD i d4) key i)) else
    let k1 := s.2.set i (s.2.getD (i - 1) d4)
    let w := k1.getD i d4
    if i % 4 = 0 then (twice s.1, kxI (k1.set i [box.getD (w.getD 1 0).toNat 0 ^^^ s.1, box.getD (w.getD 2 0).toNat 0, box.getD (w.getD 3 0).toNat 0, box.getD (w.getD 0 0).toNat 0]) i 4)
    else (s.1, kxI k1 i 4)
def keyI (box key : List UInt8) : Nat → UInt8 × List (List UInt8)
  | 0 => (1, Kd.dflt a44)
  | i + 1 => keyStep box key i (keyI box key i)
def box0 : List UInt8 := (boxI (Kd.dflt a256) 255).2.2
def newC (key : List UInt8) : cipK.T := (box0, (keyI box0 key 44).2, ())
def kNew : Con := Con.of [.v a16] (fun _ => []) (fun x => ⟨.ptr 1 [] 0, [.pure a16 x.1, .pure cipK (newC x.1)]⟩)
theorem new_body (p : kNew.Par) (hp : ∀ q ∈ kNew.pre p, q) : BodyOK Try.prog cfgD Try.f9 (Try.f9.body.get rfl) kNew p := by
  obtain ⟨(key : List UInt8), u⟩ := p
  refine ⟨?_, Nat.zero_le _, rfl, rfl⟩
  show Tri _ _ _ (Code.seq _ (Code.seq _ (Code.seq _ (Code.seq _ (Code.seq (Code.seq _ (Code.block _ (Code.loop (Code.seq _ (Code.seq (Code.cond _ _ _) (Code.seq (Code.block _ (Code.seq _ (Code.seq _ (Code.seq (Code.seq _ (Code.cond _ (Code.seq _ _) _)) (Code.seq _ (Code.seq (Code.seq _ (Code.cond _ (Code.seq _ _) _)) (Code.seq _ (Code.block _ (Code.loop _))))))))) _)))))) (Code.seq _ _)))))) _
  refine Tri.seq (Tri.reg (cfgD_ok.pins _) (by simp (maxSteps := 2000000) (disch := first | decide | omega | (simp only [List.length_append, List.length_cons, List.length_nil, List.length_take, List.length_drop]; omega)) only [Try.f9, kNew, kBoxes, kTwice, cfgD, tyTab, go_sem, ↓reduceIte, reduceCtorEq, Nat.reduceLT, Nat.reduceSub, Nat.reduceAdd, Nat.reduceMul, Nat.reduceEqDiff, Nat.reduceBEq, Nat.reduceBNe, Nat.reduceLeDiff, Nat.reduceDiv, Nat.reduceMod, Nat.reducePow, List.reduceReplicate, UInt8.reduceOfNat, UInt32.reduceOfNat, UInt64.reduceOfNat, Int.reduceLE, Int.reduceLT, Int.reduceNeg, Int.reduceToNat, Int.reduceAdd, Int.reduceSub, Int.reduceMul, Int.reduceEq, UInt64.reduceToNat, UInt8.reduceToNat, UInt32.reduceToNat]; rfl) (by first | exact True.intro | (simp only [Obs, and_true, true_and]; omega) | (simp [Obs, AV.sizeL, AV.size, Kd.sz]; done) | (simp [Obs, AV.sizeL, AV.size, Kd.sz]; omega)) ?_)
  refine Tri.seq (Tri.reg (cfgD_ok.pins _) (by simp (maxSteps := 2000000) (disch := first | decide | omega | (simp only [List.length_append, List.length_cons, List.length_nil, List.length_take, List.length_drop]; omega)) only [Try.f9, kNew, kBoxes, kTwice, cfgD, tyTab, go_sem, ↓reduceIte, reduceCtorEq, Nat.reduceLT, Nat.reduceSub, Nat.reduceAdd, Nat.reduceMul, Nat.reduceEqDiff, Nat.reduceBEq, Nat.reduceBNe, Nat.reduceLeDiff, Nat.reduceDiv, Nat.reduceMod, Nat.reducePow, List.reduceReplicate, UInt8.reduceOfNat, UInt32.reduceOfNat, UInt64.reduceOfNat, Int.reduceLE, Int.reduceLT, Int.reduceNeg, Int.reduceToNat, Int.reduceAdd, Int.reduceSub, Int.reduceMul, Int.reduceEq, UInt64.reduceToNat, UInt8.reduceToNat, UInt32.reduceToNat]; rfl) (by first | exact True.intro | (simp only [Obs, and_true, true_and]; omega) | (simp [Obs, AV.sizeL, AV.size, Kd.sz]; done) | (simp [Obs, AV.sizeL, AV.size, Kd.sz]; omega)) ?_)
  refine Tri.seq (Tri.reg (cfgD_ok.pins _) (by simp (maxSteps := 2000000) (disch := first | decide | omega | (simp only [List.length_append, List.length_cons, List.length_nil, List.length_take, List.length_drop]; omega)) only [Try.f9, kNew, kBoxes, kTwice, cfgD, tyTab, go_sem, ↓reduceIte, reduceCtorEq, Nat.reduceLT, Nat.reduceSub, Nat.reduceAdd, Nat.reduceMul, Nat.reduceEqDiff, Nat.reduceBEq, Nat.reduceBNe, Nat.reduceLeDiff, Nat.reduceDiv, Nat.reduceMod, Nat.reducePow, List.reduceReplicate, UInt8.reduceOfNat, UInt32.reduceOfNat, UInt64.reduceOfNat, Int.reduceLE, Int.reduceLT, Int.reduceNeg, Int.reduceToNat, Int.reduceAdd, Int.reduceSub, Int.reduceMul, Int.reduceEq, UInt64.reduceToNat, UInt8.reduceToNat, UInt32.reduceToNat]; rfl) (by first | exact True.intro | (simp only [Obs, and_true, true_and]; omega) | (simp [Obs, AV.sizeL, AV.size, Kd.sz]; done) | (simp [Obs, AV.sizeL, AV.size, Kd.sz]; omega)) ?_)
  refine Tri.seq (Tri.reg (cfgD_ok.pins _) (by simp (maxSteps := 2000000) (disch := first | decide | omega | (simp only [List.length_append, List.length_cons, List.length_nil, List.length_take, List.length_drop]; omega)) only [Try.f9, kNew, kBoxes, kTwice, cfgD, tyTab, go_sem, ↓reduceIte, reduceCtorEq, Nat.reduceLT, Nat.reduceSub, Nat.reduceAdd, Nat.reduceMul, Nat.reduceEqDiff, Nat.reduceBEq, Nat.reduceBNe, Nat.reduceLeDiff, Nat.reduceDiv, Nat.reduceMod, Nat.reducePow, List.reduceReplicate, UInt8.reduceOfNat, UInt32.reduceOfNat, UInt64.reduceOfNat, Int.reduceLE, Int.reduceLT, Int.reduceNeg, Int.reduceToNat, Int.reduceAdd, Int.reduceSub, Int.reduceMul, Int.reduceEq, UInt64.reduceToNat, UInt8.reduceToNat, UInt32.reduceToNat]; rfl) (by first | exact True.intro | (simp only [Obs, and_true, true_and]; omega) | (simp [Obs, AV.sizeL, AV.size, Kd.sz]; done) | (simp [Obs, AV.sizeL, AV.size, Kd.sz]; omega)) ?_)
  refine Tri.seq ?_
  refine Tri.seq (Tri.reg (cfgD_ok.pins _) (by simp (maxSteps := 2000000) (disch := first | decide | omega | (simp only [List.length_append, List.length_cons, List.length_nil, List.length_take, List.length_drop]; omega)) only [Try.f9, kNew, kBoxes, kTwice, cfgD, tyTab, go_sem, ↓reduceIte, reduceCtorEq, Nat.reduceLT, Nat.reduceSub, Nat.reduceAdd, Nat.reduceMul, Nat.reduceEqDiff, Nat.reduceBEq, Nat.reduceBNe, Nat.reduceLeDiff, Nat.reduceDiv, Nat.reduceMod, Nat.reducePow, List.reduceReplicate, UInt8.reduceOfNat, UInt32.reduceOfNat, UInt64.reduceOfNat, Int.reduceLE, Int.reduceLT, Int.reduceNeg, Int.reduceToNat, Int.reduceAdd, Int.reduceSub, Int.reduceMul, Int.reduceEq, UInt64.reduceToNat, UInt8.reduceToNat, UInt32.reduceToNat]; rfl) (by first | exact True.intro | (simp only [Obs, and_true, true_and]; omega) | (simp [Obs, AV.sizeL, AV.size, Kd.sz]; done) | (simp [Obs, AV.sizeL, AV.size, Kd.sz]; omega)) ?_)
  refine Tri.block ?_
  refine Tri.loop (fun i : Nat => (⟨[none, some (.ptr 0 [] 0), none, some (.ptr 1 [] 0), some (.int .u8 (keyI box0 key i).1), none, none, none, none, none, none, none, some (.int .i64 (i : Int))] ++ List.replicate 94 none, [.live (.pure a16 key), .live (.pure cipK (box0, (keyI box0 key i).2, ()))]⟩ : AS)) (· ≤ 44) (fun k => 44 - k) 0 ?_ (Nat.zero_le _) ?_
  · refine Wk.of ?_ ?_ rfl rfl
    · simp only [lessTs, List.reduceReplicate, List.cons_append, List.nil_append] <;> ((repeat' apply And.intro) <;> first | rfl | trivial)
    · simp only [lessHs, keyI] <;> ((repeat' apply And.intro) <;> first | rfl | trivial)
  · intro i hi
    refine Tri.seq (Tri.reg (cfgD_ok.pins _) (by simp (maxSteps := 2000000) (disch := first | decide | omega | (simp only [List.length_append, List.length_cons, List.length_nil, List.length_take, List.length_drop]; omega)) only [Try.f9, kNew, kBoxes, kTwice, cfgD, tyTab, go_sem, ↓reduceIte, reduceCtorEq, Nat.reduceLT, Nat.reduceSub, Nat.reduceAdd, Nat.reduceMul, Nat.reduceEqDiff, Nat.reduceBEq, Nat.reduceBNe, Nat.reduceLeDiff, Nat.reduceDiv, Nat.reduceMod, Nat.reducePow, List.reduceReplicate, UInt8.reduceOfNat, UInt32.reduceOfNat, UInt64.reduceOfNat, Int.reduceLE, Int.reduceLT, Int.reduceNeg, Int.reduceToNat, Int.reduceAdd, Int.reduceSub, Int.reduceMul, Int.reduceEq, UInt64.reduceToNat, UInt8.reduceToNat, UInt32.reduceToNat]; rfl) (by first | exact True.intro | (simp only [Obs, and_true, true_and]; omega) | (simp [Obs, AV.sizeL, AV.size, Kd.sz]; done) | (simp [Obs, AV.sizeL, AV.size, Kd.sz]; omega)) ?_)
    refine Tri.seq ?_
    refine Tri.split (by simp only [AS.ev, go_sem, ↓reduceIte, reduceCtorEq, Nat.reduceLT, Nat.reduceSub, Nat.reduceAdd, Nat.reduceMul, Nat.reduceEqDiff, Nat.reduceBEq, Nat.reduceBNe, Nat.reduceLeDiff, Nat.reduceDiv, Nat.reduceMod, Nat.reducePow, List.reduceReplicate, UInt8.reduceOfNat, UInt32.reduceOfNat, UInt64.reduceOfNat, Int.reduceLE, Int.reduceLT, Int.reduceNeg, Int.reduceToNat, Int.reduceAdd, Int.reduceSub, Int.reduceMul, Int.reduceEq, UInt64.reduceToNat, UInt8.reduceToNat, UInt32.reduceToNat]; rfl) (fun hc => ?_) (fun hc => ?_)
    · have hc' : i < 44 := by
        have : (i : Int) < 44 := by simpa using hc
        omega
      refine Tri.skp ?_
      refine Tri.seq (Tri.block ?_)
      refine Tri.seq (Tri.reg (cfgD_ok.pins _) (by simp (maxSteps := 2000000) (disch := first | decide | omega | (simp only [List.length_append, List.length_cons, List.length_nil, List.length_take, List.length_drop]; omega)) only [Try.f9, kNew, kBoxes, kTwice, cfgD, tyTab, go_sem, ↓reduceIte, reduceCtorEq, Nat.reduceLT, Nat.reduceSub, Nat.reduceAdd, Nat.reduceMul, Nat.reduceEqDiff, Nat.reduceBEq, Nat.reduceBNe, Nat.reduceLeDiff, Nat.reduceDiv, Nat.reduceMod, Nat.reducePow, List.reduceReplicate, UInt8.reduceOfNat, UInt32.reduceOfNat, UInt64.reduceOfNat, Int.reduceLE, Int.reduceLT, Int.reduceNeg, Int.reduceToNat, Int.reduceAdd, Int.reduceSub, Int.reduceMul, Int.reduceEq, UInt64.reduceToNat, UInt8.reduceToNat, UInt32.reduceToNat]; rfl) (by first | exact True.intro | (simp only [Obs, and_true, true_and]; omega) | (simp [Obs, AV.sizeL, AV.size, Kd.sz]; done) | (simp [Obs, AV.sizeL, AV.size, Kd.sz]; omega)) ?_)
      refine Tri.seq (Tri.reg (cfgD_ok.pins _) (by simp (maxSteps := 2000000) (disch := first | decide | omega | (simp only [List.length_append, List.length_cons, List.length_nil, List.length_take, List.length_drop]; omega)) only [Try.f9, kNew, kBoxes, kTwice, cfgD, tyTab, go_sem, ↓reduceIte, reduceCtorEq, Nat.reduceLT, Nat.reduceSub, Nat.reduceAdd, Nat.reduceMul, Nat.reduceEqDiff, Nat.reduceBEq, Nat.reduceBNe, Nat.reduceLeDiff, Nat.reduceDiv, Nat.reduceMod, Nat.reducePow, List.reduceReplicate, UInt8.reduceOfNat, UInt32.reduceOfNat, UInt64.reduceOfNat, Int.reduceLE, Int.reduceLT, Int.reduceNeg, Int.reduceToNat, Int.reduceAdd, Int.reduceSub, Int.reduceMul, Int.reduceEq, UInt64.reduceToNat, UInt8.reduceToNat, UInt32.reduceToNat]; rfl) (by first | exact True.intro | (simp only [Obs, and_true, true_and]; omega) | (simp [Obs, AV.sizeL, AV.size, Kd.sz]; done) | (simp [Obs, AV.sizeL, AV.size, Kd.sz]; omega)) ?_)
      refine Tri.seq (Tri.seq ?_)
      refine (Tri.rgn (cfgD_ok.pins _) (by simp (maxSteps := 2000000) (disch := first | decide | omega | (simp only [List.length_append, List.length_cons, List.length_nil, List.length_take, List.length_drop]; omega)) only [Try.f9, kNew, kBoxes, kTwice, cfgD, tyTab, go_sem, ↓reduceIte, reduceCtorEq, Nat.reduceLT, Nat.reduceSub, Nat.reduceAdd, Nat.reduceMul, Nat.reduceEqDiff, Nat.reduceBEq, Nat.reduceBNe, Nat.reduceLeDiff, Nat.reduceDiv, Nat.reduceMod, Nat.reducePow, List.reduceReplicate, UInt8.reduceOfNat, UInt32.reduceOfNat, UInt64.reduceOfNat, Int.reduceLE, Int.reduceLT, Int.reduceNeg, Int.reduceToNat, Int.reduceAdd, Int.reduceSub, Int.reduceMul, Int.reduceEq, UInt64.reduceToNat, UInt8.reduceToNat, UInt32.reduceToNat]; rfl) (by first | exact True.intro | (simp only [Obs, and_true, true_and]; omega) | (simp [Obs, AV.sizeL, AV.size, Kd.sz]; done) | (simp [Obs, AV.sizeL, AV.size, Kd.sz]; omega)) ?_)
      try simp only [InBlock, Then]
      refine Tri.split (by simp only [AS.ev, go_sem, ↓reduceIte, reduceCtorEq, Nat.reduceLT, Nat.reduceSub, Nat.reduceAdd, Nat.reduceMul, Nat.reduceEqDiff, Nat.reduceBEq, Nat.reduceBNe, Nat.reduceLeDiff, Nat.reduceDiv, Nat.reduceMod, Nat.reducePow, List.reduceReplicate, UInt8.reduceOfNat, UInt32.reduceOfNat, UInt64.reduceOfNat, Int.reduceLE, Int.reduceLT, Int.reduceNeg, Int.reduceToNat, Int.reduceAdd, Int.reduceSub, Int.reduceMul, Int.reduceEq, UInt64.reduceToNat, UInt8.reduceToNat, UInt32.reduceToNat]; rfl) (fun hd => ?_) (fun hd => ?_)
      · have hd' : i < 4 := by
          have : (i : Int) < 4 := by simpa using hd
          omega
        refine Tri.seq (Tri.drw (mixed) (cfgD_ok.pins _) (by simp (maxSteps := 2000000) (disch := first | decide | omega | (simp only [List.length_append, List.length_cons, List.length_nil, List.length_take, List.length_drop]; omega)) only [Try.f9, kNew, kBoxes, kTwice, cfgD, tyTab, go_sem, ↓reduceIte, reduceCtorEq, Nat.reduceLT, Nat.reduceSub, Nat.reduceAdd, Nat.reduceMul, Nat.reduceEqDiff, Nat.reduceBEq, Nat.reduceBNe, Nat.reduceLeDiff, Nat.reduceDiv, Nat.reduceMod, Nat.reducePow, List.reduceReplicate, UInt8.reduceOfNat, UInt32.reduceOfNat, UInt64.reduceOfNat, Int.reduceLE, Int.reduceLT, Int.reduceNeg, Int.reduceToNat, Int.reduceAdd, Int.reduceSub, Int.reduceMul, Int.reduceEq, UInt64.reduceToNat, UInt8.reduceToNat, UInt32.reduceToNat]; rfl) (by first | exact True.intro | (simp only [Obs, and_true, true_and]; omega) | (simp [Obs, AV.sizeL, AV.size, Kd.sz]; done) | (simp [Obs, AV.sizeL, AV.size, Kd.sz]; omega)) (by kernel_rfl) ?_)
        refine Tri.exit ?_
        simp only [Then, InBlock, if_true]
        refine (Tri.rgn (cfgD_ok.pins _) (by simp (maxSteps := 2000000) (disch := first | decide | omega | (simp only [List.length_append, List.length_cons, List.length_nil, List.length_take, List.length_drop]; omega)) only [Try.f9, kNew, kBoxes, kTwice, cfgD, tyTab, go_sem, ↓reduceIte, reduceCtorEq, Nat.reduceLT, Nat.reduceSub, Nat.reduceAdd, Nat.reduceMul, Nat.reduceEqDiff, Nat.reduceBEq, Nat.reduceBNe, Nat.reduceLeDiff, Nat.reduceDiv, Nat.reduceMod, Nat.reducePow, List.reduceReplicate, UInt8.reduceOfNat, UInt32.reduceOfNat, UInt64.reduceOfNat, Int.reduceLE, Int.reduceLT, Int.reduceNeg, Int.reduceToNat, Int.reduceAdd, Int.reduceSub, Int.reduceMul, Int.reduceEq, UInt64.reduceToNat, UInt8.reduceToNat, UInt32.reduceToNat]; rfl) (by first | exact True.intro | (simp only [Obs, and_true, true_and]; omega) | (simp [Obs, AV.sizeL, AV.size, Kd.sz]; done) | (simp [Obs, AV.sizeL, AV.size, Kd.sz]; omega)) ?_)
        try simp only [InBlock, Then]
        refine ⟨i + 1, (by omega), (by omega), Wk.of ?_ ?_ rfl rfl⟩
        · simp only [lessTs, List.reduceReplicate, List.cons_append, List.nil_append, keyI, keyStep, if_pos hd'] <;> ((repeat' apply And.intro) <;> first | rfl | trivial)
        · simp only [lessHs, keyI, keyStep, if_pos hd'] <;> ((repeat' apply And.intro) <;> first | rfl | trivial)
      · have hd' : ¬ i < 4 := by
          have : ¬ (i : Int) < 4 := by simpa using hd
          omega
        obtain ⟨m1, hm1⟩ : ∃ m : Nat, (i : Int) - 1 = (m : Int) := ⟨i - 1, by omega⟩
        obtain ⟨m4, hm4⟩ : ∃ m : Nat, (i : Int) - 4 = (m : Int) := ⟨i - 4, by omega⟩
        have hn1 : m1 = i - 1 := by omega
        have hn4 : m4 = i - 4 := by omega
        refine Tri.skp ?_
        refine Tri.seq (Tri.reg (cfgD_ok.pins _) (by simp (maxSteps := 2000000) (disch := first | decide | omega | (simp only [List.length_append, List.length_cons, List.length_nil, List.length_take, List.length_drop]; omega)) only [Try.f9, kNew, kBoxes, kTwice, cfgD, tyTab, hm1, hm4, go_sem, ↓reduceIte, reduceCtorEq, Nat.reduceLT, Nat.reduceSub, Nat.reduceAdd, Nat.reduceMul, Nat.reduceEqDiff, Nat.reduceBEq, Nat.reduceBNe, Nat.reduceLeDiff, Nat.reduceDiv, Nat.reduceMod, Nat.reducePow, List.reduceReplicate, UInt8.reduceOfNat, UInt32.reduceOfNat, UInt64.reduceOfNat, Int.reduceLE, Int.reduceLT, Int.reduceNeg, Int.reduceToNat, Int.reduceAdd, Int.reduceSub, Int.reduceMul, Int.reduceEq, UInt64.reduceToNat, UInt8.reduceToNat, UInt32.reduceToNat]; rfl) (by first | exact True.intro | (simp only [Obs, and_true, true_and]; omega) | (simp [Obs, AV.sizeL, AV.size, Kd.sz]; done) | (simp [Obs, AV.sizeL, AV.size, Kd.sz]; omega)) ?_)
        refine Tri.seqWk (fun q : UInt8 × List (List UInt8) => (⟨[none, some (.ptr 0 [] 0), none, some (.ptr 1 [] 0), some (.int .u8 q.1), some (.int .i64 (i : Int)), some (.ptr 1 [1, i] (256 + i * 4)), none, none, none, none, none, some (.int .i64 (i : Int))] ++ List.replicate 94 none, [.live (.pure a16 key), .live (.pure cipK (box0, q.2, ()))]⟩ : AS)) (fun q => keyI box0 key (i + 1) = (q.1, kxI q.2 i 4)) ?_ ?_
        · refine Tri.seq ?_
          refine (Tri.rgn (cfgD_ok.pins _) (by simp (maxSteps := 2000000) (disch := first | decide | omega | (simp only [List.length_append, List.length_cons, List.length_nil, List.length_take, List.length_drop]; omega)) only [Try.f9, kNew, kBoxes, kTwice, cfgD, tyTab, hm1, hm4, go_sem, ↓reduceIte, reduceCtorEq, Nat.reduceLT, Nat.reduceSub, Nat.reduceAdd, Nat.reduceMul, Nat.reduceEqDiff, Nat.reduceBEq, Nat.reduceBNe, Nat.reduceLeDiff, Nat.reduceDiv, Nat.reduceMod, Nat.reducePow, List.reduceReplicate, UInt8.reduceOfNat, UInt32.reduceOfNat, UInt64.reduceOfNat, Int.reduceLE, Int.reduceLT, Int.reduceNeg, Int.reduceToNat, Int.reduceAdd, Int.reduceSub, Int.reduceMul, Int.reduceEq, UInt64.reduceToNat, UInt8.reduceToNat, UInt32.reduceToNat]; rfl) (by first | exact True.intro | (simp only [Obs, and_true, true_and]; omega) | (simp [Obs, AV.sizeL, AV.size, Kd.sz]; done) | (simp [Obs, AV.sizeL, AV.size, Kd.sz]; omega)) ?_)
          try simp only [InBlock, Then]
          generalize hk1 : (keyI box0 key i).2.set i ((keyI box0 key i).2.getD m1 [0, 0, 0, 0]) = k1
          refine Tri.split (by simp only [AS.ev, go_sem, ↓reduceIte, reduceCtorEq, Nat.reduceLT, Nat.reduceSub, Nat.reduceAdd, Nat.reduceMul, Nat.reduceEqDiff, Nat.reduceBEq, Nat.reduceBNe, Nat.reduceLeDiff, Nat.reduceDiv, Nat.reduceMod, Nat.reducePow, List.reduceReplicate, UInt8.reduceOfNat, UInt32.reduceOfNat, UInt64.reduceOfNat, Int.reduceLE, Int.reduceLT, Int.reduceNeg, Int.reduceToNat, Int.reduceAdd, Int.reduceSub, Int.reduceMul, Int.reduceEq, UInt64.reduceToNat, UInt8.reduceToNat, UInt32.reduceToNat]; rfl) (fun he => ?_) (fun he => ?_)
          · have he' : i % 4 = 0 := by
              have : ((i % 4 : Nat) : Int) = 0 := by simpa using he
              omega
            have hl1 := UInt8.toNat_lt ((k1.getD i [0, 0, 0, 0]).getD 1 0)
            have hl2 := UInt8.toNat_lt ((k1.getD i [0, 0, 0, 0]).getD 2 0)
            have hl3 := UInt8.toNat_lt ((k1.getD i [0, 0, 0, 0]).getD 3 0)
            have hl0 := UInt8.toNat_lt ((k1.getD i [0, 0, 0, 0]).getD 0 0)
            refine Tri.seq (Tri.drw (mixed) (cfgD_ok.pins _) (by simp (maxSteps := 2000000) (disch := first | decide | omega | (simp only [List.length_append, List.length_cons, List.length_nil, List.length_take, List.length_drop]; omega)) only [Try.f9, kNew, kBoxes, kTwice, cfgD, tyTab, hm1, hm4, go_sem, ↓reduceIte, reduceCtorEq, Nat.reduceLT, Nat.reduceSub, Nat.reduceAdd, Nat.reduceMul, Nat.reduceEqDiff, Nat.reduceBEq, Nat.reduceBNe, Nat.reduceLeDiff, Nat.reduceDiv, Nat.reduceMod, Nat.reducePow, List.reduceReplicate, UInt8.reduceOfNat, UInt32.reduceOfNat, UInt64.reduceOfNat, Int.reduceLE, Int.reduceLT, Int.reduceNeg, Int.reduceToNat, Int.reduceAdd, Int.reduceSub, Int.reduceMul, Int.reduceEq, UInt64.reduceToNat, UInt8.reduceToNat, UInt32.reduceToNat]; rfl) (by (simp only [Obs, and_true, true_and]; generalize ((k1.getD i [0, 0, 0, 0]).getD 1 0).toNat = z1 at *; generalize ((k1.getD i [0, 0, 0, 0]).getD 2 0).toNat = z2 at *; generalize ((k1.getD i [0, 0, 0, 0]).getD 3 0).toNat = z3 at *; generalize ((k1.getD i [0, 0, 0, 0]).getD 0 0).toNat = z0 at *; omega)) (by kernel_rfl) ?_)
            refine (Tri.rgn (cfgD_ok.pins _) (by simp (maxSteps := 2000000) (disch := first | decide | omega | (simp only [List.length_append, List.length_cons, List.length_nil, List.length_take, List.length_drop]; omega)) only [Try.f9, kNew, kBoxes, kTwice, cfgD, tyTab, hm1, hm4, go_sem, ↓reduceIte, reduceCtorEq, Nat.reduceLT, Nat.reduceSub, Nat.reduceAdd, Nat.reduceMul, Nat.reduceEqDiff, Nat.reduceBEq, Nat.reduceBNe, Nat.reduceLeDiff, Nat.reduceDiv, Nat.reduceMod, Nat.reducePow, List.reduceReplicate, UInt8.reduceOfNat, UInt32.reduceOfNat, UInt64.reduceOfNat, Int.reduceLE, Int.reduceLT, Int.reduceNeg, Int.reduceToNat, Int.reduceAdd, Int.reduceSub, Int.reduceMul, Int.reduceEq, UInt64.reduceToNat, UInt8.reduceToNat, UInt32.reduceToNat]; rfl) (by first | exact True.intro | (simp only [Obs, and_true, true_and]; omega) | (simp [Obs, AV.sizeL, AV.size, Kd.sz]; done) | (simp [Obs, AV.sizeL, AV.size, Kd.sz]; omega)) ?_)
            try simp only [InBlock, Then]
            refine ⟨(twice (keyI box0 key i).1, k1.set i [box0.getD ((k1.getD i [0, 0, 0, 0]).getD 1 0).toNat 0 ^^^ (keyI box0 key i).1, box0.getD ((k1.getD i [0, 0, 0, 0]).getD 2 0).toNat 0, box0.getD ((k1.getD i [0, 0, 0, 0]).getD 3 0).toNat 0, box0.getD ((k1.getD i [0, 0, 0, 0]).getD 0 0).toNat 0]), ?_, Wk.of ?_ ?_ rfl rfl⟩
            rotate_left
            · simp only [lessTs, List.reduceReplicate, List.cons_append, List.nil_append] <;> ((repeat' apply And.intro) <;> first | rfl | trivial)
            · simp only [lessHs] <;> ((repeat' apply And.intro) <;> first | rfl | trivial)
            · simp only [keyI, keyStep, if_neg hd', if_pos he', ← hn1, hk1]
          · have he' : ¬ i % 4 = 0 := by
              have : ¬ ((i % 4 : Nat) : Int) = 0 := by simpa using he
              omega
            refine Tri.skp ?_
            refine ⟨((keyI box0 key i).1, k1), ?_, Wk.of ?_ ?_ rfl rfl⟩
            rotate_left
            · simp only [lessTs, List.reduceReplicate, List.cons_append, List.nil_append] <;> ((repeat' apply And.intro) <;> first | rfl | trivial)
            · simp only [lessHs] <;> ((repeat' apply And.intro) <;> first | rfl | trivial)
            · simp only [keyI, keyStep, if_neg hd', if_neg he', ← hn1, hk1]
        · rintro ⟨rd, ks⟩ hq
          refine Tri.seq (Tri.reg (cfgD_ok.pins _) (by simp (maxSteps := 2000000) (disch := first | decide | omega | (simp only [List.length_append, List.length_cons, List.length_nil, List.length_take, List.length_drop]; omega)) only [Try.f9, kNew, kBoxes, kTwice, cfgD, tyTab, hm1, hm4, go_sem, ↓reduceIte, reduceCtorEq, Nat.reduceLT, Nat.reduceSub, Nat.reduceAdd, Nat.reduceMul, Nat.reduceEqDiff, Nat.reduceBEq, Nat.reduceBNe, Nat.reduceLeDiff, Nat.reduceDiv, Nat.reduceMod, Nat.reducePow, List.reduceReplicate, UInt8.reduceOfNat, UInt32.reduceOfNat, UInt64.reduceOfNat, Int.reduceLE, Int.reduceLT, Int.reduceNeg, Int.reduceToNat, Int.reduceAdd, Int.reduceSub, Int.reduceMul, Int.reduceEq, UInt64.reduceToNat, UInt8.reduceToNat, UInt32.reduceToNat]; rfl) (by first | exact True.intro | (simp only [Obs, and_true, true_and]; omega) | (simp [Obs, AV.sizeL, AV.size, Kd.sz]; done) | (simp [Obs, AV.sizeL, AV.size, Kd.sz]; omega)) ?_)
          refine Tri.block ?_
          refine Tri.loop (fun j : Nat => (⟨[none, some (.ptr 0 [] 0), none, some (.ptr 1 [] 0), some (.int .u8 rd), some (.int .i64 (i : Int)), some (.ptr 1 [1, i] (256 + i * 4)), none, none, none, none, none, some (.int .i64 (i : Int))] ++ List.replicate 71 none ++ [some (.int .i64 (j : Int))] ++ List.replicate 22 none, [.live (.pure a16 key), .live (.pure cipK (box0, kxI ks i j, ()))]⟩ : AS)) (· ≤ 4) (fun k => 4 - k) 0 ?_ (Nat.zero_le _) ?_
          · refine Wk.of ?_ ?_ rfl rfl
            · simp only [lessTs, List.reduceReplicate, List.cons_append, List.nil_append] <;> ((repeat' apply And.intro) <;> first | rfl | trivial)
            · simp only [lessHs, kxI] <;> ((repeat' apply And.intro) <;> first | rfl | trivial)
          · intro j hj
            refine Tri.seq (Tri.reg (cfgD_ok.pins _) (by simp (maxSteps := 2000000) (disch := first | decide | omega | (simp only [List.length_append, List.length_cons, List.length_nil, List.length_take, List.length_drop]; omega)) only [Try.f9, kNew, kBoxes, kTwice, cfgD, tyTab, hm1, hm4, go_sem, ↓reduceIte, reduceCtorEq, Nat.reduceLT, Nat.reduceSub, Nat.reduceAdd, Nat.reduceMul, Nat.reduceEqDiff, Nat.reduceBEq, Nat.reduceBNe, Nat.reduceLeDiff, Nat.reduceDiv, Nat.reduceMod, Nat.reducePow, List.reduceReplicate, UInt8.reduceOfNat, UInt32.reduceOfNat, UInt64.reduceOfNat, Int.reduceLE, Int.reduceLT, Int.reduceNeg, Int.reduceToNat, Int.reduceAdd, Int.reduceSub, Int.reduceMul, Int.reduceEq, UInt64.reduceToNat, UInt8.reduceToNat, UInt32.reduceToNat]; rfl) (by first | exact True.intro | (simp only [Obs, and_true, true_and]; omega) | (simp [Obs, AV.sizeL, AV.size, Kd.sz]; done) | (simp [Obs, AV.sizeL, AV.size, Kd.sz]; omega)) ?_)
            refine Tri.seq ?_
            refine Tri.split (by simp only [AS.ev, go_sem, ↓reduceIte, reduceCtorEq, Nat.reduceLT, Nat.reduceSub, Nat.reduceAdd, Nat.reduceMul, Nat.reduceEqDiff, Nat.reduceBEq, Nat.reduceBNe, Nat.reduceLeDiff, Nat.reduceDiv, Nat.reduceMod, Nat.reducePow, List.reduceReplicate, UInt8.reduceOfNat, UInt32.reduceOfNat, UInt64.reduceOfNat, Int.reduceLE, Int.reduceLT, Int.reduceNeg, Int.reduceToNat, Int.reduceAdd, Int.reduceSub, Int.reduceMul, Int.reduceEq, UInt64.reduceToNat, UInt8.reduceToNat, UInt32.reduceToNat]; rfl) (fun hf => ?_) (fun hf => ?_)
            · have hf' : j < 4 := by
                have : (j : Int) < 4 := by simpa using hf
                omega
              refine Tri.skp ?_
              refine Tri.seq (Tri.block ?_)
              refine Tri.seq (Tri.reg (cfgD_ok.pins _) (by simp (maxSteps := 2000000) (disch := first | decide | omega | (simp only [List.length_append, List.length_cons, List.length_nil, List.length_take, List.length_drop]; omega)) only [Try.f9, kNew, kBoxes, kTwice, cfgD, tyTab, hm1, hm4, go_sem, ↓reduceIte, reduceCtorEq, Nat.reduceLT, Nat.reduceSub, Nat.reduceAdd, Nat.reduceMul, Nat.reduceEqDiff, Nat.reduceBEq, Nat.reduceBNe, Nat.reduceLeDiff, Nat.reduceDiv, Nat.reduceMod, Nat.reducePow, List.reduceReplicate, UInt8.reduceOfNat, UInt32.reduceOfNat, UInt64.reduceOfNat, Int.reduceLE, Int.reduceLT, Int.reduceNeg, Int.reduceToNat, Int.reduceAdd, Int.reduceSub, Int.reduceMul, Int.reduceEq, UInt64.reduceToNat, UInt8.reduceToNat, UInt32.reduceToNat]; rfl) (by first | exact True.intro | (simp only [Obs, and_true, true_and]; omega) | (simp [Obs, AV.sizeL, AV.size, Kd.sz]; done) | (simp [Obs, AV.sizeL, AV.size, Kd.sz]; omega)) ?_)
              refine (Tri.drn (mixed) (cfgD_ok.pins _) (by simp (maxSteps := 2000000) (disch := first | decide | omega | (simp only [List.length_append, List.length_cons, List.length_nil, List.length_take, List.length_drop]; omega)) only [Try.f9, kNew, kBoxes, kTwice, cfgD, tyTab, hm1, hm4, go_sem, ↓reduceIte, reduceCtorEq, Nat.reduceLT, Nat.reduceSub, Nat.reduceAdd, Nat.reduceMul, Nat.reduceEqDiff, Nat.reduceBEq, Nat.reduceBNe, Nat.reduceLeDiff, Nat.reduceDiv, Nat.reduceMod, Nat.reducePow, List.reduceReplicate, UInt8.reduceOfNat, UInt32.reduceOfNat, UInt64.reduceOfNat, Int.reduceLE, Int.reduceLT, Int.reduceNeg, Int.reduceToNat, Int.reduceAdd, Int.reduceSub, Int.reduceMul, Int.reduceEq, UInt64.reduceToNat, UInt8.reduceToNat, UInt32.reduceToNat]; rfl) (by first | exact True.intro | (simp only [Obs, and_true, true_and]; omega) | (simp [Obs, AV.sizeL, AV.size, Kd.sz]; done) | (simp [Obs, AV.sizeL, AV.size, Kd.sz]; omega)) (by kernel_rfl) ?_)
              try simp only [InBlock, Then]
              refine (Tri.rgn (cfgD_ok.pins _) (by simp (maxSteps := 2000000) (disch := first | decide | omega | (simp only [List.length_append, List.length_cons, List.length_nil, List.length_take, List.length_drop]; omega)) only [Try.f9, kNew, kBoxes, kTwice, cfgD, tyTab, hm1, hm4, go_sem, ↓reduceIte, reduceCtorEq, Nat.reduceLT, Nat.reduceSub, Nat.reduceAdd, Nat.reduceMul, Nat.reduceEqDiff, Nat.reduceBEq, Nat.reduceBNe, Nat.reduceLeDiff, Nat.reduceDiv, Nat.reduceMod, Nat.reducePow, List.reduceReplicate, UInt8.reduceOfNat, UInt32.reduceOfNat, UInt64.reduceOfNat, Int.reduceLE, Int.reduceLT, Int.reduceNeg, Int.reduceToNat, Int.reduceAdd, Int.reduceSub, Int.reduceMul, Int.reduceEq, UInt64.reduceToNat, UInt8.reduceToNat, UInt32.reduceToNat]; rfl) (by first | exact True.intro | (simp only [Obs, and_true, true_and]; omega) | (simp [Obs, AV.sizeL, AV.size, Kd.sz]; done) | (simp [Obs, AV.sizeL, AV.size, Kd.sz]; omega)) ?_)
              try simp only [InBlock, Then]
              refine ⟨j + 1, (by omega), (by omega), Wk.of ?_ ?_ rfl rfl⟩
              · simp only [lessTs, List.reduceReplicate, List.cons_append, List.nil_append] <;> ((repeat' apply And.intro) <;> first | rfl | trivial)
              · simp only [lessHs, kxI, ← hn4] <;> ((repeat' apply And.intro) <;> first | rfl | trivial)
            · refine Tri.exit ?_
              have hf' : j = 4 := by
                have : ¬ (j : Int) < 4 := by simpa using hf
                omega
              subst hf'
              simp only [Then, InBlock, if_true]
              refine (Tri.rgn (cfgD_ok.pins _) (by simp (maxSteps := 2000000) (disch := first | decide | omega | (simp only [List.length_append, List.length_cons, List.length_nil, List.length_take, List.length_drop]; omega)) only [Try.f9, kNew, kBoxes, kTwice, cfgD, tyTab, hm1, hm4, go_sem, ↓reduceIte, reduceCtorEq, Nat.reduceLT, Nat.reduceSub, Nat.reduceAdd, Nat.reduceMul, Nat.reduceEqDiff, Nat.reduceBEq, Nat.reduceBNe, Nat.reduceLeDiff, Nat.reduceDiv, Nat.reduceMod, Nat.reducePow, List.reduceReplicate, UInt8.reduceOfNat, UInt32.reduceOfNat, UInt64.reduceOfNat, Int.reduceLE, Int.reduceLT, Int.reduceNeg, Int.reduceToNat, Int.reduceAdd, Int.reduceSub, Int.reduceMul, Int.reduceEq, UInt64.reduceToNat, UInt8.reduceToNat, UInt32.reduceToNat]; rfl) (by first | exact True.intro | (simp only [Obs, and_true, true_and]; omega) | (simp [Obs, AV.sizeL, AV.size, Kd.sz]; done) | (simp [Obs, AV.sizeL, AV.size, Kd.sz]; omega)) ?_)
              try simp only [InBlock, Then]
              refine ⟨i + 1, (by omega), (by omega), Wk.of ?_ ?_ rfl rfl⟩
              · simp only [lessTs, List.reduceReplicate, List.cons_append, List.nil_append, hq] <;> ((repeat' apply And.intro) <;> first | rfl | trivial)
              · simp only [lessHs, hq] <;> ((repeat' apply And.intro) <;> first | rfl | trivial)
    · have hc' : i = 44 := by
        have : ¬ (i : Int) < 44 := by simpa using hc
        omega
      subst hc'
      refine Tri.exit ?_
      simp only [Then, InBlock, if_true]
      refine Tri.seq (Tri.reg (cfgD_ok.pins _) (by simp (maxSteps := 2000000) (disch := first | decide | omega | (simp only [List.length_append, List.length_cons, List.length_nil, List.length_take, List.length_drop]; omega)) only [Try.f9, kNew, kBoxes, kTwice, cfgD, tyTab, go_sem, ↓reduceIte, reduceCtorEq, Nat.reduceLT, Nat.reduceSub, Nat.reduceAdd, Nat.reduceMul, Nat.reduceEqDiff, Nat.reduceBEq, Nat.reduceBNe, Nat.reduceLeDiff, Nat.reduceDiv, Nat.reduceMod, Nat.reducePow, List.reduceReplicate, UInt8.reduceOfNat, UInt32.reduceOfNat, UInt64.reduceOfNat, Int.reduceLE, Int.reduceLT, Int.reduceNeg, Int.reduceToNat, Int.reduceAdd, Int.reduceSub, Int.reduceMul, Int.reduceEq, UInt64.reduceToNat, UInt8.reduceToNat, UInt32.reduceToNat]; rfl) (by first | exact True.intro | (simp only [Obs, and_true, true_and]; omega) | (simp [Obs, AV.sizeL, AV.size, Kd.sz]; done) | (simp [Obs, AV.sizeL, AV.size, Kd.sz]; omega)) ?_)
      refine Tri.ret ?_
      refine Con.fin (.inl rfl) (by simp only [Try.f9, cfgD, tyTab, resA, resA1, go_sem, ↓reduceIte, reduceCtorEq, Nat.reduceLT, Nat.reduceSub, Nat.reduceAdd, Nat.reduceMul, Nat.reduceEqDiff, Nat.reduceBEq, Nat.reduceBNe, Nat.reduceLeDiff, Nat.reduceDiv, Nat.reduceMod, Nat.reducePow, List.reduceReplicate, UInt8.reduceOfNat, UInt32.reduceOfNat, UInt64.reduceOfNat, Int.reduceLE, Int.reduceLT, Int.reduceNeg, Int.reduceToNat, Int.reduceAdd, Int.reduceSub, Int.reduceMul, Int.reduceEq, UInt64.reduceToNat, UInt8.reduceToNat, UInt32.reduceToNat]; rfl) (by simp only [Obs, and_true, true_and]) rfl ?_ rfl rfl
      simp only [lessHs, kNew, Con.of, List.map] <;> ((repeat' apply And.intro) <;> first | rfl | trivial)
theorem new_sum : FSumOK Try.prog cfgD.G 9 kNew.sum := Con.sumOK cfgD_ok kNew Try.func9 rfl rfl (Con.of_inv _ _ _) new_body
end Go.Proofs.Yticgfjalikmniaa

namespace Go.Proofs.Yticgfjalikmniaa
set_option linter.unusedVariables false
set_option linter.unusedSimpArgs false
-- SEM
open Go.Vc Go.Proofs
set_option linter.unusedSimpArgs false
set_option maxRecDepth 10000
set_option maxHeartbeats 4000000
def strI (box : List UInt8) (keys : List (List UInt8)) (nonce : UInt64) (data : List UInt8) : Nat → List UInt8 × List UInt8
  | 0 => (List.replicate data.length 0, List.replicate 16 0)
  | i + 1 =>
    let s := strI box keys nonce data i
    let b := if i % 16 = 0 then rndI box keys (ctI nonce (UInt64.ofInt ((i / 16 : Nat) : Int)) 8).2.2 10 else s.2
    (s.1.set i (data.getD i 0 ^^^ b.getD (i % 16) 0), b)
def kStream : Con := Con.of [.p cipK, .v (.int .u64), .v (.slice false (.int .u8))] (fun x => [List.length (α := UInt8) x.2.2.1 ≤ 1048576])
  (fun x => ⟨.tsl 1 [] 0 0 1 (List.length (α := UInt8) x.2.2.1), [.pure cipK x.1, .pure (.arr (List.length (α := UInt8) x.2.2.1) (.int .u8)) (strI x.1.1 x.1.2.1 x.2.1 x.2.2.1 (List.length (α := UInt8) x.2.2.1)).1, .pure a16 (strI x.1.1 x.1.2.1 x.2.1 x.2.2.1 (List.length (α := UInt8) x.2.2.1)).2]⟩)
theorem stream_body (p : kStream.Par) (hp : ∀ q ∈ kStream.pre p, q) : BodyOK Try.prog cfgD Try.f13 (Try.f13.body.get rfl) kStream p := by
  obtain ⟨⟨(box : List UInt8), (keys : List (List UInt8)), u1⟩, (nonce : UInt64), (data : List UInt8), u⟩ := p
  obtain ⟨hlen, _⟩ := Obs.of hp
  replace hlen : data.length ≤ 1048576 := hlen
  refine ⟨?_, by simp [kStream, Con.of, AK.cnt], rfl, rfl⟩
  show Tri _ _ _ (Code.seq _ (Code.seq _ (Code.seq _ (Code.seq (Code.seq _ (Code.block _ (Code.loop (Code.seq _ (Code.seq (Code.cond _ _ _) (Code.seq (Code.block _ (Code.seq _ (Code.seq (Code.seq _ (Code.cond _ _ _)) _))) _)))))) (Code.seq _ _))))) _
  refine Tri.seq (Tri.reg (cfgD_ok.pins _) (by simp (maxSteps := 2000000) (disch := first | decide | omega | (simp only [List.length_append, List.length_cons, List.length_nil, List.length_take, List.length_drop]; omega)) only [Try.f13, kStream, kCounter, kBlock, cfgD, tyTab, go_sem, ↓reduceIte, reduceCtorEq, Nat.reduceLT, Nat.reduceSub, Nat.reduceAdd, Nat.reduceMul, Nat.reduceEqDiff, Nat.reduceBEq, Nat.reduceBNe, Nat.reduceLeDiff, Nat.reduceDiv, Nat.reduceMod, Nat.reducePow, List.reduceReplicate, UInt8.reduceOfNat, UInt32.reduceOfNat, UInt64.reduceOfNat, Int.reduceLE, Int.reduceLT, Int.reduceNeg, Int.reduceToNat, Int.reduceAdd, Int.reduceSub, Int.reduceMul, Int.reduceEq, UInt64.reduceToNat, UInt8.reduceToNat, UInt32.reduceToNat]; rfl) (by first | exact True.intro | (simp only [Obs, and_true, true_and]; omega) | (simp [Obs, AV.sizeL, AV.size, Kd.sz]; done) | (simp [Obs, AV.sizeL, AV.size, Kd.sz]; omega)) ?_)
  refine Tri.seq (Tri.reg (cfgD_ok.pins _) (by simp (maxSteps := 2000000) (disch := first | decide | omega | (simp only [List.length_append, List.length_cons, List.length_nil, List.length_take, List.length_drop]; omega)) only [Try.f13, kStream, kCounter, kBlock, cfgD, tyTab, go_sem, ↓reduceIte, reduceCtorEq, Nat.reduceLT, Nat.reduceSub, Nat.reduceAdd, Nat.reduceMul, Nat.reduceEqDiff, Nat.reduceBEq, Nat.reduceBNe, Nat.reduceLeDiff, Nat.reduceDiv, Nat.reduceMod, Nat.reducePow, List.reduceReplicate, UInt8.reduceOfNat, UInt32.reduceOfNat, UInt64.reduceOfNat, Int.reduceLE, Int.reduceLT, Int.reduceNeg, Int.reduceToNat, Int.reduceAdd, Int.reduceSub, Int.reduceMul, Int.reduceEq, UInt64.reduceToNat, UInt8.reduceToNat, UInt32.reduceToNat]; rfl) (by first | exact True.intro | (simp only [Obs, and_true, true_and]; omega) | (simp [Obs, AV.sizeL, AV.size, Kd.sz]; done) | (simp [Obs, AV.sizeL, AV.size, Kd.sz]; omega)) ?_)
  refine Tri.seq (Tri.reg (cfgD_ok.pins _) (by simp (maxSteps := 2000000) (disch := first | decide | omega | (simp only [List.length_append, List.length_cons, List.length_nil, List.length_take, List.length_drop]; omega)) only [Try.f13, kStream, kCounter, kBlock, cfgD, tyTab, go_sem, ↓reduceIte, reduceCtorEq, Nat.reduceLT, Nat.reduceSub, Nat.reduceAdd, Nat.reduceMul, Nat.reduceEqDiff, Nat.reduceBEq, Nat.reduceBNe, Nat.reduceLeDiff, Nat.reduceDiv, Nat.reduceMod, Nat.reducePow, List.reduceReplicate, UInt8.reduceOfNat, UInt32.reduceOfNat, UInt64.reduceOfNat, Int.reduceLE, Int.reduceLT, Int.reduceNeg, Int.reduceToNat, Int.reduceAdd, Int.reduceSub, Int.reduceMul, Int.reduceEq, UInt64.reduceToNat, UInt8.reduceToNat, UInt32.reduceToNat]; rfl) (by first | exact True.intro | (simp only [Obs, and_true, true_and]; omega) | (simp [Obs, AV.sizeL, AV.size, Kd.sz]; done) | (simp [Obs, AV.sizeL, AV.size, Kd.sz]; omega)) ?_)
  refine Tri.seq ?_
  refine Tri.seq (Tri.reg (cfgD_ok.pins _) (by simp (maxSteps := 2000000) (disch := first | decide | omega | (simp only [List.length_append, List.length_cons, List.length_nil, List.length_take, List.length_drop]; omega)) only [Try.f13, kStream, kCounter, kBlock, cfgD, tyTab, go_sem, ↓reduceIte, reduceCtorEq, Nat.reduceLT, Nat.reduceSub, Nat.reduceAdd, Nat.reduceMul, Nat.reduceEqDiff, Nat.reduceBEq, Nat.reduceBNe, Nat.reduceLeDiff, Nat.reduceDiv, Nat.reduceMod, Nat.reducePow, List.reduceReplicate, UInt8.reduceOfNat, UInt32.reduceOfNat, UInt64.reduceOfNat, Int.reduceLE, Int.reduceLT, Int.reduceNeg, Int.reduceToNat, Int.reduceAdd, Int.reduceSub, Int.reduceMul, Int.reduceEq, UInt64.reduceToNat, UInt8.reduceToNat, UInt32.reduceToNat]; rfl) (by first | exact True.intro | (simp only [Obs, and_true, true_and]; omega) | (simp [Obs, AV.sizeL, AV.size, Kd.sz]; done) | (simp [Obs, AV.sizeL, AV.size, Kd.sz]; omega)) ?_)
  refine Tri.block ?_
  refine Tri.loop (fun i : Nat => (⟨[some (.ptr 0 [] 0), some (.int .u64 nonce), none, none, none, none, none, some (.tsl 1 [] 0 0 1 data.length), some (.ptr 2 [] 0), none, none, none, none, none, some (.pure (.slice false (.int .u8)) data), some (.int .i64 (data.length : Int)), some (.int .i64 (i : Int))] ++ List.replicate 25 none,
    [.live (.pure cipK (box, keys, u1)), .live (.pure (.arr data.length (.int .u8)) (strI box keys nonce data i).1), .live (.pure a16 (strI box keys nonce data i).2)]⟩ : AS)) (· ≤ data.length) (fun k => data.length - k) 0 ?_ (Nat.zero_le _) ?_
  · refine Wk.of ?_ ?_ rfl rfl
    · simp only [lessTs, List.reduceReplicate, List.cons_append, List.nil_append] <;> ((repeat' apply And.intro) <;> first | rfl | trivial)
    · simp only [lessHs, strI] <;> ((repeat' apply And.intro) <;> first | rfl | trivial)
  · intro i hi
    refine Tri.seq (Tri.reg (cfgD_ok.pins _) (by simp (maxSteps := 2000000) (disch := first | decide | omega | (simp only [List.length_append, List.length_cons, List.length_nil, List.length_take, List.length_drop]; omega)) only [Try.f13, kStream, kCounter, kBlock, cfgD, tyTab, go_sem, ↓reduceIte, reduceCtorEq, Nat.reduceLT, Nat.reduceSub, Nat.reduceAdd, Nat.reduceMul, Nat.reduceEqDiff, Nat.reduceBEq, Nat.reduceBNe, Nat.reduceLeDiff, Nat.reduceDiv, Nat.reduceMod, Nat.reducePow, List.reduceReplicate, UInt8.reduceOfNat, UInt32.reduceOfNat, UInt64.reduceOfNat, Int.reduceLE, Int.reduceLT, Int.reduceNeg, Int.reduceToNat, Int.reduceAdd, Int.reduceSub, Int.reduceMul, Int.reduceEq, UInt64.reduceToNat, UInt8.reduceToNat, UInt32.reduceToNat]; rfl) (by first | exact True.intro | (simp only [Obs, and_true, true_and]; omega) | (simp [Obs, AV.sizeL, AV.size, Kd.sz]; done) | (simp [Obs, AV.sizeL, AV.size, Kd.sz]; omega)) ?_)
    refine Tri.seq ?_
    refine Tri.split (by simp only [AS.ev, go_sem, ↓reduceIte, reduceCtorEq, Nat.reduceLT, Nat.reduceSub, Nat.reduceAdd, Nat.reduceMul, Nat.reduceEqDiff, Nat.reduceBEq, Nat.reduceBNe, Nat.reduceLeDiff, Nat.reduceDiv, Nat.reduceMod, Nat.reducePow, List.reduceReplicate, UInt8.reduceOfNat, UInt32.reduceOfNat, UInt64.reduceOfNat, Int.reduceLE, Int.reduceLT, Int.reduceNeg, Int.reduceToNat, Int.reduceAdd, Int.reduceSub, Int.reduceMul, Int.reduceEq, UInt64.reduceToNat, UInt8.reduceToNat, UInt32.reduceToNat]; rfl) (fun hc => ?_) (fun hc => ?_)
    · have hc' : i < data.length := by
        have : (i : Int) < data.length := by simpa using hc
        omega
      refine Tri.skp ?_
      refine Tri.seq (Tri.block ?_)
      refine Tri.seq (Tri.reg (cfgD_ok.pins _) (by simp (maxSteps := 2000000) (disch := first | decide | omega | (simp only [List.length_append, List.length_cons, List.length_nil, List.length_take, List.length_drop]; omega)) only [Try.f13, kStream, kCounter, kBlock, cfgD, tyTab, go_sem, ↓reduceIte, reduceCtorEq, Nat.reduceLT, Nat.reduceSub, Nat.reduceAdd, Nat.reduceMul, Nat.reduceEqDiff, Nat.reduceBEq, Nat.reduceBNe, Nat.reduceLeDiff, Nat.reduceDiv, Nat.reduceMod, Nat.reducePow, List.reduceReplicate, UInt8.reduceOfNat, UInt32.reduceOfNat, UInt64.reduceOfNat, Int.reduceLE, Int.reduceLT, Int.reduceNeg, Int.reduceToNat, Int.reduceAdd, Int.reduceSub, Int.reduceMul, Int.reduceEq, UInt64.reduceToNat, UInt8.reduceToNat, UInt32.reduceToNat]; rfl) (by first | exact True.intro | (simp only [Obs, and_true, true_and]; omega) | (simp [Obs, AV.sizeL, AV.size, Kd.sz]; done) | (simp [Obs, AV.sizeL, AV.size, Kd.sz]; omega)) ?_)
      refine Tri.seq (Tri.seq ?_)
      refine (Tri.rgn (cfgD_ok.pins _) (by simp (maxSteps := 2000000) (disch := first | decide | omega | (simp only [List.length_append, List.length_cons, List.length_nil, List.length_take, List.length_drop]; omega)) only [Try.f13, kStream, kCounter, kBlock, cfgD, tyTab, go_sem, ↓reduceIte, reduceCtorEq, Nat.reduceLT, Nat.reduceSub, Nat.reduceAdd, Nat.reduceMul, Nat.reduceEqDiff, Nat.reduceBEq, Nat.reduceBNe, Nat.reduceLeDiff, Nat.reduceDiv, Nat.reduceMod, Nat.reducePow, List.reduceReplicate, UInt8.reduceOfNat, UInt32.reduceOfNat, UInt64.reduceOfNat, Int.reduceLE, Int.reduceLT, Int.reduceNeg, Int.reduceToNat, Int.reduceAdd, Int.reduceSub, Int.reduceMul, Int.reduceEq, UInt64.reduceToNat, UInt8.reduceToNat, UInt32.reduceToNat]; rfl) (by first | exact True.intro | (simp only [Obs, and_true, true_and]; omega) | (simp [Obs, AV.sizeL, AV.size, Kd.sz]; done) | (simp [Obs, AV.sizeL, AV.size, Kd.sz]; omega)) ?_)
      try simp only [InBlock, Then]
      refine Tri.split (by simp only [AS.ev, go_sem, ↓reduceIte, reduceCtorEq, Nat.reduceLT, Nat.reduceSub, Nat.reduceAdd, Nat.reduceMul, Nat.reduceEqDiff, Nat.reduceBEq, Nat.reduceBNe, Nat.reduceLeDiff, Nat.reduceDiv, Nat.reduceMod, Nat.reducePow, List.reduceReplicate, UInt8.reduceOfNat, UInt32.reduceOfNat, UInt64.reduceOfNat, Int.reduceLE, Int.reduceLT, Int.reduceNeg, Int.reduceToNat, Int.reduceAdd, Int.reduceSub, Int.reduceMul, Int.reduceEq, UInt64.reduceToNat, UInt8.reduceToNat, UInt32.reduceToNat]; rfl) (fun hd => ?_) (fun hd => ?_)
      · have hd' : i % 16 = 0 := by
          have : ((i % 16 : Nat) : Int) = 0 := by simpa using hd
          omega
        refine (Tri.rgn (cfgD_ok.pins _) (by simp (maxSteps := 2000000) (disch := first | decide | omega | (simp only [List.length_append, List.length_cons, List.length_nil, List.length_take, List.length_drop]; omega)) only [Try.f13, kStream, kCounter, kBlock, cfgD, tyTab, go_sem, ↓reduceIte, reduceCtorEq, Nat.reduceLT, Nat.reduceSub, Nat.reduceAdd, Nat.reduceMul, Nat.reduceEqDiff, Nat.reduceBEq, Nat.reduceBNe, Nat.reduceLeDiff, Nat.reduceDiv, Nat.reduceMod, Nat.reducePow, List.reduceReplicate, UInt8.reduceOfNat, UInt32.reduceOfNat, UInt64.reduceOfNat, Int.reduceLE, Int.reduceLT, Int.reduceNeg, Int.reduceToNat, Int.reduceAdd, Int.reduceSub, Int.reduceMul, Int.reduceEq, UInt64.reduceToNat, UInt8.reduceToNat, UInt32.reduceToNat]; rfl) (by first | exact True.intro | (simp only [Obs, and_true, true_and]; omega) | (simp [Obs, AV.sizeL, AV.size, Kd.sz]; done) | (simp [Obs, AV.sizeL, AV.size, Kd.sz]; omega)) ?_)
        try simp only [InBlock, Then]
        refine (Tri.rgn (cfgD_ok.pins _) (by simp (maxSteps := 2000000) (disch := first | decide | omega | (simp only [List.length_append, List.length_cons, List.length_nil, List.length_take, List.length_drop]; omega)) only [Try.f13, kStream, kCounter, kBlock, cfgD, tyTab, go_sem, ↓reduceIte, reduceCtorEq, Nat.reduceLT, Nat.reduceSub, Nat.reduceAdd, Nat.reduceMul, Nat.reduceEqDiff, Nat.reduceBEq, Nat.reduceBNe, Nat.reduceLeDiff, Nat.reduceDiv, Nat.reduceMod, Nat.reducePow, List.reduceReplicate, UInt8.reduceOfNat, UInt32.reduceOfNat, UInt64.reduceOfNat, Int.reduceLE, Int.reduceLT, Int.reduceNeg, Int.reduceToNat, Int.reduceAdd, Int.reduceSub, Int.reduceMul, Int.reduceEq, UInt64.reduceToNat, UInt8.reduceToNat, UInt32.reduceToNat]; rfl) (by first | exact True.intro | (simp only [Obs, and_true, true_and]; omega) | (simp [Obs, AV.sizeL, AV.size, Kd.sz]; done) | (simp [Obs, AV.sizeL, AV.size, Kd.sz]; omega)) ?_)
        try simp only [InBlock, Then]
        refine (Tri.rgn (cfgD_ok.pins _) (by simp (maxSteps := 2000000) (disch := first | decide | omega | (simp only [List.length_append, List.length_cons, List.length_nil, List.length_take, List.length_drop]; omega)) only [Try.f13, kStream, kCounter, kBlock, cfgD, tyTab, go_sem, ↓reduceIte, reduceCtorEq, Nat.reduceLT, Nat.reduceSub, Nat.reduceAdd, Nat.reduceMul, Nat.reduceEqDiff, Nat.reduceBEq, Nat.reduceBNe, Nat.reduceLeDiff, Nat.reduceDiv, Nat.reduceMod, Nat.reducePow, List.reduceReplicate, UInt8.reduceOfNat, UInt32.reduceOfNat, UInt64.reduceOfNat, Int.reduceLE, Int.reduceLT, Int.reduceNeg, Int.reduceToNat, Int.reduceAdd, Int.reduceSub, Int.reduceMul, Int.reduceEq, UInt64.reduceToNat, UInt8.reduceToNat, UInt32.reduceToNat]; rfl) (by first | exact True.intro | (simp only [Obs, and_true, true_and]; omega) | (simp [Obs, AV.sizeL, AV.size, Kd.sz]; done) | (simp [Obs, AV.sizeL, AV.size, Kd.sz]; omega)) ?_)
        try simp only [InBlock, Then]
        refine ⟨i + 1, (by omega), (by omega), Wk.of ?_ ?_ rfl rfl⟩
        · simp only [lessTs, List.reduceReplicate, List.cons_append, List.nil_append] <;> ((repeat' apply And.intro) <;> first | rfl | trivial)
        · simp only [lessHs, strI, if_pos hd'] <;> ((repeat' apply And.intro) <;> first | rfl | trivial)
      · have hd' : ¬ i % 16 = 0 := by
          have : ¬ ((i % 16 : Nat) : Int) = 0 := by simpa using hd
          omega
        refine Tri.skp ?_
        refine (Tri.rgn (cfgD_ok.pins _) (by simp (maxSteps := 2000000) (disch := first | decide | omega | (simp only [List.length_append, List.length_cons, List.length_nil, List.length_take, List.length_drop]; omega)) only [Try.f13, kStream, kCounter, kBlock, cfgD, tyTab, go_sem, ↓reduceIte, reduceCtorEq, Nat.reduceLT, Nat.reduceSub, Nat.reduceAdd, Nat.reduceMul, Nat.reduceEqDiff, Nat.reduceBEq, Nat.reduceBNe, Nat.reduceLeDiff, Nat.reduceDiv, Nat.reduceMod, Nat.reducePow, List.reduceReplicate, UInt8.reduceOfNat, UInt32.reduceOfNat, UInt64.reduceOfNat, Int.reduceLE, Int.reduceLT, Int.reduceNeg, Int.reduceToNat, Int.reduceAdd, Int.reduceSub, Int.reduceMul, Int.reduceEq, UInt64.reduceToNat, UInt8.reduceToNat, UInt32.reduceToNat]; rfl) (by first | exact True.intro | (simp only [Obs, and_true, true_and]; omega) | (simp [Obs, AV.sizeL, AV.size, Kd.sz]; done) | (simp [Obs, AV.sizeL, AV.size, Kd.sz]; omega)) ?_)
        try simp only [InBlock, Then]
        refine (Tri.rgn (cfgD_ok.pins _) (by simp (maxSteps := 2000000) (disch := first | decide | omega | (simp only [List.length_append, List.length_cons, List.length_nil, List.length_take, List.length_drop]; omega)) only [Try.f13, kStream, kCounter, kBlock, cfgD, tyTab, go_sem, ↓reduceIte, reduceCtorEq, Nat.reduceLT, Nat.reduceSub, Nat.reduceAdd, Nat.reduceMul, Nat.reduceEqDiff, Nat.reduceBEq, Nat.reduceBNe, Nat.reduceLeDiff, Nat.reduceDiv, Nat.reduceMod, Nat.reducePow, List.reduceReplicate, UInt8.reduceOfNat, UInt32.reduceOfNat, UInt64.reduceOfNat, Int.reduceLE, Int.reduceLT, Int.reduceNeg, Int.reduceToNat, Int.reduceAdd, Int.reduceSub, Int.reduceMul, Int.reduceEq, UInt64.reduceToNat, UInt8.reduceToNat, UInt32.reduceToNat]; rfl) (by first | exact True.intro | (simp only [Obs, and_true, true_and]; omega) | (simp [Obs, AV.sizeL, AV.size, Kd.sz]; done) | (simp [Obs, AV.sizeL, AV.size, Kd.sz]; omega)) ?_)
        try simp only [InBlock, Then]
        refine ⟨i + 1, (by omega), (by omega), Wk.of ?_ ?_ rfl rfl⟩
        · simp only [lessTs, List.reduceReplicate, List.cons_append, List.nil_append] <;> ((repeat' apply And.intro) <;> first | rfl | trivial)
        · simp only [lessHs, strI, if_neg hd'] <;> ((repeat' apply And.intro) <;> first | rfl | trivial)
    · refine Tri.exit ?_
      have hc' : i = data.length := by
        have : ¬ (i : Int) < data.length := by simpa using hc
        omega
      subst hc'
      simp only [Then, InBlock, if_true]
      refine Tri.seq (Tri.reg (cfgD_ok.pins _) (by simp (maxSteps := 2000000) (disch := first | decide | omega | (simp only [List.length_append, List.length_cons, List.length_nil, List.length_take, List.length_drop]; omega)) only [Try.f13, kStream, kCounter, kBlock, cfgD, tyTab, go_sem, ↓reduceIte, reduceCtorEq, Nat.reduceLT, Nat.reduceSub, Nat.reduceAdd, Nat.reduceMul, Nat.reduceEqDiff, Nat.reduceBEq, Nat.reduceBNe, Nat.reduceLeDiff, Nat.reduceDiv, Nat.reduceMod, Nat.reducePow, List.reduceReplicate, UInt8.reduceOfNat, UInt32.reduceOfNat, UInt64.reduceOfNat, Int.reduceLE, Int.reduceLT, Int.reduceNeg, Int.reduceToNat, Int.reduceAdd, Int.reduceSub, Int.reduceMul, Int.reduceEq, UInt64.reduceToNat, UInt8.reduceToNat, UInt32.reduceToNat]; rfl) (by first | exact True.intro | (simp only [Obs, and_true, true_and]; omega) | (simp [Obs, AV.sizeL, AV.size, Kd.sz]; done) | (simp [Obs, AV.sizeL, AV.size, Kd.sz]; omega)) ?_)
      refine Tri.ret ?_
      refine Con.fin (.inl rfl) (by simp only [Try.f13, cfgD, tyTab, resA, resA1, go_sem, ↓reduceIte, reduceCtorEq, Nat.reduceLT, Nat.reduceSub, Nat.reduceAdd, Nat.reduceMul, Nat.reduceEqDiff, Nat.reduceBEq, Nat.reduceBNe, Nat.reduceLeDiff, Nat.reduceDiv, Nat.reduceMod, Nat.reducePow, List.reduceReplicate, UInt8.reduceOfNat, UInt32.reduceOfNat, UInt64.reduceOfNat, Int.reduceLE, Int.reduceLT, Int.reduceNeg, Int.reduceToNat, Int.reduceAdd, Int.reduceSub, Int.reduceMul, Int.reduceEq, UInt64.reduceToNat, UInt8.reduceToNat, UInt32.reduceToNat]; rfl) (by simp only [Obs, and_true, true_and]) rfl ?_ rfl rfl
      simp only [lessHs, kStream, Con.of, List.map] <;> ((repeat' apply And.intro) <;> first | rfl | trivial)
theorem stream_sum : FSumOK Try.prog cfgD.G 13 kStream.sum := Con.sumOK cfgD_ok kStream Try.func13 rfl rfl (Con.of_inv _ _ _) stream_body
end Go.Proofs.Yticgfjalikmniaa

namespace Go.Proofs.Yticgfjalikmniaa
set_option linter.unusedVariables false
set_option linter.unusedSimpArgs false
open Go.Vc Go.Proofs
set_option linter.unusedSimpArgs false
set_option maxRecDepth 10000
set_option maxHeartbeats 4000000
def cfgE : Cfg2 := { ty := tyTab, fn := fun | 9 => some kNew.sum | 10 => some kBlock.sum | 13 => some kStream.sum | _ => none, G := fun _ => none, pin := [], eq := fun | 22 => some a16 | _ => none }
theorem cfgE_eq : ∀ t d, cfgE.eq t = some d → TyEq Try.prog d t ∧ Try.prog.eqGuardType Try.prog.depth t = false ∧ d.ht ≤ 10000 ∧ d.isAgg = true := fun t d h => by
  simp only [cfgE] at h
  split at h
  · injection h with h
    subst h
    exact ⟨⟨5, Try.underlying22, Try.underlying5, _, rfl, by kernel_rfl⟩, by kernel_rfl, by decide, rfl⟩
  · cases h
theorem cfgE_ok : CfgOK Try.prog cfgE := ⟨tysOK, (fun f s h => by
  simp only [cfgE] at h
  split at h
  · injection h with h; subst h; exact new_sum
  · injection h with h; subst h; exact block_sum
  · injection h with h; subst h; exact stream_sum
  · cases h), cfgE_eq⟩
def spI : Nat → List UInt8 × List UInt8
  | 0 => (Kd.dflt a16, Kd.dflt a16)
  | i + 1 => ((spI i).1.set i (UInt8.ofInt (i : Int)), (spI i).2.set i (UInt8.ofInt ((17 * i : Nat) : Int)))
def kSpeaks : Con := Con.of [] (fun _ => []) (fun _ => ⟨.bool true, []⟩)
def spOut : List UInt8 := rndI (newC (spI 16).1).1 (newC (spI 16).1).2.1 (spI 16).2 10
theorem spOut_eq : strEq (List.take 16 spOut) [105, 196, 224, 216, 106, 123, 4, 48, 216, 205, 183, 128, 112, 180, 197, 90] = true := by kernel_rfl
end Go.Proofs.Yticgfjalikmniaa

namespace Go.Proofs.Yticgfjalikmniaa
set_option linter.unusedVariables false
set_option linter.unusedSimpArgs false
-- SEM
open Go.Vc Go.Proofs
set_option linter.unusedSimpArgs false
set_option maxRecDepth 10000
set_option maxHeartbeats 4000000
theorem speaks_body (p : kSpeaks.Par) (hp : ∀ q ∈ kSpeaks.pre p, q) : BodyOK Try.prog cfgE Try.f8 (Try.f8.body.get rfl) kSpeaks p := by
  refine ⟨?_, Nat.zero_le _, rfl, rfl⟩
  show Tri _ _ _ (Code.seq _ (Code.seq _ (Code.seq (Code.seq _ (Code.block _ (Code.loop (Code.seq _ (Code.seq (Code.cond _ _ _) (Code.seq (Code.block _ (Code.seq _ _)) _)))))) (Code.seq _ (Code.seq (Code.seq _ (Code.cond _ (Code.seq _ _) _)) (Code.seq _ (Code.seq _ _))))))) _
  refine Tri.seq (Tri.reg (cfgE_ok.pins _) (by simp (maxSteps := 2000000) (disch := first | decide | omega | (simp only [List.length_append, List.length_cons, List.length_nil, List.length_take, List.length_drop]; omega)) only [Try.f8, kSpeaks, kNew, kBlock, cfgE, tyTab, go_sem, ↓reduceIte, reduceCtorEq, Nat.reduceLT, Nat.reduceSub, Nat.reduceAdd, Nat.reduceMul, Nat.reduceEqDiff, Nat.reduceBEq, Nat.reduceBNe, Nat.reduceLeDiff, Nat.reduceDiv, Nat.reduceMod, Nat.reducePow, List.reduceReplicate, UInt8.reduceOfNat, UInt32.reduceOfNat, UInt64.reduceOfNat, Int.reduceLE, Int.reduceLT, Int.reduceNeg, Int.reduceToNat, Int.reduceAdd, Int.reduceSub, Int.reduceMul, Int.reduceEq, UInt64.reduceToNat, UInt8.reduceToNat, UInt32.reduceToNat]; rfl) (by first | exact True.intro | (simp only [Obs, and_true, true_and]; omega) | (simp [Obs, AV.sizeL, AV.size, Kd.sz]; done) | (simp [Obs, AV.sizeL, AV.size, Kd.sz]; omega)) ?_)
  refine Tri.seq (Tri.reg (cfgE_ok.pins _) (by simp (maxSteps := 2000000) (disch := first | decide | omega | (simp only [List.length_append, List.length_cons, List.length_nil, List.length_take, List.length_drop]; omega)) only [Try.f8, kSpeaks, kNew, kBlock, cfgE, tyTab, go_sem, ↓reduceIte, reduceCtorEq, Nat.reduceLT, Nat.reduceSub, Nat.reduceAdd, Nat.reduceMul, Nat.reduceEqDiff, Nat.reduceBEq, Nat.reduceBNe, Nat.reduceLeDiff, Nat.reduceDiv, Nat.reduceMod, Nat.reducePow, List.reduceReplicate, UInt8.reduceOfNat, UInt32.reduceOfNat, UInt64.reduceOfNat, Int.reduceLE, Int.reduceLT, Int.reduceNeg, Int.reduceToNat, Int.reduceAdd, Int.reduceSub, Int.reduceMul, Int.reduceEq, UInt64.reduceToNat, UInt8.reduceToNat, UInt32.reduceToNat]; rfl) (by first | exact True.intro | (simp only [Obs, and_true, true_and]; omega) | (simp [Obs, AV.sizeL, AV.size, Kd.sz]; done) | (simp [Obs, AV.sizeL, AV.size, Kd.sz]; omega)) ?_)
  refine Tri.seq ?_
  refine Tri.seq (Tri.reg (cfgE_ok.pins _) (by simp (maxSteps := 2000000) (disch := first | decide | omega | (simp only [List.length_append, List.length_cons, List.length_nil, List.length_take, List.length_drop]; omega)) only [Try.f8, kSpeaks, kNew, kBlock, cfgE, tyTab, go_sem, ↓reduceIte, reduceCtorEq, Nat.reduceLT, Nat.reduceSub, Nat.reduceAdd, Nat.reduceMul, Nat.reduceEqDiff, Nat.reduceBEq, Nat.reduceBNe, Nat.reduceLeDiff, Nat.reduceDiv, Nat.reduceMod, Nat.reducePow, List.reduceReplicate, UInt8.reduceOfNat, UInt32.reduceOfNat, UInt64.reduceOfNat, Int.reduceLE, Int.reduceLT, Int.reduceNeg, Int.reduceToNat, Int.reduceAdd, Int.reduceSub, Int.reduceMul, Int.reduceEq, UInt64.reduceToNat, UInt8.reduceToNat, UInt32.reduceToNat]; rfl) (by first | exact True.intro | (simp only [Obs, and_true, true_and]; omega) | (simp [Obs, AV.sizeL, AV.size, Kd.sz]; done) | (simp [Obs, AV.sizeL, AV.size, Kd.sz]; omega)) ?_)
  refine Tri.block ?_
  refine Tri.loop (fun i : Nat => (⟨[none, some (.ptr 0 [] 0), some (.ptr 1 [] 0), none, none, none, none, none, some (.int .i64 (i : Int))] ++ List.replicate 22 none,
    [.live (.pure a16 (spI i).1), .live (.pure a16 (spI i).2)]⟩ : AS)) (· ≤ 16) (fun k => 16 - k) 0 ?_ (Nat.zero_le _) ?_
  · refine Wk.of ?_ ?_ rfl rfl
    · simp only [lessTs, List.reduceReplicate, List.cons_append, List.nil_append] <;> ((repeat' apply And.intro) <;> first | rfl | trivial)
    · simp only [lessHs, spI] <;> ((repeat' apply And.intro) <;> first | rfl | trivial)
  · intro i hi
    refine Tri.seq (Tri.reg (cfgE_ok.pins _) (by simp (maxSteps := 2000000) (disch := first | decide | omega | (simp only [List.length_append, List.length_cons, List.length_nil, List.length_take, List.length_drop]; omega)) only [Try.f8, kSpeaks, kNew, kBlock, cfgE, tyTab, go_sem, ↓reduceIte, reduceCtorEq, Nat.reduceLT, Nat.reduceSub, Nat.reduceAdd, Nat.reduceMul, Nat.reduceEqDiff, Nat.reduceBEq, Nat.reduceBNe, Nat.reduceLeDiff, Nat.reduceDiv, Nat.reduceMod, Nat.reducePow, List.reduceReplicate, UInt8.reduceOfNat, UInt32.reduceOfNat, UInt64.reduceOfNat, Int.reduceLE, Int.reduceLT, Int.reduceNeg, Int.reduceToNat, Int.reduceAdd, Int.reduceSub, Int.reduceMul, Int.reduceEq, UInt64.reduceToNat, UInt8.reduceToNat, UInt32.reduceToNat]; rfl) (by first | exact True.intro | (simp only [Obs, and_true, true_and]; omega) | (simp [Obs, AV.sizeL, AV.size, Kd.sz]; done) | (simp [Obs, AV.sizeL, AV.size, Kd.sz]; omega)) ?_)
    refine Tri.seq ?_
    refine Tri.split (by simp only [AS.ev, go_sem, ↓reduceIte, reduceCtorEq, Nat.reduceLT, Nat.reduceSub, Nat.reduceAdd, Nat.reduceMul, Nat.reduceEqDiff, Nat.reduceBEq, Nat.reduceBNe, Nat.reduceLeDiff, Nat.reduceDiv, Nat.reduceMod, Nat.reducePow, List.reduceReplicate, UInt8.reduceOfNat, UInt32.reduceOfNat, UInt64.reduceOfNat, Int.reduceLE, Int.reduceLT, Int.reduceNeg, Int.reduceToNat, Int.reduceAdd, Int.reduceSub, Int.reduceMul, Int.reduceEq, UInt64.reduceToNat, UInt8.reduceToNat, UInt32.reduceToNat]; rfl) (fun hc => ?_) (fun hc => ?_)
    · have hc' : i < 16 := by
        have : (i : Int) < 16 := by simpa using hc
        omega
      refine Tri.skp ?_
      refine Tri.seq (Tri.block ?_)
      refine Tri.seq (Tri.reg (cfgE_ok.pins _) (by simp (maxSteps := 2000000) (disch := first | decide | omega | (simp only [List.length_append, List.length_cons, List.length_nil, List.length_take, List.length_drop]; omega)) only [Try.f8, kSpeaks, kNew, kBlock, cfgE, tyTab, go_sem, ↓reduceIte, reduceCtorEq, Nat.reduceLT, Nat.reduceSub, Nat.reduceAdd, Nat.reduceMul, Nat.reduceEqDiff, Nat.reduceBEq, Nat.reduceBNe, Nat.reduceLeDiff, Nat.reduceDiv, Nat.reduceMod, Nat.reducePow, List.reduceReplicate, UInt8.reduceOfNat, UInt32.reduceOfNat, UInt64.reduceOfNat, Int.reduceLE, Int.reduceLT, Int.reduceNeg, Int.reduceToNat, Int.reduceAdd, Int.reduceSub, Int.reduceMul, Int.reduceEq, UInt64.reduceToNat, UInt8.reduceToNat, UInt32.reduceToNat]; rfl) (by first | exact True.intro | (simp only [Obs, and_true, true_and]; omega) | (simp [Obs, AV.sizeL, AV.size, Kd.sz]; done) | (simp [Obs, AV.sizeL, AV.size, Kd.sz]; omega)) ?_)
      refine (Tri.rgn (cfgE_ok.pins _) (by simp (maxSteps := 2000000) (disch := first | decide | omega | (simp only [List.length_append, List.length_cons, List.length_nil, List.length_take, List.length_drop]; omega)) only [Try.f8, kSpeaks, kNew, kBlock, cfgE, tyTab, go_sem, ↓reduceIte, reduceCtorEq, Nat.reduceLT, Nat.reduceSub, Nat.reduceAdd, Nat.reduceMul, Nat.reduceEqDiff, Nat.reduceBEq, Nat.reduceBNe, Nat.reduceLeDiff, Nat.reduceDiv, Nat.reduceMod, Nat.reducePow, List.reduceReplicate, UInt8.reduceOfNat, UInt32.reduceOfNat, UInt64.reduceOfNat, Int.reduceLE, Int.reduceLT, Int.reduceNeg, Int.reduceToNat, Int.reduceAdd, Int.reduceSub, Int.reduceMul, Int.reduceEq, UInt64.reduceToNat, UInt8.reduceToNat, UInt32.reduceToNat]; rfl) (by first | exact True.intro | (simp only [Obs, and_true, true_and]; omega) | (simp [Obs, AV.sizeL, AV.size, Kd.sz]; done) | (simp [Obs, AV.sizeL, AV.size, Kd.sz]; omega)) ?_)
      try simp only [InBlock, Then]
      refine (Tri.rgn (cfgE_ok.pins _) (by simp (maxSteps := 2000000) (disch := first | decide | omega | (simp only [List.length_append, List.length_cons, List.length_nil, List.length_take, List.length_drop]; omega)) only [Try.f8, kSpeaks, kNew, kBlock, cfgE, tyTab, go_sem, ↓reduceIte, reduceCtorEq, Nat.reduceLT, Nat.reduceSub, Nat.reduceAdd, Nat.reduceMul, Nat.reduceEqDiff, Nat.reduceBEq, Nat.reduceBNe, Nat.reduceLeDiff, Nat.reduceDiv, Nat.reduceMod, Nat.reducePow, List.reduceReplicate, UInt8.reduceOfNat, UInt32.reduceOfNat, UInt64.reduceOfNat, Int.reduceLE, Int.reduceLT, Int.reduceNeg, Int.reduceToNat, Int.reduceAdd, Int.reduceSub, Int.reduceMul, Int.reduceEq, UInt64.reduceToNat, UInt8.reduceToNat, UInt32.reduceToNat]; rfl) (by first | exact True.intro | (simp only [Obs, and_true, true_and]; omega) | (simp [Obs, AV.sizeL, AV.size, Kd.sz]; done) | (simp [Obs, AV.sizeL, AV.size, Kd.sz]; omega)) ?_)
      try simp only [InBlock, Then]
      refine ⟨i + 1, (by omega), (by omega), Wk.of ?_ ?_ rfl rfl⟩
      · simp only [lessTs, List.reduceReplicate, List.cons_append, List.nil_append] <;> ((repeat' apply And.intro) <;> first | rfl | trivial)
      · simp only [lessHs, spI] <;> ((repeat' apply And.intro) <;> first | rfl | trivial)
    · refine Tri.exit ?_
      have hc' : i = 16 := by
        have : ¬ (i : Int) < 16 := by simpa using hc
        omega
      subst hc'
      simp only [Then, InBlock, if_true]
      refine Tri.seq (Tri.reg (cfgE_ok.pins _) (by simp (maxSteps := 2000000) (disch := first | decide | omega | (simp only [List.length_append, List.length_cons, List.length_nil, List.length_take, List.length_drop]; omega)) only [Try.f8, kSpeaks, kNew, kBlock, cfgE, tyTab, go_sem, ↓reduceIte, reduceCtorEq, Nat.reduceLT, Nat.reduceSub, Nat.reduceAdd, Nat.reduceMul, Nat.reduceEqDiff, Nat.reduceBEq, Nat.reduceBNe, Nat.reduceLeDiff, Nat.reduceDiv, Nat.reduceMod, Nat.reducePow, List.reduceReplicate, UInt8.reduceOfNat, UInt32.reduceOfNat, UInt64.reduceOfNat, Int.reduceLE, Int.reduceLT, Int.reduceNeg, Int.reduceToNat, Int.reduceAdd, Int.reduceSub, Int.reduceMul, Int.reduceEq, UInt64.reduceToNat, UInt8.reduceToNat, UInt32.reduceToNat]; rfl) (by first | exact True.intro | (simp only [Obs, and_true, true_and]; omega) | (simp [Obs, AV.sizeL, AV.size, Kd.sz]; done) | (simp [Obs, AV.sizeL, AV.size, Kd.sz]; omega)) ?_)
      refine Tri.seq (Tri.seq ?_)
      refine (Tri.rgn (cfgE_ok.pins _) (by simp (maxSteps := 2000000) (disch := first | decide | omega | (simp only [List.length_append, List.length_cons, List.length_nil, List.length_take, List.length_drop]; omega)) only [Try.f8, kSpeaks, kNew, kBlock, cfgE, tyTab, go_sem, ↓reduceIte, reduceCtorEq, Nat.reduceLT, Nat.reduceSub, Nat.reduceAdd, Nat.reduceMul, Nat.reduceEqDiff, Nat.reduceBEq, Nat.reduceBNe, Nat.reduceLeDiff, Nat.reduceDiv, Nat.reduceMod, Nat.reducePow, List.reduceReplicate, UInt8.reduceOfNat, UInt32.reduceOfNat, UInt64.reduceOfNat, Int.reduceLE, Int.reduceLT, Int.reduceNeg, Int.reduceToNat, Int.reduceAdd, Int.reduceSub, Int.reduceMul, Int.reduceEq, UInt64.reduceToNat, UInt8.reduceToNat, UInt32.reduceToNat]; rfl) (by first | exact True.intro | (simp only [Obs, and_true, true_and]; omega) | (simp [Obs, AV.sizeL, AV.size, Kd.sz]; done) | (simp [Obs, AV.sizeL, AV.size, Kd.sz]; omega)) ?_)
      try simp only [InBlock, Then]
      refine Tri.cF rfl (Tri.skp ?_)
      refine Tri.seq (Tri.reg (cfgE_ok.pins _) (by simp (maxSteps := 2000000) (disch := first | decide | omega | (simp only [List.length_append, List.length_cons, List.length_nil, List.length_take, List.length_drop]; omega)) only [Try.f8, kSpeaks, kNew, kBlock, cfgE, tyTab, go_sem, ↓reduceIte, reduceCtorEq, Nat.reduceLT, Nat.reduceSub, Nat.reduceAdd, Nat.reduceMul, Nat.reduceEqDiff, Nat.reduceBEq, Nat.reduceBNe, Nat.reduceLeDiff, Nat.reduceDiv, Nat.reduceMod, Nat.reducePow, List.reduceReplicate, UInt8.reduceOfNat, UInt32.reduceOfNat, UInt64.reduceOfNat, Int.reduceLE, Int.reduceLT, Int.reduceNeg, Int.reduceToNat, Int.reduceAdd, Int.reduceSub, Int.reduceMul, Int.reduceEq, UInt64.reduceToNat, UInt8.reduceToNat, UInt32.reduceToNat]; rfl) (by first | exact True.intro | (simp only [Obs, and_true, true_and]; omega) | (simp [Obs, AV.sizeL, AV.size, Kd.sz]; done) | (simp [Obs, AV.sizeL, AV.size, Kd.sz]; omega)) ?_)
      refine Tri.seq (Tri.reg (cfgE_ok.pins _) (by simp (maxSteps := 2000000) (disch := first | decide | omega | (simp only [List.length_append, List.length_cons, List.length_nil, List.length_take, List.length_drop]; omega)) only [Try.f8, kSpeaks, kNew, kBlock, cfgE, tyTab, go_sem, ↓reduceIte, reduceCtorEq, Nat.reduceLT, Nat.reduceSub, Nat.reduceAdd, Nat.reduceMul, Nat.reduceEqDiff, Nat.reduceBEq, Nat.reduceBNe, Nat.reduceLeDiff, Nat.reduceDiv, Nat.reduceMod, Nat.reducePow, List.reduceReplicate, UInt8.reduceOfNat, UInt32.reduceOfNat, UInt64.reduceOfNat, Int.reduceLE, Int.reduceLT, Int.reduceNeg, Int.reduceToNat, Int.reduceAdd, Int.reduceSub, Int.reduceMul, Int.reduceEq, UInt64.reduceToNat, UInt8.reduceToNat, UInt32.reduceToNat]; rfl) (by first | exact True.intro | (simp only [Obs, and_true, true_and]; omega) | (simp [Obs, AV.sizeL, AV.size, Kd.sz]; done) | (simp [Obs, AV.sizeL, AV.size, Kd.sz]; omega)) ?_)
      refine Tri.ret ?_
      refine Con.fin (.inl rfl) (by simp only [Try.f8, cfgE, tyTab, resA, resA1, go_sem, ↓reduceIte, reduceCtorEq, Nat.reduceLT, Nat.reduceSub, Nat.reduceAdd, Nat.reduceMul, Nat.reduceEqDiff, Nat.reduceBEq, Nat.reduceBNe, Nat.reduceLeDiff, Nat.reduceDiv, Nat.reduceMod, Nat.reducePow, List.reduceReplicate, UInt8.reduceOfNat, UInt32.reduceOfNat, UInt64.reduceOfNat, Int.reduceLE, Int.reduceLT, Int.reduceNeg, Int.reduceToNat, Int.reduceAdd, Int.reduceSub, Int.reduceMul, Int.reduceEq, UInt64.reduceToNat, UInt8.reduceToNat, UInt32.reduceToNat]; rfl) (by simp only [Obs, and_true, true_and]) ?_ trivial rfl rfl
      exact congrArg AV.bool spOut_eq
theorem speaks_sum : FSumOK Try.prog cfgE.G 8 kSpeaks.sum := Con.sumOK cfgE_ok kSpeaks Try.func8 rfl rfl (Con.of_inv _ _ _) speaks_body
end Go.Proofs.Yticgfjalikmniaa

namespace Go.Proofs.Yticgfjalikmniaa
set_option linter.unusedVariables false
set_option linter.unusedSimpArgs false
-- SEM
open Go.Vc Go.Proofs
set_option linter.unusedSimpArgs false
set_option maxRecDepth 10000
set_option maxHeartbeats 4000000
def cfgF : Cfg2 := { ty := tyTab, fn := fun | 8 => some kSpeaks.sum | 9 => some kNew.sum | 10 => some kBlock.sum | 13 => some kStream.sum | _ => none, G := fun _ => none, pin := [], eq := cfgE.eq }
theorem cfgF_ok : CfgOK Try.prog cfgF := ⟨tysOK, (fun f s h => by
  simp only [cfgF] at h
  split at h
  · injection h with h; subst h; exact speaks_sum
  · injection h with h; subst h; exact new_sum
  · injection h with h; subst h; exact block_sum
  · injection h with h; subst h; exact stream_sum
  · cases h), cfgE_eq⟩
/-- A block, encrypted under a key. -/
def enc (key s : List UInt8) : List UInt8 := rndI (newC key).1 (newC key).2.1 s 10
def kApart : Con := Con.of [.v a16, .v a16, .v a16] (fun _ => []) (fun x => ⟨.bool (eqT a16 (enc x.1 x.2.1) (enc x.1 x.2.2.1) == eqT a16 x.2.1 x.2.2.1), [.pure a16 x.1, .pure a16 x.2.1, .pure a16 x.2.2.1]⟩)
theorem apart_body (p : kApart.Par) (hp : ∀ q ∈ kApart.pre p, q) : BodyOK Try.prog cfgF Try.f4 (Try.f4.body.get rfl) kApart p := by
  obtain ⟨(key : List UInt8), (s : List UInt8), (t : List UInt8), u⟩ := p
  refine ⟨?_, Nat.zero_le _, rfl, rfl⟩
  show Tri _ _ _ (Code.seq _ (Code.seq (Code.seq _ (Code.cond _ (Code.seq _ _) _)) (Code.seq _ (Code.seq (Code.seq _ (Code.cond _ (Code.seq _ _) _)) (Code.seq _ _))))) _
  refine Tri.seq (Tri.reg (cfgF_ok.pins _) (by simp (maxSteps := 2000000) (disch := first | decide | omega | (simp only [List.length_append, List.length_cons, List.length_nil, List.length_take, List.length_drop]; omega)) only [Try.f4, kApart, kSpeaks, kNew, kBlock, cfgF, cfgE, tyTab, go_sem, ↓reduceIte, reduceCtorEq, Nat.reduceLT, Nat.reduceSub, Nat.reduceAdd, Nat.reduceMul, Nat.reduceEqDiff, Nat.reduceBEq, Nat.reduceBNe, Nat.reduceLeDiff, Nat.reduceDiv, Nat.reduceMod, Nat.reducePow, List.reduceReplicate, UInt8.reduceOfNat, UInt32.reduceOfNat, UInt64.reduceOfNat, Int.reduceLE, Int.reduceLT, Int.reduceNeg, Int.reduceToNat, Int.reduceAdd, Int.reduceSub, Int.reduceMul, Int.reduceEq, UInt64.reduceToNat, UInt8.reduceToNat, UInt32.reduceToNat]; rfl) (by first | exact True.intro | (simp only [Obs, and_true, true_and]; omega) | (simp [Obs, AV.sizeL, AV.size, Kd.sz]; done) | (simp [Obs, AV.sizeL, AV.size, Kd.sz]; omega)) ?_)
  refine Tri.seq ?_
  refine Tri.seq (Tri.reg (cfgF_ok.pins _) (by simp (maxSteps := 2000000) (disch := first | decide | omega | (simp only [List.length_append, List.length_cons, List.length_nil, List.length_take, List.length_drop]; omega)) only [Try.f4, kApart, kSpeaks, kNew, kBlock, cfgF, cfgE, tyTab, go_sem, ↓reduceIte, reduceCtorEq, Nat.reduceLT, Nat.reduceSub, Nat.reduceAdd, Nat.reduceMul, Nat.reduceEqDiff, Nat.reduceBEq, Nat.reduceBNe, Nat.reduceLeDiff, Nat.reduceDiv, Nat.reduceMod, Nat.reducePow, List.reduceReplicate, UInt8.reduceOfNat, UInt32.reduceOfNat, UInt64.reduceOfNat, Int.reduceLE, Int.reduceLT, Int.reduceNeg, Int.reduceToNat, Int.reduceAdd, Int.reduceSub, Int.reduceMul, Int.reduceEq, UInt64.reduceToNat, UInt8.reduceToNat, UInt32.reduceToNat]; rfl) (by first | exact True.intro | (simp only [Obs, and_true, true_and]; omega) | (simp [Obs, AV.sizeL, AV.size, Kd.sz]; done) | (simp [Obs, AV.sizeL, AV.size, Kd.sz]; omega)) ?_)
  refine Tri.cF rfl (Tri.skp ?_)
  refine Tri.seq (Tri.reg (cfgF_ok.pins _) (by simp (maxSteps := 2000000) (disch := first | decide | omega | (simp only [List.length_append, List.length_cons, List.length_nil, List.length_take, List.length_drop]; omega)) only [Try.f4, kApart, kSpeaks, kNew, kBlock, cfgF, cfgE, tyTab, go_sem, ↓reduceIte, reduceCtorEq, Nat.reduceLT, Nat.reduceSub, Nat.reduceAdd, Nat.reduceMul, Nat.reduceEqDiff, Nat.reduceBEq, Nat.reduceBNe, Nat.reduceLeDiff, Nat.reduceDiv, Nat.reduceMod, Nat.reducePow, List.reduceReplicate, UInt8.reduceOfNat, UInt32.reduceOfNat, UInt64.reduceOfNat, Int.reduceLE, Int.reduceLT, Int.reduceNeg, Int.reduceToNat, Int.reduceAdd, Int.reduceSub, Int.reduceMul, Int.reduceEq, UInt64.reduceToNat, UInt8.reduceToNat, UInt32.reduceToNat]; rfl) (by first | exact True.intro | (simp only [Obs, and_true, true_and]; omega) | (simp [Obs, AV.sizeL, AV.size, Kd.sz]; done) | (simp [Obs, AV.sizeL, AV.size, Kd.sz]; omega)) ?_)
  refine Tri.seq ?_
  refine Tri.seq (Tri.reg (cfgF_ok.pins _) (by simp (maxSteps := 2000000) (disch := first | decide | omega | (simp only [List.length_append, List.length_cons, List.length_nil, List.length_take, List.length_drop]; omega)) only [Try.f4, kApart, kSpeaks, kNew, kBlock, cfgF, cfgE, tyTab, go_sem, ↓reduceIte, reduceCtorEq, Nat.reduceLT, Nat.reduceSub, Nat.reduceAdd, Nat.reduceMul, Nat.reduceEqDiff, Nat.reduceBEq, Nat.reduceBNe, Nat.reduceLeDiff, Nat.reduceDiv, Nat.reduceMod, Nat.reducePow, List.reduceReplicate, UInt8.reduceOfNat, UInt32.reduceOfNat, UInt64.reduceOfNat, Int.reduceLE, Int.reduceLT, Int.reduceNeg, Int.reduceToNat, Int.reduceAdd, Int.reduceSub, Int.reduceMul, Int.reduceEq, UInt64.reduceToNat, UInt8.reduceToNat, UInt32.reduceToNat]; rfl) (by first | exact True.intro | (simp only [Obs, and_true, true_and]; omega) | (simp [Obs, AV.sizeL, AV.size, Kd.sz]; done) | (simp [Obs, AV.sizeL, AV.size, Kd.sz]; omega)) ?_)
  refine Tri.cF rfl (Tri.skp ?_)
  refine Tri.seq (Tri.drw (mixed) (cfgF_ok.pins _) (by simp (maxSteps := 2000000) (disch := first | decide | omega | (simp only [List.length_append, List.length_cons, List.length_nil, List.length_take, List.length_drop]; omega)) only [Try.f4, kApart, kSpeaks, kNew, kBlock, cfgF, cfgE, tyTab, go_sem, ↓reduceIte, reduceCtorEq, Nat.reduceLT, Nat.reduceSub, Nat.reduceAdd, Nat.reduceMul, Nat.reduceEqDiff, Nat.reduceBEq, Nat.reduceBNe, Nat.reduceLeDiff, Nat.reduceDiv, Nat.reduceMod, Nat.reducePow, List.reduceReplicate, UInt8.reduceOfNat, UInt32.reduceOfNat, UInt64.reduceOfNat, Int.reduceLE, Int.reduceLT, Int.reduceNeg, Int.reduceToNat, Int.reduceAdd, Int.reduceSub, Int.reduceMul, Int.reduceEq, UInt64.reduceToNat, UInt8.reduceToNat, UInt32.reduceToNat]; rfl) (by first | exact True.intro | (simp only [Obs, and_true, true_and]; omega) | (simp [Obs, AV.sizeL, AV.size, Kd.sz]; done) | (simp [Obs, AV.sizeL, AV.size, Kd.sz]; omega)) (by kernel_rfl) ?_)
  refine Tri.ret ?_
  refine Con.fin (.inl rfl) (by simp only [Try.f4, cfgF, tyTab, resA, resA1, go_sem, ↓reduceIte, reduceCtorEq, Nat.reduceLT, Nat.reduceSub, Nat.reduceAdd, Nat.reduceMul, Nat.reduceEqDiff, Nat.reduceBEq, Nat.reduceBNe, Nat.reduceLeDiff, Nat.reduceDiv, Nat.reduceMod, Nat.reducePow, List.reduceReplicate, UInt8.reduceOfNat, UInt32.reduceOfNat, UInt64.reduceOfNat, Int.reduceLE, Int.reduceLT, Int.reduceNeg, Int.reduceToNat, Int.reduceAdd, Int.reduceSub, Int.reduceMul, Int.reduceEq, UInt64.reduceToNat, UInt8.reduceToNat, UInt32.reduceToNat]; rfl) (by simp only [Obs, and_true, true_and]) ?_ ?_ rfl rfl
  · rfl
  · simp only [lessHs, kApart, Con.of, List.map] <;> ((repeat' apply And.intro) <;> first | rfl | trivial)
theorem apart_sum : FSumOK Try.prog cfgF.G 4 kApart.sum := Con.sumOK cfgF_ok kApart Try.func4 rfl rfl (Con.of_inv _ _ _) apart_body
end Go.Proofs.Yticgfjalikmniaa

namespace Go.Proofs.Yticgfjalikmniaa
set_option linter.unusedVariables false
set_option linter.unusedSimpArgs false
open Go.Vc Go.Proofs
/-- A number of which only the low 16 bits are taken. -/
theorem and16 (n : Int) : ∃ m : Nat, andT .i64 n 65535 = (m : Int) ∧ m < 65536 := by
  refine ⟨((BitVec.ofInt 64 n) &&& BitVec.ofNat 64 65535).toNat, ?_, ?_⟩
  · show bits .and .i64 n 65535 = _
    show IntKind.i64.wrap ((BitVec.ofInt 64 n &&& BitVec.ofInt 64 65535).toNat : Int) = _
    have h : (BitVec.ofInt 64 n &&& BitVec.ofNat 64 65535).toNat < 65536 := by
      rw [BitVec.toNat_and]
      exact Nat.lt_of_le_of_lt Nat.and_le_right (by decide)
    exact wrapN _ (by
      have : BitVec.ofInt 64 65535 = BitVec.ofNat 64 65535 := by decide
      rw [this]; omega)
  · rw [BitVec.toNat_and]
    exact Nat.lt_of_le_of_lt Nat.and_le_right (by decide)
/-- The key stream's byte at a place. -/
def ksb (box : List UInt8) (keys : List (List UInt8)) (nonce : UInt64) (j : Nat) : List UInt8 := rndI box keys (ctI nonce (UInt64.ofInt ((j / 16 : Nat) : Int)) 8).2.2 10
/-- Data, turned. -/
def stm (box : List UInt8) (keys : List (List UInt8)) (nonce : UInt64) (data : List UInt8) : List UInt8 := data.mapIdx fun j x => x ^^^ (ksb box keys nonce j).getD (j % 16) 0
section
variable {box : List UInt8} {keys : List (List UInt8)} {nonce : UInt64} {data : List UInt8}
theorem stm_len : (stm box keys nonce data).length = data.length := by simp [stm]
theorem stm_take : List.take data.length (stm box keys nonce data) = stm box keys nonce data := List.take_of_length_le (by simp [stm])
theorem stm_stm : stm box keys nonce (stm box keys nonce data) = data := by
  simp only [stm, List.mapIdx_mapIdx]
  apply List.ext_getElem?
  intro i
  simp only [List.getElem?_mapIdx]
  cases data[i]? with
  | none => rfl
  | some x => simp only [Option.map_some, Function.comp, UInt8.xor_assoc, UInt8.xor_self, UInt8.xor_zero]
theorem take_stm (k : Nat) : List.take k (stm box keys nonce data) = stm box keys nonce (List.take k data) := by
  symm
  apply List.ext_getElem?
  intro i
  simp only [stm, List.getElem?_mapIdx, List.getElem?_take]
  split <;> simp
theorem strEq_self (l : List UInt8) : strEq l l = true := decide_eq_true rfl
theorem strI_blk : ∀ i, 0 < i → (strI box keys nonce data i).2 = ksb box keys nonce (i - 1)
  | 0, h => absurd h (by omega)
  | i + 1, _ => by
    show (if i % 16 = 0 then _ else _) = _
    split
    · rfl
    · rename_i h
      have h0 : 0 < i := by omega
      rw [strI_blk i h0]
      have : (i - 1) / 16 = i / 16 := by omega
      simp only [ksb, Nat.add_sub_cancel, this]
theorem strI_len : ∀ i, (strI box keys nonce data i).1.length = data.length
  | 0 => by simp [strI]
  | i + 1 => by simp only [strI, List.length_set]; exact strI_len i
theorem strI_get : ∀ i, i ≤ data.length → ∀ j, (strI box keys nonce data i).1[j]? = if j < i then some (data.getD j 0 ^^^ (ksb box keys nonce j).getD (j % 16) 0) else if j < data.length then some 0 else none
  | 0, _, j => by simp [strI, List.getElem?_replicate]
  | i + 1, hi, j => by
    have hb : (if i % 16 = 0 then rndI box keys (ctI nonce (UInt64.ofInt ((i / 16 : Nat) : Int)) 8).2.2 10 else (strI box keys nonce data i).2) = ksb box keys nonce i := by
      have := strI_blk (box := box) (keys := keys) (nonce := nonce) (data := data) (i + 1) (by omega)
      exact this
    simp only [strI, hb]
    rw [List.getElem?_set]
    rw [strI_get i (by omega) j, strI_len]
    by_cases h1 : i = j
    · subst h1
      rw [if_pos rfl, if_pos (by omega), if_pos (by omega)]
    · rw [if_neg h1]
      by_cases h2 : j < i
      · rw [if_pos h2, if_pos (by omega)]
      · rw [if_neg h2]
        have : ¬ j < i + 1 := by omega
        simp only [if_neg this]
theorem strI_fst : (strI box keys nonce data data.length).1 = stm box keys nonce data := by
  apply List.ext_getElem?
  intro j
  rw [strI_get _ (Nat.le_refl _)]
  simp only [stm, List.getElem?_mapIdx]
  by_cases h : j < data.length
  · rw [if_pos h]
    simp [h, List.getD_eq_getElem?_getD]
  · rw [if_neg h]
    simp [h]
end
end Go.Proofs.Yticgfjalikmniaa

namespace Go.Proofs.Yticgfjalikmniaa
set_option linter.unusedVariables false
set_option linter.unusedSimpArgs false
-- SEM
open Go.Vc Go.Proofs
set_option linter.unusedSimpArgs false
set_option maxRecDepth 10000
set_option maxHeartbeats 4000000
/-- The rounds of a product: two numbers and what is summed. -/
def tmI (a b : Nat) : Nat → Nat × Nat × Nat
  | 0 => (a, b, 0)
  | i + 1 =>
    let s := tmI a b i
    (if 255 < s.1 * 2 then (s.1 * 2) ^^^ 283 else s.1 * 2, s.2.1 / 2, if s.2.1 % 2 = 1 then s.2.2 ^^^ s.1 else s.2.2)
theorem tm_dbl : ∀ x, x < 256 → (if 255 < x * 2 then (x * 2) ^^^ 283 else x * 2) < 256 := by decide +kernel
theorem tmI_lt {a b : Nat} (ha : a < 256) (hb : b < 256) : ∀ i, (tmI a b i).1 < 256 ∧ (tmI a b i).2.1 < 256 ∧ (tmI a b i).2.2 < 256
  | 0 => ⟨ha, hb, by show 0 < 256; omega⟩
  | i + 1 => by
    obtain ⟨h1, h2, h3⟩ := tmI_lt ha hb i
    refine ⟨tm_dbl _ h1, by show (tmI a b i).2.1 / 2 < 256; omega, ?_⟩
    show (if (tmI a b i).2.1 % 2 = 1 then _ else _) < 256
    split
    · exact Nat.xor_lt_two_pow (n := 8) h3 h1
    · exact h3
/-- The product of two bytes. -/
def tms (a b : UInt8) : UInt8 := UInt8.ofInt ((tmI a.toNat b.toNat 8).2.2 : Int)
def kTimes : Con := Con.of [.v (.int .u8), .v (.int .u8)] (fun _ => []) (fun x => ⟨.int .u8 (tms x.1 x.2.1), []⟩)
theorem times_body (p : kTimes.Par) (hp : ∀ q ∈ kTimes.pre p, q) : BodyOK Try.prog cfgA Try.f21 (Try.f21.body.get rfl) kTimes p := by
  obtain ⟨(a : UInt8), (b : UInt8), u⟩ := p
  refine ⟨?_, Nat.zero_le _, rfl, rfl⟩
  have ha := UInt8.toNat_lt a
  have hb := UInt8.toNat_lt b
  show Tri _ _ _ (Code.seq _ (Code.seq _ (Code.seq (Code.seq _ (Code.block _ (Code.loop (Code.seq (Code.seq _ (Code.cond _ _ _)) (Code.seq (Code.block _ (Code.seq (Code.seq _ (Code.cond _ _ _)) (Code.seq _ (Code.seq _ (Code.seq _ (Code.cond _ _ _)))))) _))))) (Code.seq _ _)))) _
  refine Tri.at (by first | (simp only [Try.f21, kTimes, cfgA, tyTab, Con.start, go_sem, ↓reduceIte, reduceCtorEq, Nat.reduceLT, Nat.reduceSub, Nat.reduceAdd, Nat.reduceMul, Nat.reduceEqDiff, Nat.reduceBEq, Nat.reduceBNe, Nat.reduceLeDiff, Nat.reduceDiv, Nat.reduceMod, Nat.reducePow, List.reduceReplicate, UInt8.reduceOfNat, UInt32.reduceOfNat, UInt64.reduceOfNat, Int.reduceLE, Int.reduceLT, Int.reduceNeg, Int.reduceToNat, Int.reduceAdd, Int.reduceSub, Int.reduceMul, Int.reduceEq, UInt64.reduceToNat, UInt8.reduceToNat, UInt32.reduceToNat]; rfl) | rfl) ?_
  refine Tri.seq (Tri.regT (cfgA_ok.pins _) ?_)
  repeat (first | refine RunT.one (by first | exact wantedA_none rfl | (simp only [go_sem, Bool.true_beq, Bool.false_beq]; done) | (simp only [go_sem, Bool.true_beq, Bool.false_beq]; with_reducible rfl)) (by simp (maxSteps := 2000000) (disch := first | decide | omega | (simp only [List.length_append, List.length_cons, List.length_nil, List.length_take, List.length_drop]; omega)) only [Try.f21, kTimes, cfgA, tyTab, go_sem, ↓reduceIte, reduceCtorEq, Nat.reduceLT, Nat.reduceSub, Nat.reduceAdd, Nat.reduceMul, Nat.reduceEqDiff, Nat.reduceBEq, Nat.reduceBNe, Nat.reduceLeDiff, Nat.reduceDiv, Nat.reduceMod, Nat.reducePow, List.reduceReplicate, UInt8.reduceOfNat, UInt32.reduceOfNat, UInt64.reduceOfNat, Int.reduceLE, Int.reduceLT, Int.reduceNeg, Int.reduceToNat, Int.reduceAdd, Int.reduceSub, Int.reduceMul, Int.reduceEq, UInt64.reduceToNat, UInt8.reduceToNat, UInt32.reduceToNat, u64nat, xor64, and64, or64, xor64r, and64r, shr64, shr64l, shl64]; rfl) (by simp only [go_sem, Nat.reduceBEq, Nat.reduceEqDiff, Nat.reduceAdd, ↓reduceIte, reduceCtorEq, List.reduceReplicate, List.replicate]; rfl) (by first | exact True.intro | (simp only [Obs, and_true, true_and]; omega) | (simp [Obs, AV.sizeL, AV.size, Kd.sz]; done) | (simp [Obs, AV.sizeL, AV.size, Kd.sz]; omega)) ?_ | refine RunT.not (by first | (simp only [go_sem, Bool.true_beq, Bool.false_beq]; done) | (simp only [go_sem, Bool.true_beq, Bool.false_beq]; with_reducible rfl)) (by simp only [go_sem, Nat.reduceBEq, Nat.reduceEqDiff, Nat.reduceAdd, ↓reduceIte, reduceCtorEq, List.reduceReplicate, List.replicate]; rfl) ?_)
  refine RunT.nil ?_
  refine Tri.seq (Tri.regT (cfgA_ok.pins _) ?_)
  repeat (first | refine RunT.one (by first | exact wantedA_none rfl | (simp only [go_sem, Bool.true_beq, Bool.false_beq]; done) | (simp only [go_sem, Bool.true_beq, Bool.false_beq]; with_reducible rfl)) (by simp (maxSteps := 2000000) (disch := first | decide | omega | (simp only [List.length_append, List.length_cons, List.length_nil, List.length_take, List.length_drop]; omega)) only [Try.f21, kTimes, cfgA, tyTab, go_sem, ↓reduceIte, reduceCtorEq, Nat.reduceLT, Nat.reduceSub, Nat.reduceAdd, Nat.reduceMul, Nat.reduceEqDiff, Nat.reduceBEq, Nat.reduceBNe, Nat.reduceLeDiff, Nat.reduceDiv, Nat.reduceMod, Nat.reducePow, List.reduceReplicate, UInt8.reduceOfNat, UInt32.reduceOfNat, UInt64.reduceOfNat, Int.reduceLE, Int.reduceLT, Int.reduceNeg, Int.reduceToNat, Int.reduceAdd, Int.reduceSub, Int.reduceMul, Int.reduceEq, UInt64.reduceToNat, UInt8.reduceToNat, UInt32.reduceToNat, u64nat, xor64, and64, or64, xor64r, and64r, shr64, shr64l, shl64]; rfl) (by simp only [go_sem, Nat.reduceBEq, Nat.reduceEqDiff, Nat.reduceAdd, ↓reduceIte, reduceCtorEq, List.reduceReplicate, List.replicate]; rfl) (by first | exact True.intro | (simp only [Obs, and_true, true_and]; omega) | (simp [Obs, AV.sizeL, AV.size, Kd.sz]; done) | (simp [Obs, AV.sizeL, AV.size, Kd.sz]; omega)) ?_ | refine RunT.not (by first | (simp only [go_sem, Bool.true_beq, Bool.false_beq]; done) | (simp only [go_sem, Bool.true_beq, Bool.false_beq]; with_reducible rfl)) (by simp only [go_sem, Nat.reduceBEq, Nat.reduceEqDiff, Nat.reduceAdd, ↓reduceIte, reduceCtorEq, List.reduceReplicate, List.replicate]; rfl) ?_)
  refine RunT.nil ?_
  refine Tri.seq (Tri.seq ?_)
  refine (Tri.rgnT (cfgA_ok.pins _) ?_)
  repeat (first | refine RunT.one (by first | exact wantedA_none rfl | (simp only [go_sem, Bool.true_beq, Bool.false_beq]; done) | (simp only [go_sem, Bool.true_beq, Bool.false_beq]; with_reducible rfl)) (by simp (maxSteps := 2000000) (disch := first | decide | omega | (simp only [List.length_append, List.length_cons, List.length_nil, List.length_take, List.length_drop]; omega)) only [Try.f21, kTimes, cfgA, tyTab, go_sem, ↓reduceIte, reduceCtorEq, Nat.reduceLT, Nat.reduceSub, Nat.reduceAdd, Nat.reduceMul, Nat.reduceEqDiff, Nat.reduceBEq, Nat.reduceBNe, Nat.reduceLeDiff, Nat.reduceDiv, Nat.reduceMod, Nat.reducePow, List.reduceReplicate, UInt8.reduceOfNat, UInt32.reduceOfNat, UInt64.reduceOfNat, Int.reduceLE, Int.reduceLT, Int.reduceNeg, Int.reduceToNat, Int.reduceAdd, Int.reduceSub, Int.reduceMul, Int.reduceEq, UInt64.reduceToNat, UInt8.reduceToNat, UInt32.reduceToNat, u64nat, xor64, and64, or64, xor64r, and64r, shr64, shr64l, shl64]; rfl) (by simp only [go_sem, Nat.reduceBEq, Nat.reduceEqDiff, Nat.reduceAdd, ↓reduceIte, reduceCtorEq, List.reduceReplicate, List.replicate]; rfl) (by first | exact True.intro | (simp only [Obs, and_true, true_and]; omega) | (simp [Obs, AV.sizeL, AV.size, Kd.sz]; done) | (simp [Obs, AV.sizeL, AV.size, Kd.sz]; omega)) ?_ | refine RunT.not (by first | (simp only [go_sem, Bool.true_beq, Bool.false_beq]; done) | (simp only [go_sem, Bool.true_beq, Bool.false_beq]; with_reducible rfl)) (by simp only [go_sem, Nat.reduceBEq, Nat.reduceEqDiff, Nat.reduceAdd, ↓reduceIte, reduceCtorEq, List.reduceReplicate, List.replicate]; rfl) ?_)
  refine RunT.nil ?_
  try simp only [InBlock, Then]
  refine Tri.block ?_
  refine Tri.loop (fun i : Nat => (⟨[none, none, none, none, some (.int .u8 0), some (.int .i64 ((tmI a.toNat b.toNat i).1 : Int)), some (.int .i64 ((tmI a.toNat b.toNat i).2.1 : Int)), some (.int .i64 ((tmI a.toNat b.toNat i).2.2 : Int)), some (.int .i64 (i : Int))] ++ List.replicate 24 none, []⟩ : AS)) (· ≤ 8) (fun k => 8 - k) 0 ?_ (Nat.zero_le _) ?_
  · refine Wk.of ?_ ?_ rfl rfl
    · simp only [lessTs, List.reduceReplicate, List.cons_append, List.nil_append, tmI] <;> ((repeat' apply And.intro) <;> first | rfl | trivial)
    · simp only [lessHs] <;> ((repeat' apply And.intro) <;> first | rfl | trivial)
  · intro i hi
    obtain ⟨hx, hy, hz⟩ := tmI_lt ha hb i
    generalize hs : tmI a.toNat b.toNat i = s at hx hy hz
    refine Tri.seq (Tri.seq ?_)
    refine Tri.at (by first | (simp only [Try.f21, kTimes, cfgA, tyTab, Con.start, go_sem, ↓reduceIte, reduceCtorEq, Nat.reduceLT, Nat.reduceSub, Nat.reduceAdd, Nat.reduceMul, Nat.reduceEqDiff, Nat.reduceBEq, Nat.reduceBNe, Nat.reduceLeDiff, Nat.reduceDiv, Nat.reduceMod, Nat.reducePow, List.reduceReplicate, UInt8.reduceOfNat, UInt32.reduceOfNat, UInt64.reduceOfNat, Int.reduceLE, Int.reduceLT, Int.reduceNeg, Int.reduceToNat, Int.reduceAdd, Int.reduceSub, Int.reduceMul, Int.reduceEq, UInt64.reduceToNat, UInt8.reduceToNat, UInt32.reduceToNat]; rfl) | rfl) ?_
    refine (Tri.rgnT (cfgA_ok.pins _) ?_)
    repeat (first | refine RunT.one (by first | exact wantedA_none rfl | (simp only [go_sem, Bool.true_beq, Bool.false_beq]; done) | (simp only [go_sem, Bool.true_beq, Bool.false_beq]; with_reducible rfl)) (by simp (maxSteps := 2000000) (disch := first | decide | omega | (simp only [List.length_append, List.length_cons, List.length_nil, List.length_take, List.length_drop]; omega)) only [Try.f21, kTimes, cfgA, tyTab, go_sem, ↓reduceIte, reduceCtorEq, Nat.reduceLT, Nat.reduceSub, Nat.reduceAdd, Nat.reduceMul, Nat.reduceEqDiff, Nat.reduceBEq, Nat.reduceBNe, Nat.reduceLeDiff, Nat.reduceDiv, Nat.reduceMod, Nat.reducePow, List.reduceReplicate, UInt8.reduceOfNat, UInt32.reduceOfNat, UInt64.reduceOfNat, Int.reduceLE, Int.reduceLT, Int.reduceNeg, Int.reduceToNat, Int.reduceAdd, Int.reduceSub, Int.reduceMul, Int.reduceEq, UInt64.reduceToNat, UInt8.reduceToNat, UInt32.reduceToNat, u64nat, xor64, and64, or64, xor64r, and64r, shr64, shr64l, shl64]; rfl) (by simp only [go_sem, Nat.reduceBEq, Nat.reduceEqDiff, Nat.reduceAdd, ↓reduceIte, reduceCtorEq, List.reduceReplicate, List.replicate]; rfl) (by first | exact True.intro | (simp only [Obs, and_true, true_and]; omega) | (simp [Obs, AV.sizeL, AV.size, Kd.sz]; done) | (simp [Obs, AV.sizeL, AV.size, Kd.sz]; omega)) ?_ | refine RunT.not (by first | (simp only [go_sem, Bool.true_beq, Bool.false_beq]; done) | (simp only [go_sem, Bool.true_beq, Bool.false_beq]; with_reducible rfl)) (by simp only [go_sem, Nat.reduceBEq, Nat.reduceEqDiff, Nat.reduceAdd, ↓reduceIte, reduceCtorEq, List.reduceReplicate, List.replicate]; rfl) ?_)
    refine RunT.nil ?_
    try simp only [InBlock, Then]
    refine Tri.split (by simp only [AS.ev, go_sem, ↓reduceIte, reduceCtorEq, Nat.reduceLT, Nat.reduceSub, Nat.reduceAdd, Nat.reduceMul, Nat.reduceEqDiff, Nat.reduceBEq, Nat.reduceBNe, Nat.reduceLeDiff, Nat.reduceDiv, Nat.reduceMod, Nat.reducePow, List.reduceReplicate, UInt8.reduceOfNat, UInt32.reduceOfNat, UInt64.reduceOfNat, Int.reduceLE, Int.reduceLT, Int.reduceNeg, Int.reduceToNat, Int.reduceAdd, Int.reduceSub, Int.reduceMul, Int.reduceEq, UInt64.reduceToNat, UInt8.reduceToNat, UInt32.reduceToNat]; rfl) (fun hc => ?_) (fun hc => ?_)
    · have hc' : i < 8 := by
        have : (i : Int) < 8 := by simpa using hc
        omega
      refine Tri.skp ?_
      refine Tri.seq (Tri.block ?_)
      refine Tri.seqWk (fun o : Nat => (⟨[none, none, none, none, some (.int .u8 0), some (.int .i64 (s.1 : Int)), some (.int .i64 (s.2.1 : Int)), some (.int .i64 (o : Int)), some (.int .i64 (i : Int))] ++ List.replicate 24 none, []⟩ : AS)) (fun o => o = (if s.2.1 % 2 = 1 then s.2.2 ^^^ s.1 else s.2.2)) ?_ ?_
      · refine Tri.seq ?_
        refine (Tri.rgnT (cfgA_ok.pins _) ?_)
        repeat (first | refine RunT.one (by first | exact wantedA_none rfl | (simp only [go_sem, Bool.true_beq, Bool.false_beq]; done) | (simp only [go_sem, Bool.true_beq, Bool.false_beq]; with_reducible rfl)) (by simp (maxSteps := 2000000) (disch := first | decide | omega | (simp only [List.length_append, List.length_cons, List.length_nil, List.length_take, List.length_drop]; omega)) only [Try.f21, kTimes, cfgA, tyTab, go_sem, ↓reduceIte, reduceCtorEq, Nat.reduceLT, Nat.reduceSub, Nat.reduceAdd, Nat.reduceMul, Nat.reduceEqDiff, Nat.reduceBEq, Nat.reduceBNe, Nat.reduceLeDiff, Nat.reduceDiv, Nat.reduceMod, Nat.reducePow, List.reduceReplicate, UInt8.reduceOfNat, UInt32.reduceOfNat, UInt64.reduceOfNat, Int.reduceLE, Int.reduceLT, Int.reduceNeg, Int.reduceToNat, Int.reduceAdd, Int.reduceSub, Int.reduceMul, Int.reduceEq, UInt64.reduceToNat, UInt8.reduceToNat, UInt32.reduceToNat, u64nat, xor64, and64, or64, xor64r, and64r, shr64, shr64l, shl64]; rfl) (by simp only [go_sem, Nat.reduceBEq, Nat.reduceEqDiff, Nat.reduceAdd, ↓reduceIte, reduceCtorEq, List.reduceReplicate, List.replicate]; rfl) (by first | exact True.intro | (simp only [Obs, and_true, true_and]; omega) | (simp [Obs, AV.sizeL, AV.size, Kd.sz]; done) | (simp [Obs, AV.sizeL, AV.size, Kd.sz]; omega)) ?_ | refine RunT.not (by first | (simp only [go_sem, Bool.true_beq, Bool.false_beq]; done) | (simp only [go_sem, Bool.true_beq, Bool.false_beq]; with_reducible rfl)) (by simp only [go_sem, Nat.reduceBEq, Nat.reduceEqDiff, Nat.reduceAdd, ↓reduceIte, reduceCtorEq, List.reduceReplicate, List.replicate]; rfl) ?_)
        refine RunT.nil ?_
        try simp only [InBlock, Then]
        refine Tri.split (by simp only [AS.ev, go_sem, ↓reduceIte, reduceCtorEq, Nat.reduceLT, Nat.reduceSub, Nat.reduceAdd, Nat.reduceMul, Nat.reduceEqDiff, Nat.reduceBEq, Nat.reduceBNe, Nat.reduceLeDiff, Nat.reduceDiv, Nat.reduceMod, Nat.reducePow, List.reduceReplicate, UInt8.reduceOfNat, UInt32.reduceOfNat, UInt64.reduceOfNat, Int.reduceLE, Int.reduceLT, Int.reduceNeg, Int.reduceToNat, Int.reduceAdd, Int.reduceSub, Int.reduceMul, Int.reduceEq, UInt64.reduceToNat, UInt8.reduceToNat, UInt32.reduceToNat]; rfl) (fun hd => ?_) (fun hd => ?_)
        · have hd' : s.2.1 % 2 = 1 := by
            have : ((s.2.1 % 2 : Nat) : Int) = 1 := by simpa using hd
            omega
          refine (Tri.rgnT (cfgA_ok.pins _) ?_)
          repeat (first | refine RunT.one (by first | exact wantedA_none rfl | (simp only [go_sem, Bool.true_beq, Bool.false_beq]; done) | (simp only [go_sem, Bool.true_beq, Bool.false_beq]; with_reducible rfl)) (by simp (maxSteps := 2000000) (disch := first | decide | omega | (simp only [List.length_append, List.length_cons, List.length_nil, List.length_take, List.length_drop]; omega)) only [Try.f21, kTimes, cfgA, tyTab, go_sem, ↓reduceIte, reduceCtorEq, Nat.reduceLT, Nat.reduceSub, Nat.reduceAdd, Nat.reduceMul, Nat.reduceEqDiff, Nat.reduceBEq, Nat.reduceBNe, Nat.reduceLeDiff, Nat.reduceDiv, Nat.reduceMod, Nat.reducePow, List.reduceReplicate, UInt8.reduceOfNat, UInt32.reduceOfNat, UInt64.reduceOfNat, Int.reduceLE, Int.reduceLT, Int.reduceNeg, Int.reduceToNat, Int.reduceAdd, Int.reduceSub, Int.reduceMul, Int.reduceEq, UInt64.reduceToNat, UInt8.reduceToNat, UInt32.reduceToNat, u64nat, xor64, and64, or64, xor64r, and64r, shr64, shr64l, shl64]; rfl) (by simp only [go_sem, Nat.reduceBEq, Nat.reduceEqDiff, Nat.reduceAdd, ↓reduceIte, reduceCtorEq, List.reduceReplicate, List.replicate]; rfl) (by first | exact True.intro | (simp only [Obs, and_true, true_and]; omega) | (simp [Obs, AV.sizeL, AV.size, Kd.sz]; done) | (simp [Obs, AV.sizeL, AV.size, Kd.sz]; omega)) ?_ | refine RunT.not (by first | (simp only [go_sem, Bool.true_beq, Bool.false_beq]; done) | (simp only [go_sem, Bool.true_beq, Bool.false_beq]; with_reducible rfl)) (by simp only [go_sem, Nat.reduceBEq, Nat.reduceEqDiff, Nat.reduceAdd, ↓reduceIte, reduceCtorEq, List.reduceReplicate, List.replicate]; rfl) ?_)
          refine RunT.nil ?_
          try simp only [InBlock, Then]
          refine ⟨s.2.2 ^^^ s.1, (if_pos hd').symm, Wk.of ?_ ?_ rfl rfl⟩
          · simp only [lessTs, List.reduceReplicate, List.cons_append, List.nil_append] <;> ((repeat' apply And.intro) <;> first | rfl | trivial)
          · simp only [lessHs] <;> ((repeat' apply And.intro) <;> first | rfl | trivial)
        · have hd' : ¬ s.2.1 % 2 = 1 := by
            have : ¬ ((s.2.1 % 2 : Nat) : Int) = 1 := by simpa using hd
            omega
          refine Tri.skp ?_
          refine ⟨s.2.2, (if_neg hd').symm, Wk.of ?_ ?_ rfl rfl⟩
          · simp only [lessTs, List.reduceReplicate, List.cons_append, List.nil_append] <;> ((repeat' apply And.intro) <;> first | rfl | trivial)
          · simp only [lessHs] <;> ((repeat' apply And.intro) <;> first | rfl | trivial)
      · intro o ho
        refine Tri.at (by first | (simp only [Try.f21, kTimes, cfgA, tyTab, Con.start, go_sem, ↓reduceIte, reduceCtorEq, Nat.reduceLT, Nat.reduceSub, Nat.reduceAdd, Nat.reduceMul, Nat.reduceEqDiff, Nat.reduceBEq, Nat.reduceBNe, Nat.reduceLeDiff, Nat.reduceDiv, Nat.reduceMod, Nat.reducePow, List.reduceReplicate, UInt8.reduceOfNat, UInt32.reduceOfNat, UInt64.reduceOfNat, Int.reduceLE, Int.reduceLT, Int.reduceNeg, Int.reduceToNat, Int.reduceAdd, Int.reduceSub, Int.reduceMul, Int.reduceEq, UInt64.reduceToNat, UInt8.reduceToNat, UInt32.reduceToNat]; rfl) | rfl) ?_
        refine Tri.seq (Tri.regT (cfgA_ok.pins _) ?_)
        repeat (first | refine RunT.one (by first | exact wantedA_none rfl | (simp only [go_sem, Bool.true_beq, Bool.false_beq]; done) | (simp only [go_sem, Bool.true_beq, Bool.false_beq]; with_reducible rfl)) (by simp (maxSteps := 2000000) (disch := first | decide | omega | (simp only [List.length_append, List.length_cons, List.length_nil, List.length_take, List.length_drop]; omega)) only [Try.f21, kTimes, cfgA, tyTab, go_sem, ↓reduceIte, reduceCtorEq, Nat.reduceLT, Nat.reduceSub, Nat.reduceAdd, Nat.reduceMul, Nat.reduceEqDiff, Nat.reduceBEq, Nat.reduceBNe, Nat.reduceLeDiff, Nat.reduceDiv, Nat.reduceMod, Nat.reducePow, List.reduceReplicate, UInt8.reduceOfNat, UInt32.reduceOfNat, UInt64.reduceOfNat, Int.reduceLE, Int.reduceLT, Int.reduceNeg, Int.reduceToNat, Int.reduceAdd, Int.reduceSub, Int.reduceMul, Int.reduceEq, UInt64.reduceToNat, UInt8.reduceToNat, UInt32.reduceToNat, u64nat, xor64, and64, or64, xor64r, and64r, shr64, shr64l, shl64]; rfl) (by simp only [go_sem, Nat.reduceBEq, Nat.reduceEqDiff, Nat.reduceAdd, ↓reduceIte, reduceCtorEq, List.reduceReplicate, List.replicate]; rfl) (by first | exact True.intro | (simp only [Obs, and_true, true_and]; omega) | (simp [Obs, AV.sizeL, AV.size, Kd.sz]; done) | (simp [Obs, AV.sizeL, AV.size, Kd.sz]; omega)) ?_ | refine RunT.not (by first | (simp only [go_sem, Bool.true_beq, Bool.false_beq]; done) | (simp only [go_sem, Bool.true_beq, Bool.false_beq]; with_reducible rfl)) (by simp only [go_sem, Nat.reduceBEq, Nat.reduceEqDiff, Nat.reduceAdd, ↓reduceIte, reduceCtorEq, List.reduceReplicate, List.replicate]; rfl) ?_)
        refine RunT.nil ?_
        refine Tri.seq (Tri.regT (cfgA_ok.pins _) ?_)
        repeat (first | refine RunT.one (by first | exact wantedA_none rfl | (simp only [go_sem, Bool.true_beq, Bool.false_beq]; done) | (simp only [go_sem, Bool.true_beq, Bool.false_beq]; with_reducible rfl)) (by simp (maxSteps := 2000000) (disch := first | decide | omega | (simp only [List.length_append, List.length_cons, List.length_nil, List.length_take, List.length_drop]; omega)) only [Try.f21, kTimes, cfgA, tyTab, go_sem, ↓reduceIte, reduceCtorEq, Nat.reduceLT, Nat.reduceSub, Nat.reduceAdd, Nat.reduceMul, Nat.reduceEqDiff, Nat.reduceBEq, Nat.reduceBNe, Nat.reduceLeDiff, Nat.reduceDiv, Nat.reduceMod, Nat.reducePow, List.reduceReplicate, UInt8.reduceOfNat, UInt32.reduceOfNat, UInt64.reduceOfNat, Int.reduceLE, Int.reduceLT, Int.reduceNeg, Int.reduceToNat, Int.reduceAdd, Int.reduceSub, Int.reduceMul, Int.reduceEq, UInt64.reduceToNat, UInt8.reduceToNat, UInt32.reduceToNat, u64nat, xor64, and64, or64, xor64r, and64r, shr64, shr64l, shl64]; rfl) (by simp only [go_sem, Nat.reduceBEq, Nat.reduceEqDiff, Nat.reduceAdd, ↓reduceIte, reduceCtorEq, List.reduceReplicate, List.replicate]; rfl) (by first | exact True.intro | (simp only [Obs, and_true, true_and]; omega) | (simp [Obs, AV.sizeL, AV.size, Kd.sz]; done) | (simp [Obs, AV.sizeL, AV.size, Kd.sz]; omega)) ?_ | refine RunT.not (by first | (simp only [go_sem, Bool.true_beq, Bool.false_beq]; done) | (simp only [go_sem, Bool.true_beq, Bool.false_beq]; with_reducible rfl)) (by simp only [go_sem, Nat.reduceBEq, Nat.reduceEqDiff, Nat.reduceAdd, ↓reduceIte, reduceCtorEq, List.reduceReplicate, List.replicate]; rfl) ?_)
        refine RunT.nil ?_
        refine Tri.seq (Tri.regT (cfgA_ok.pins _) ?_)
        repeat (first | refine RunT.one (by first | exact wantedA_none rfl | (simp only [go_sem, Bool.true_beq, Bool.false_beq]; done) | (simp only [go_sem, Bool.true_beq, Bool.false_beq]; with_reducible rfl)) (by simp (maxSteps := 2000000) (disch := first | decide | omega | (simp only [List.length_append, List.length_cons, List.length_nil, List.length_take, List.length_drop]; omega)) only [Try.f21, kTimes, cfgA, tyTab, go_sem, ↓reduceIte, reduceCtorEq, Nat.reduceLT, Nat.reduceSub, Nat.reduceAdd, Nat.reduceMul, Nat.reduceEqDiff, Nat.reduceBEq, Nat.reduceBNe, Nat.reduceLeDiff, Nat.reduceDiv, Nat.reduceMod, Nat.reducePow, List.reduceReplicate, UInt8.reduceOfNat, UInt32.reduceOfNat, UInt64.reduceOfNat, Int.reduceLE, Int.reduceLT, Int.reduceNeg, Int.reduceToNat, Int.reduceAdd, Int.reduceSub, Int.reduceMul, Int.reduceEq, UInt64.reduceToNat, UInt8.reduceToNat, UInt32.reduceToNat, u64nat, xor64, and64, or64, xor64r, and64r, shr64, shr64l, shl64]; rfl) (by simp only [go_sem, Nat.reduceBEq, Nat.reduceEqDiff, Nat.reduceAdd, ↓reduceIte, reduceCtorEq, List.reduceReplicate, List.replicate]; rfl) (by first | exact True.intro | (simp only [Obs, and_true, true_and]; omega) | (simp [Obs, AV.sizeL, AV.size, Kd.sz]; done) | (simp [Obs, AV.sizeL, AV.size, Kd.sz]; omega)) ?_ | refine RunT.not (by first | (simp only [go_sem, Bool.true_beq, Bool.false_beq]; done) | (simp only [go_sem, Bool.true_beq, Bool.false_beq]; with_reducible rfl)) (by simp only [go_sem, Nat.reduceBEq, Nat.reduceEqDiff, Nat.reduceAdd, ↓reduceIte, reduceCtorEq, List.reduceReplicate, List.replicate]; rfl) ?_)
        refine RunT.nil ?_
        refine Tri.split (by simp only [AS.ev, go_sem, ↓reduceIte, reduceCtorEq, Nat.reduceLT, Nat.reduceSub, Nat.reduceAdd, Nat.reduceMul, Nat.reduceEqDiff, Nat.reduceBEq, Nat.reduceBNe, Nat.reduceLeDiff, Nat.reduceDiv, Nat.reduceMod, Nat.reducePow, List.reduceReplicate, UInt8.reduceOfNat, UInt32.reduceOfNat, UInt64.reduceOfNat, Int.reduceLE, Int.reduceLT, Int.reduceNeg, Int.reduceToNat, Int.reduceAdd, Int.reduceSub, Int.reduceMul, Int.reduceEq, UInt64.reduceToNat, UInt8.reduceToNat, UInt32.reduceToNat]; rfl) (fun he => ?_) (fun he => ?_)
        · have he' : 255 < s.1 * 2 := by
            have : (255 : Int) < ((s.1 * 2 : Nat) : Int) := by simpa using he
            omega
          refine (Tri.rgnT (cfgA_ok.pins _) ?_)
          repeat (first | refine RunT.one (by first | exact wantedA_none rfl | (simp only [go_sem, Bool.true_beq, Bool.false_beq]; done) | (simp only [go_sem, Bool.true_beq, Bool.false_beq]; with_reducible rfl)) (by simp (maxSteps := 2000000) (disch := first | decide | omega | (simp only [List.length_append, List.length_cons, List.length_nil, List.length_take, List.length_drop]; omega)) only [Try.f21, kTimes, cfgA, tyTab, go_sem, ↓reduceIte, reduceCtorEq, Nat.reduceLT, Nat.reduceSub, Nat.reduceAdd, Nat.reduceMul, Nat.reduceEqDiff, Nat.reduceBEq, Nat.reduceBNe, Nat.reduceLeDiff, Nat.reduceDiv, Nat.reduceMod, Nat.reducePow, List.reduceReplicate, UInt8.reduceOfNat, UInt32.reduceOfNat, UInt64.reduceOfNat, Int.reduceLE, Int.reduceLT, Int.reduceNeg, Int.reduceToNat, Int.reduceAdd, Int.reduceSub, Int.reduceMul, Int.reduceEq, UInt64.reduceToNat, UInt8.reduceToNat, UInt32.reduceToNat, u64nat, xor64, and64, or64, xor64r, and64r, shr64, shr64l, shl64]; rfl) (by simp only [go_sem, Nat.reduceBEq, Nat.reduceEqDiff, Nat.reduceAdd, ↓reduceIte, reduceCtorEq, List.reduceReplicate, List.replicate]; rfl) (by first | exact True.intro | (simp only [Obs, and_true, true_and]; omega) | (simp [Obs, AV.sizeL, AV.size, Kd.sz]; done) | (simp [Obs, AV.sizeL, AV.size, Kd.sz]; omega)) ?_ | refine RunT.not (by first | (simp only [go_sem, Bool.true_beq, Bool.false_beq]; done) | (simp only [go_sem, Bool.true_beq, Bool.false_beq]; with_reducible rfl)) (by simp only [go_sem, Nat.reduceBEq, Nat.reduceEqDiff, Nat.reduceAdd, ↓reduceIte, reduceCtorEq, List.reduceReplicate, List.replicate]; rfl) ?_)
          refine RunT.nil ?_
          try simp only [InBlock, Then]
          refine (Tri.rgnT (cfgA_ok.pins _) ?_)
          repeat (first | refine RunT.one (by first | exact wantedA_none rfl | (simp only [go_sem, Bool.true_beq, Bool.false_beq]; done) | (simp only [go_sem, Bool.true_beq, Bool.false_beq]; with_reducible rfl)) (by simp (maxSteps := 2000000) (disch := first | decide | omega | (simp only [List.length_append, List.length_cons, List.length_nil, List.length_take, List.length_drop]; omega)) only [Try.f21, kTimes, cfgA, tyTab, go_sem, ↓reduceIte, reduceCtorEq, Nat.reduceLT, Nat.reduceSub, Nat.reduceAdd, Nat.reduceMul, Nat.reduceEqDiff, Nat.reduceBEq, Nat.reduceBNe, Nat.reduceLeDiff, Nat.reduceDiv, Nat.reduceMod, Nat.reducePow, List.reduceReplicate, UInt8.reduceOfNat, UInt32.reduceOfNat, UInt64.reduceOfNat, Int.reduceLE, Int.reduceLT, Int.reduceNeg, Int.reduceToNat, Int.reduceAdd, Int.reduceSub, Int.reduceMul, Int.reduceEq, UInt64.reduceToNat, UInt8.reduceToNat, UInt32.reduceToNat, u64nat, xor64, and64, or64, xor64r, and64r, shr64, shr64l, shl64]; rfl) (by simp only [go_sem, Nat.reduceBEq, Nat.reduceEqDiff, Nat.reduceAdd, ↓reduceIte, reduceCtorEq, List.reduceReplicate, List.replicate]; rfl) (by first | exact True.intro | (simp only [Obs, and_true, true_and]; omega) | (simp [Obs, AV.sizeL, AV.size, Kd.sz]; done) | (simp [Obs, AV.sizeL, AV.size, Kd.sz]; omega)) ?_ | refine RunT.not (by first | (simp only [go_sem, Bool.true_beq, Bool.false_beq]; done) | (simp only [go_sem, Bool.true_beq, Bool.false_beq]; with_reducible rfl)) (by simp only [go_sem, Nat.reduceBEq, Nat.reduceEqDiff, Nat.reduceAdd, ↓reduceIte, reduceCtorEq, List.reduceReplicate, List.replicate]; rfl) ?_)
          refine RunT.nil ?_
          try simp only [InBlock, Then]
          refine ⟨i + 1, (by omega), (by omega), Wk.of ?_ ?_ rfl rfl⟩
          · simp only [lessTs, List.reduceReplicate, List.cons_append, List.nil_append, tmI, hs, ho, if_pos he'] <;> ((repeat' apply And.intro) <;> first | rfl | trivial)
          · simp only [lessHs] <;> ((repeat' apply And.intro) <;> first | rfl | trivial)
        · have he' : ¬ 255 < s.1 * 2 := by
            have : ¬ (255 : Int) < ((s.1 * 2 : Nat) : Int) := by simpa using he
            omega
          refine Tri.skip ?_
          simp only [InBlock, Then]
          refine (Tri.rgnT (cfgA_ok.pins _) ?_)
          repeat (first | refine RunT.one (by first | exact wantedA_none rfl | (simp only [go_sem, Bool.true_beq, Bool.false_beq]; done) | (simp only [go_sem, Bool.true_beq, Bool.false_beq]; with_reducible rfl)) (by simp (maxSteps := 2000000) (disch := first | decide | omega | (simp only [List.length_append, List.length_cons, List.length_nil, List.length_take, List.length_drop]; omega)) only [Try.f21, kTimes, cfgA, tyTab, go_sem, ↓reduceIte, reduceCtorEq, Nat.reduceLT, Nat.reduceSub, Nat.reduceAdd, Nat.reduceMul, Nat.reduceEqDiff, Nat.reduceBEq, Nat.reduceBNe, Nat.reduceLeDiff, Nat.reduceDiv, Nat.reduceMod, Nat.reducePow, List.reduceReplicate, UInt8.reduceOfNat, UInt32.reduceOfNat, UInt64.reduceOfNat, Int.reduceLE, Int.reduceLT, Int.reduceNeg, Int.reduceToNat, Int.reduceAdd, Int.reduceSub, Int.reduceMul, Int.reduceEq, UInt64.reduceToNat, UInt8.reduceToNat, UInt32.reduceToNat, u64nat, xor64, and64, or64, xor64r, and64r, shr64, shr64l, shl64]; rfl) (by simp only [go_sem, Nat.reduceBEq, Nat.reduceEqDiff, Nat.reduceAdd, ↓reduceIte, reduceCtorEq, List.reduceReplicate, List.replicate]; rfl) (by first | exact True.intro | (simp only [Obs, and_true, true_and]; omega) | (simp [Obs, AV.sizeL, AV.size, Kd.sz]; done) | (simp [Obs, AV.sizeL, AV.size, Kd.sz]; omega)) ?_ | refine RunT.not (by first | (simp only [go_sem, Bool.true_beq, Bool.false_beq]; done) | (simp only [go_sem, Bool.true_beq, Bool.false_beq]; with_reducible rfl)) (by simp only [go_sem, Nat.reduceBEq, Nat.reduceEqDiff, Nat.reduceAdd, ↓reduceIte, reduceCtorEq, List.reduceReplicate, List.replicate]; rfl) ?_)
          refine RunT.nil ?_
          try simp only [InBlock, Then]
          refine ⟨i + 1, (by omega), (by omega), Wk.of ?_ ?_ rfl rfl⟩
          · simp only [lessTs, List.reduceReplicate, List.cons_append, List.nil_append, tmI, hs, ho, if_neg he'] <;> ((repeat' apply And.intro) <;> first | rfl | trivial)
          · simp only [lessHs] <;> ((repeat' apply And.intro) <;> first | rfl | trivial)
    · refine Tri.exit ?_
      have hc' : i = 8 := by
        have : ¬ (i : Int) < 8 := by simpa using hc
        omega
      subst hc'
      subst hs
      simp only [Then, InBlock, if_true]
      refine Tri.seq (Tri.regT (cfgA_ok.pins _) ?_)
      repeat (first | refine RunT.one (by first | exact wantedA_none rfl | (simp only [go_sem, Bool.true_beq, Bool.false_beq]; done) | (simp only [go_sem, Bool.true_beq, Bool.false_beq]; with_reducible rfl)) (by simp (maxSteps := 2000000) (disch := first | decide | omega | (simp only [List.length_append, List.length_cons, List.length_nil, List.length_take, List.length_drop]; omega)) only [Try.f21, kTimes, cfgA, tyTab, go_sem, ↓reduceIte, reduceCtorEq, Nat.reduceLT, Nat.reduceSub, Nat.reduceAdd, Nat.reduceMul, Nat.reduceEqDiff, Nat.reduceBEq, Nat.reduceBNe, Nat.reduceLeDiff, Nat.reduceDiv, Nat.reduceMod, Nat.reducePow, List.reduceReplicate, UInt8.reduceOfNat, UInt32.reduceOfNat, UInt64.reduceOfNat, Int.reduceLE, Int.reduceLT, Int.reduceNeg, Int.reduceToNat, Int.reduceAdd, Int.reduceSub, Int.reduceMul, Int.reduceEq, UInt64.reduceToNat, UInt8.reduceToNat, UInt32.reduceToNat, u64nat, xor64, and64, or64, xor64r, and64r, shr64, shr64l, shl64]; rfl) (by simp only [go_sem, Nat.reduceBEq, Nat.reduceEqDiff, Nat.reduceAdd, ↓reduceIte, reduceCtorEq, List.reduceReplicate, List.replicate]; rfl) (by first | exact True.intro | (simp only [Obs, and_true, true_and]; omega) | (simp [Obs, AV.sizeL, AV.size, Kd.sz]; done) | (simp [Obs, AV.sizeL, AV.size, Kd.sz]; omega)) ?_ | refine RunT.not (by first | (simp only [go_sem, Bool.true_beq, Bool.false_beq]; done) | (simp only [go_sem, Bool.true_beq, Bool.false_beq]; with_reducible rfl)) (by simp only [go_sem, Nat.reduceBEq, Nat.reduceEqDiff, Nat.reduceAdd, ↓reduceIte, reduceCtorEq, List.reduceReplicate, List.replicate]; rfl) ?_)
      refine RunT.nil ?_
      refine Tri.ret ?_
      refine Con.fin (.inl rfl) (by simp only [Try.f21, cfgA, tyTab, resA, resA1, go_sem, ↓reduceIte, reduceCtorEq, Nat.reduceLT, Nat.reduceSub, Nat.reduceAdd, Nat.reduceMul, Nat.reduceEqDiff, Nat.reduceBEq, Nat.reduceBNe, Nat.reduceLeDiff, Nat.reduceDiv, Nat.reduceMod, Nat.reducePow, List.reduceReplicate, UInt8.reduceOfNat, UInt32.reduceOfNat, UInt64.reduceOfNat, Int.reduceLE, Int.reduceLT, Int.reduceNeg, Int.reduceToNat, Int.reduceAdd, Int.reduceSub, Int.reduceMul, Int.reduceEq, UInt64.reduceToNat, UInt8.reduceToNat, UInt32.reduceToNat]; rfl) (by simp only [Obs, and_true, true_and]) rfl trivial rfl rfl
theorem times_sum : FSumOK Try.prog cfgA.G 21 kTimes.sum := Con.sumOK cfgA_ok kTimes Try.func21 rfl rfl (Con.of_inv _ _ _) times_body
end Go.Proofs.Yticgfjalikmniaa
