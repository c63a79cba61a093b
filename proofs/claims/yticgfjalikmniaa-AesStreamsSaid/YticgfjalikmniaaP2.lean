/- Part of a proof: any data under any key and number are turned as the document says -/
import Derived.Test.YticgfjalikmniaaP1
import Derived.Test.YticgfjalikmniaaVc3
import Derived.ProofKit
namespace Go.Proofs.Yticgfjalikmniaa
set_option linter.unusedVariables false
set_option linter.unusedSimpArgs false
-- SEM
open Go.Vc Go.Proofs
set_option linter.unusedSimpArgs false
set_option maxRecDepth 10000
set_option maxHeartbeats 4000000
/-- The inverse that is looked for, behind so many bytes. -/
def invI (a : Nat) : Nat → UInt8
  | 0 => 0
  | b + 1 => if tms (UInt8.ofInt (a : Int)) (UInt8.ofInt (b : Int)) = 1 then UInt8.ofInt (b : Int) else invI a b
def bitI (inv : UInt8) (i : Nat) : Nat → Nat
  | 0 => (99 / 2 ^ i) &&& 1
  | k + 1 => bitI inv i k ^^^ ((inv.toNat / 2 ^ (if 0 < k then (i + 3 + k) % 8 else i)) &&& 1)
def outI (inv : UInt8) (T : List UInt8) (a : Nat) : Nat → List UInt8
  | 0 => T
  | i + 1 => (outI inv T a i).set a ((outI inv T a i).getD a 0 + UInt8.ofInt ((bitI inv i 5 * 2 ^ i : Nat) : Int))
def tabI : Nat → List UInt8
  | 0 => Kd.dflt a256
  | a + 1 => outI (invI a 256) (tabI a) a 8
theorem bitI_lt (inv : UInt8) (i : Nat) : ∀ k, bitI inv i k < 2
  | 0 => by show (99 / 2 ^ i) &&& 1 < 2; have : (99 / 2 ^ i) &&& 1 ≤ 1 := Nat.and_le_right; omega
  | k + 1 => by
    have h : (inv.toNat / 2 ^ (if 0 < k then (i + 3 + k) % 8 else i)) &&& 1 < 2 := by
      have : (inv.toNat / 2 ^ (if 0 < k then (i + 3 + k) % 8 else i)) &&& 1 ≤ 1 := Nat.and_le_right
      omega
    exact Nat.xor_lt_two_pow (n := 1) (bitI_lt inv i k) h
def kTab : Con := Con.of [] (fun _ => []) (fun _ => ⟨.pure a256 (tabI 256), []⟩)
def cfgRb : Cfg2 := { ty := tyTab, fn := fun | 21 => some kTimes.sum | _ => none, G := fun _ => none, pin := [], eq := fun _ => none }
theorem cfgRb_ok : CfgOK Try.prog cfgRb := ⟨tysOK, (fun f s h => by
  simp only [cfgRb] at h
  split at h
  · injection h with h; subst h; exact times_sum
  · cases h), (fun t d h => by cases h)⟩
theorem tab_body (p : kTab.Par) (hp : ∀ q ∈ kTab.pre p, q) : BodyOK Try.prog cfgRb Try.f20 (Try.f20.body.get rfl) kTab p := by
  refine ⟨?_, Nat.zero_le _, rfl, rfl⟩
  show Tri _ _ _ (Code.seq _ (Code.seq _ (Code.seq (Code.seq _ (Code.block _ (Code.loop (Code.seq (Code.seq _ (Code.cond _ _ _)) (Code.seq (Code.block _ (Code.seq _ (Code.seq (Code.seq _ (Code.block _ (Code.loop (Code.seq (Code.seq _ (Code.cond _ _ _)) (Code.seq (Code.block _ (Code.seq _ (Code.cond _ _ _))) _))))) (Code.seq _ (Code.block _ (Code.loop (Code.seq (Code.seq _ (Code.cond _ _ _)) (Code.seq (Code.block _ (Code.seq _ (Code.seq (Code.seq _ (Code.block _ (Code.loop (Code.seq (Code.seq _ (Code.cond _ _ _)) (Code.seq (Code.block _ (Code.seq _ (Code.seq (Code.seq _ (Code.cond _ _ _)) _))) _))))) _))) _)))))))) _))))) (Code.seq _ _)))) _
  refine Tri.at (by first | (simp only [Try.f20, kTab, kTimes, cfgRb, tyTab, Con.start, go_sem, ↓reduceIte, reduceCtorEq, Nat.reduceLT, Nat.reduceSub, Nat.reduceAdd, Nat.reduceMul, Nat.reduceEqDiff, Nat.reduceBEq, Nat.reduceBNe, Nat.reduceLeDiff, Nat.reduceDiv, Nat.reduceMod, Nat.reducePow, List.reduceReplicate, UInt8.reduceOfNat, UInt32.reduceOfNat, UInt64.reduceOfNat, Int.reduceLE, Int.reduceLT, Int.reduceNeg, Int.reduceToNat, Int.reduceAdd, Int.reduceSub, Int.reduceMul, Int.reduceEq, UInt64.reduceToNat, UInt8.reduceToNat, UInt32.reduceToNat]; rfl) | rfl) ?_
  refine Tri.seq (Tri.regT (cfgRb_ok.pins _) ?_)
  repeat (first | refine RunT.one (by first | exact wantedA_none rfl | (simp only [go_sem, Bool.true_beq, Bool.false_beq]; done) | (simp only [go_sem, Bool.true_beq, Bool.false_beq]; with_reducible rfl)) (by simp (maxSteps := 2000000) (disch := first | decide | omega | (simp only [List.length_append, List.length_cons, List.length_nil, List.length_take, List.length_drop]; omega)) only [Try.f20, kTab, kTimes, cfgRb, tyTab, go_sem, ↓reduceIte, reduceCtorEq, Nat.reduceLT, Nat.reduceSub, Nat.reduceAdd, Nat.reduceMul, Nat.reduceEqDiff, Nat.reduceBEq, Nat.reduceBNe, Nat.reduceLeDiff, Nat.reduceDiv, Nat.reduceMod, Nat.reducePow, List.reduceReplicate, UInt8.reduceOfNat, UInt32.reduceOfNat, UInt64.reduceOfNat, Int.reduceLE, Int.reduceLT, Int.reduceNeg, Int.reduceToNat, Int.reduceAdd, Int.reduceSub, Int.reduceMul, Int.reduceEq, UInt64.reduceToNat, UInt8.reduceToNat, UInt32.reduceToNat, u64nat, xor64, and64, or64, xor64r, and64r, shr64, shr64l, shl64]; rfl) (by simp only [go_sem, Nat.reduceBEq, Nat.reduceEqDiff, Nat.reduceAdd, ↓reduceIte, reduceCtorEq, List.reduceReplicate, List.replicate]; rfl) (by first | exact True.intro | (simp only [Obs, and_true, true_and]; omega) | (simp [Obs, AV.sizeL, AV.size, Kd.sz]; done) | (simp [Obs, AV.sizeL, AV.size, Kd.sz]; omega)) ?_ | refine RunT.not (by first | (simp only [go_sem, Bool.true_beq, Bool.false_beq]; done) | (simp only [go_sem, Bool.true_beq, Bool.false_beq]; with_reducible rfl)) (by simp only [go_sem, Nat.reduceBEq, Nat.reduceEqDiff, Nat.reduceAdd, ↓reduceIte, reduceCtorEq, List.reduceReplicate, List.replicate]; rfl) ?_)
  refine RunT.nil ?_
  refine Tri.seq (Tri.regT (cfgRb_ok.pins _) ?_)
  repeat (first | refine RunT.one (by first | exact wantedA_none rfl | (simp only [go_sem, Bool.true_beq, Bool.false_beq]; done) | (simp only [go_sem, Bool.true_beq, Bool.false_beq]; with_reducible rfl)) (by simp (maxSteps := 2000000) (disch := first | decide | omega | (simp only [List.length_append, List.length_cons, List.length_nil, List.length_take, List.length_drop]; omega)) only [Try.f20, kTab, kTimes, cfgRb, tyTab, go_sem, ↓reduceIte, reduceCtorEq, Nat.reduceLT, Nat.reduceSub, Nat.reduceAdd, Nat.reduceMul, Nat.reduceEqDiff, Nat.reduceBEq, Nat.reduceBNe, Nat.reduceLeDiff, Nat.reduceDiv, Nat.reduceMod, Nat.reducePow, List.reduceReplicate, UInt8.reduceOfNat, UInt32.reduceOfNat, UInt64.reduceOfNat, Int.reduceLE, Int.reduceLT, Int.reduceNeg, Int.reduceToNat, Int.reduceAdd, Int.reduceSub, Int.reduceMul, Int.reduceEq, UInt64.reduceToNat, UInt8.reduceToNat, UInt32.reduceToNat, u64nat, xor64, and64, or64, xor64r, and64r, shr64, shr64l, shl64]; rfl) (by simp only [go_sem, Nat.reduceBEq, Nat.reduceEqDiff, Nat.reduceAdd, ↓reduceIte, reduceCtorEq, List.reduceReplicate, List.replicate]; rfl) (by first | exact True.intro | (simp only [Obs, and_true, true_and]; omega) | (simp [Obs, AV.sizeL, AV.size, Kd.sz]; done) | (simp [Obs, AV.sizeL, AV.size, Kd.sz]; omega)) ?_ | refine RunT.not (by first | (simp only [go_sem, Bool.true_beq, Bool.false_beq]; done) | (simp only [go_sem, Bool.true_beq, Bool.false_beq]; with_reducible rfl)) (by simp only [go_sem, Nat.reduceBEq, Nat.reduceEqDiff, Nat.reduceAdd, ↓reduceIte, reduceCtorEq, List.reduceReplicate, List.replicate]; rfl) ?_)
  refine RunT.nil ?_
  refine Tri.seq (Tri.seq ?_)
  refine (Tri.rgnT (cfgRb_ok.pins _) ?_)
  repeat (first | refine RunT.one (by first | exact wantedA_none rfl | (simp only [go_sem, Bool.true_beq, Bool.false_beq]; done) | (simp only [go_sem, Bool.true_beq, Bool.false_beq]; with_reducible rfl)) (by simp (maxSteps := 2000000) (disch := first | decide | omega | (simp only [List.length_append, List.length_cons, List.length_nil, List.length_take, List.length_drop]; omega)) only [Try.f20, kTab, kTimes, cfgRb, tyTab, go_sem, ↓reduceIte, reduceCtorEq, Nat.reduceLT, Nat.reduceSub, Nat.reduceAdd, Nat.reduceMul, Nat.reduceEqDiff, Nat.reduceBEq, Nat.reduceBNe, Nat.reduceLeDiff, Nat.reduceDiv, Nat.reduceMod, Nat.reducePow, List.reduceReplicate, UInt8.reduceOfNat, UInt32.reduceOfNat, UInt64.reduceOfNat, Int.reduceLE, Int.reduceLT, Int.reduceNeg, Int.reduceToNat, Int.reduceAdd, Int.reduceSub, Int.reduceMul, Int.reduceEq, UInt64.reduceToNat, UInt8.reduceToNat, UInt32.reduceToNat, u64nat, xor64, and64, or64, xor64r, and64r, shr64, shr64l, shl64]; rfl) (by simp only [go_sem, Nat.reduceBEq, Nat.reduceEqDiff, Nat.reduceAdd, ↓reduceIte, reduceCtorEq, List.reduceReplicate, List.replicate]; rfl) (by first | exact True.intro | (simp only [Obs, and_true, true_and]; omega) | (simp [Obs, AV.sizeL, AV.size, Kd.sz]; done) | (simp [Obs, AV.sizeL, AV.size, Kd.sz]; omega)) ?_ | refine RunT.not (by first | (simp only [go_sem, Bool.true_beq, Bool.false_beq]; done) | (simp only [go_sem, Bool.true_beq, Bool.false_beq]; with_reducible rfl)) (by simp only [go_sem, Nat.reduceBEq, Nat.reduceEqDiff, Nat.reduceAdd, ↓reduceIte, reduceCtorEq, List.reduceReplicate, List.replicate]; rfl) ?_)
  refine RunT.nil ?_
  try simp only [InBlock, Then]
  refine Tri.block ?_
  obtain ⟨Z, hZ⟩ : ∃ Z : List UInt8, Z = Kd.dflt a256 := ⟨_, rfl⟩
  refine Tri.loop (fun a : Nat => (⟨[some (.ptr 0 [] 0), some (.ptr 1 [] 0), some (.int .i64 (a : Int))] ++ List.replicate 62 none, [.live (.pure a256 Z), .live (.pure a256 (tabI a))]⟩ : AS)) (· ≤ 256) (fun k => 256 - k) 0 ?_ (Nat.zero_le _) ?_
  · refine Wk.of ?_ ?_ rfl rfl
    · simp only [lessTs, List.reduceReplicate, List.cons_append, List.nil_append, tabI, hZ] <;> ((repeat' apply And.intro) <;> first | rfl | trivial)
    · simp only [lessHs, tabI, hZ] <;> ((repeat' apply And.intro) <;> first | rfl | trivial)
  · intro a ha
    refine Tri.seq (Tri.seq ?_)
    refine Tri.at (by first | (simp only [Try.f20, kTab, kTimes, cfgRb, tyTab, Con.start, go_sem, ↓reduceIte, reduceCtorEq, Nat.reduceLT, Nat.reduceSub, Nat.reduceAdd, Nat.reduceMul, Nat.reduceEqDiff, Nat.reduceBEq, Nat.reduceBNe, Nat.reduceLeDiff, Nat.reduceDiv, Nat.reduceMod, Nat.reducePow, List.reduceReplicate, UInt8.reduceOfNat, UInt32.reduceOfNat, UInt64.reduceOfNat, Int.reduceLE, Int.reduceLT, Int.reduceNeg, Int.reduceToNat, Int.reduceAdd, Int.reduceSub, Int.reduceMul, Int.reduceEq, UInt64.reduceToNat, UInt8.reduceToNat, UInt32.reduceToNat]; rfl) | rfl) ?_
    refine (Tri.rgnT (cfgRb_ok.pins _) ?_)
    repeat (first | refine RunT.one (by first | exact wantedA_none rfl | (simp only [go_sem, Bool.true_beq, Bool.false_beq]; done) | (simp only [go_sem, Bool.true_beq, Bool.false_beq]; with_reducible rfl)) (by simp (maxSteps := 2000000) (disch := first | decide | omega | (simp only [List.length_append, List.length_cons, List.length_nil, List.length_take, List.length_drop]; omega)) only [Try.f20, kTab, kTimes, cfgRb, tyTab, go_sem, ↓reduceIte, reduceCtorEq, Nat.reduceLT, Nat.reduceSub, Nat.reduceAdd, Nat.reduceMul, Nat.reduceEqDiff, Nat.reduceBEq, Nat.reduceBNe, Nat.reduceLeDiff, Nat.reduceDiv, Nat.reduceMod, Nat.reducePow, List.reduceReplicate, UInt8.reduceOfNat, UInt32.reduceOfNat, UInt64.reduceOfNat, Int.reduceLE, Int.reduceLT, Int.reduceNeg, Int.reduceToNat, Int.reduceAdd, Int.reduceSub, Int.reduceMul, Int.reduceEq, UInt64.reduceToNat, UInt8.reduceToNat, UInt32.reduceToNat, u64nat, xor64, and64, or64, xor64r, and64r, shr64, shr64l, shl64]; rfl) (by simp only [go_sem, Nat.reduceBEq, Nat.reduceEqDiff, Nat.reduceAdd, ↓reduceIte, reduceCtorEq, List.reduceReplicate, List.replicate]; rfl) (by first | exact True.intro | (simp only [Obs, and_true, true_and]; omega) | (simp [Obs, AV.sizeL, AV.size, Kd.sz]; done) | (simp [Obs, AV.sizeL, AV.size, Kd.sz]; omega)) ?_ | refine RunT.not (by first | (simp only [go_sem, Bool.true_beq, Bool.false_beq]; done) | (simp only [go_sem, Bool.true_beq, Bool.false_beq]; with_reducible rfl)) (by simp only [go_sem, Nat.reduceBEq, Nat.reduceEqDiff, Nat.reduceAdd, ↓reduceIte, reduceCtorEq, List.reduceReplicate, List.replicate]; rfl) ?_)
    refine RunT.nil ?_
    try simp only [InBlock, Then]
    refine Tri.split (by simp only [AS.ev, go_sem, ↓reduceIte, reduceCtorEq, Nat.reduceLT, Nat.reduceSub, Nat.reduceAdd, Nat.reduceMul, Nat.reduceEqDiff, Nat.reduceBEq, Nat.reduceBNe, Nat.reduceLeDiff, Nat.reduceDiv, Nat.reduceMod, Nat.reducePow, List.reduceReplicate, UInt8.reduceOfNat, UInt32.reduceOfNat, UInt64.reduceOfNat, Int.reduceLE, Int.reduceLT, Int.reduceNeg, Int.reduceToNat, Int.reduceAdd, Int.reduceSub, Int.reduceMul, Int.reduceEq, UInt64.reduceToNat, UInt8.reduceToNat, UInt32.reduceToNat]; rfl) (fun hc => ?_) (fun hc => ?_)
    · have hc' : a < 256 := by have := of_decide_eq_true hc; omega
      refine Tri.skp ?_
      refine Tri.seq (Tri.block ?_)
      refine Tri.seq (Tri.regT (cfgRb_ok.pins _) ?_)
      repeat (first | refine RunT.one (by first | exact wantedA_none rfl | (simp only [go_sem, Bool.true_beq, Bool.false_beq]; done) | (simp only [go_sem, Bool.true_beq, Bool.false_beq]; with_reducible rfl)) (by simp (maxSteps := 2000000) (disch := first | decide | omega | (simp only [List.length_append, List.length_cons, List.length_nil, List.length_take, List.length_drop]; omega)) only [Try.f20, kTab, kTimes, cfgRb, tyTab, go_sem, ↓reduceIte, reduceCtorEq, Nat.reduceLT, Nat.reduceSub, Nat.reduceAdd, Nat.reduceMul, Nat.reduceEqDiff, Nat.reduceBEq, Nat.reduceBNe, Nat.reduceLeDiff, Nat.reduceDiv, Nat.reduceMod, Nat.reducePow, List.reduceReplicate, UInt8.reduceOfNat, UInt32.reduceOfNat, UInt64.reduceOfNat, Int.reduceLE, Int.reduceLT, Int.reduceNeg, Int.reduceToNat, Int.reduceAdd, Int.reduceSub, Int.reduceMul, Int.reduceEq, UInt64.reduceToNat, UInt8.reduceToNat, UInt32.reduceToNat, u64nat, xor64, and64, or64, xor64r, and64r, shr64, shr64l, shl64]; rfl) (by simp only [go_sem, Nat.reduceBEq, Nat.reduceEqDiff, Nat.reduceAdd, ↓reduceIte, reduceCtorEq, List.reduceReplicate, List.replicate]; rfl) (by first | exact True.intro | (simp only [Obs, and_true, true_and]; omega) | (simp [Obs, AV.sizeL, AV.size, Kd.sz]; done) | (simp [Obs, AV.sizeL, AV.size, Kd.sz]; omega)) ?_ | refine RunT.not (by first | (simp only [go_sem, Bool.true_beq, Bool.false_beq]; done) | (simp only [go_sem, Bool.true_beq, Bool.false_beq]; with_reducible rfl)) (by simp only [go_sem, Nat.reduceBEq, Nat.reduceEqDiff, Nat.reduceAdd, ↓reduceIte, reduceCtorEq, List.reduceReplicate, List.replicate]; rfl) ?_)
      refine RunT.nil ?_
      refine Tri.seq (Tri.seq ?_)
      refine (Tri.rgnT (cfgRb_ok.pins _) ?_)
      repeat (first | refine RunT.one (by first | exact wantedA_none rfl | (simp only [go_sem, Bool.true_beq, Bool.false_beq]; done) | (simp only [go_sem, Bool.true_beq, Bool.false_beq]; with_reducible rfl)) (by simp (maxSteps := 2000000) (disch := first | decide | omega | (simp only [List.length_append, List.length_cons, List.length_nil, List.length_take, List.length_drop]; omega)) only [Try.f20, kTab, kTimes, cfgRb, tyTab, go_sem, ↓reduceIte, reduceCtorEq, Nat.reduceLT, Nat.reduceSub, Nat.reduceAdd, Nat.reduceMul, Nat.reduceEqDiff, Nat.reduceBEq, Nat.reduceBNe, Nat.reduceLeDiff, Nat.reduceDiv, Nat.reduceMod, Nat.reducePow, List.reduceReplicate, UInt8.reduceOfNat, UInt32.reduceOfNat, UInt64.reduceOfNat, Int.reduceLE, Int.reduceLT, Int.reduceNeg, Int.reduceToNat, Int.reduceAdd, Int.reduceSub, Int.reduceMul, Int.reduceEq, UInt64.reduceToNat, UInt8.reduceToNat, UInt32.reduceToNat, u64nat, xor64, and64, or64, xor64r, and64r, shr64, shr64l, shl64]; rfl) (by simp only [go_sem, Nat.reduceBEq, Nat.reduceEqDiff, Nat.reduceAdd, ↓reduceIte, reduceCtorEq, List.reduceReplicate, List.replicate]; rfl) (by first | exact True.intro | (simp only [Obs, and_true, true_and]; omega) | (simp [Obs, AV.sizeL, AV.size, Kd.sz]; done) | (simp [Obs, AV.sizeL, AV.size, Kd.sz]; omega)) ?_ | refine RunT.not (by first | (simp only [go_sem, Bool.true_beq, Bool.false_beq]; done) | (simp only [go_sem, Bool.true_beq, Bool.false_beq]; with_reducible rfl)) (by simp only [go_sem, Nat.reduceBEq, Nat.reduceEqDiff, Nat.reduceAdd, ↓reduceIte, reduceCtorEq, List.reduceReplicate, List.replicate]; rfl) ?_)
      refine RunT.nil ?_
      try simp only [InBlock, Then]
      refine Tri.block ?_
      refine Tri.loop (fun b : Nat => (⟨[some (.ptr 0 [] 0), some (.ptr 1 [] 0), some (.int .i64 (a : Int)), some (.int .u8 (invI a b)), some (.int .i64 (b : Int))] ++ List.replicate 60 none, [.live (.pure a256 Z), .live (.pure a256 (tabI a))]⟩ : AS)) (· ≤ 256) (fun k => 256 - k) 0 ?_ (Nat.zero_le _) ?_
      · refine Wk.of ?_ ?_ rfl rfl
        · simp only [lessTs, List.reduceReplicate, List.cons_append, List.nil_append, invI] <;> ((repeat' apply And.intro) <;> first | rfl | trivial)
        · simp only [lessHs, invI] <;> ((repeat' apply And.intro) <;> first | rfl | trivial)
      · intro b hb
        refine Tri.seq (Tri.seq ?_)
        refine Tri.at (by first | (simp only [Try.f20, kTab, kTimes, cfgRb, tyTab, Con.start, go_sem, ↓reduceIte, reduceCtorEq, Nat.reduceLT, Nat.reduceSub, Nat.reduceAdd, Nat.reduceMul, Nat.reduceEqDiff, Nat.reduceBEq, Nat.reduceBNe, Nat.reduceLeDiff, Nat.reduceDiv, Nat.reduceMod, Nat.reducePow, List.reduceReplicate, UInt8.reduceOfNat, UInt32.reduceOfNat, UInt64.reduceOfNat, Int.reduceLE, Int.reduceLT, Int.reduceNeg, Int.reduceToNat, Int.reduceAdd, Int.reduceSub, Int.reduceMul, Int.reduceEq, UInt64.reduceToNat, UInt8.reduceToNat, UInt32.reduceToNat]; rfl) | rfl) ?_
        refine (Tri.rgnT (cfgRb_ok.pins _) ?_)
        repeat (first | refine RunT.one (by first | exact wantedA_none rfl | (simp only [go_sem, Bool.true_beq, Bool.false_beq]; done) | (simp only [go_sem, Bool.true_beq, Bool.false_beq]; with_reducible rfl)) (by simp (maxSteps := 2000000) (disch := first | decide | omega | (simp only [List.length_append, List.length_cons, List.length_nil, List.length_take, List.length_drop]; omega)) only [Try.f20, kTab, kTimes, cfgRb, tyTab, go_sem, ↓reduceIte, reduceCtorEq, Nat.reduceLT, Nat.reduceSub, Nat.reduceAdd, Nat.reduceMul, Nat.reduceEqDiff, Nat.reduceBEq, Nat.reduceBNe, Nat.reduceLeDiff, Nat.reduceDiv, Nat.reduceMod, Nat.reducePow, List.reduceReplicate, UInt8.reduceOfNat, UInt32.reduceOfNat, UInt64.reduceOfNat, Int.reduceLE, Int.reduceLT, Int.reduceNeg, Int.reduceToNat, Int.reduceAdd, Int.reduceSub, Int.reduceMul, Int.reduceEq, UInt64.reduceToNat, UInt8.reduceToNat, UInt32.reduceToNat, u64nat, xor64, and64, or64, xor64r, and64r, shr64, shr64l, shl64]; rfl) (by simp only [go_sem, Nat.reduceBEq, Nat.reduceEqDiff, Nat.reduceAdd, ↓reduceIte, reduceCtorEq, List.reduceReplicate, List.replicate]; rfl) (by first | exact True.intro | (simp only [Obs, and_true, true_and]; omega) | (simp [Obs, AV.sizeL, AV.size, Kd.sz]; done) | (simp [Obs, AV.sizeL, AV.size, Kd.sz]; omega)) ?_ | refine RunT.not (by first | (simp only [go_sem, Bool.true_beq, Bool.false_beq]; done) | (simp only [go_sem, Bool.true_beq, Bool.false_beq]; with_reducible rfl)) (by simp only [go_sem, Nat.reduceBEq, Nat.reduceEqDiff, Nat.reduceAdd, ↓reduceIte, reduceCtorEq, List.reduceReplicate, List.replicate]; rfl) ?_)
        refine RunT.nil ?_
        try simp only [InBlock, Then]
        refine Tri.split (by simp only [AS.ev, go_sem, ↓reduceIte, reduceCtorEq, Nat.reduceLT, Nat.reduceSub, Nat.reduceAdd, Nat.reduceMul, Nat.reduceEqDiff, Nat.reduceBEq, Nat.reduceBNe, Nat.reduceLeDiff, Nat.reduceDiv, Nat.reduceMod, Nat.reducePow, List.reduceReplicate, UInt8.reduceOfNat, UInt32.reduceOfNat, UInt64.reduceOfNat, Int.reduceLE, Int.reduceLT, Int.reduceNeg, Int.reduceToNat, Int.reduceAdd, Int.reduceSub, Int.reduceMul, Int.reduceEq, UInt64.reduceToNat, UInt8.reduceToNat, UInt32.reduceToNat]; rfl) (fun hd => ?_) (fun hd => ?_)
        · have hd' : b < 256 := by have := of_decide_eq_true hd; omega
          refine Tri.skp ?_
          refine Tri.seq (Tri.block ?_)
          refine Tri.seq (Tri.regT (cfgRb_ok.pins _) ?_)
          repeat (first | refine RunT.one (by first | exact wantedA_none rfl | (simp only [go_sem, Bool.true_beq, Bool.false_beq]; done) | (simp only [go_sem, Bool.true_beq, Bool.false_beq]; with_reducible rfl)) (by simp (maxSteps := 2000000) (disch := first | decide | omega | (simp only [List.length_append, List.length_cons, List.length_nil, List.length_take, List.length_drop]; omega)) only [Try.f20, kTab, kTimes, cfgRb, tyTab, go_sem, ↓reduceIte, reduceCtorEq, Nat.reduceLT, Nat.reduceSub, Nat.reduceAdd, Nat.reduceMul, Nat.reduceEqDiff, Nat.reduceBEq, Nat.reduceBNe, Nat.reduceLeDiff, Nat.reduceDiv, Nat.reduceMod, Nat.reducePow, List.reduceReplicate, UInt8.reduceOfNat, UInt32.reduceOfNat, UInt64.reduceOfNat, Int.reduceLE, Int.reduceLT, Int.reduceNeg, Int.reduceToNat, Int.reduceAdd, Int.reduceSub, Int.reduceMul, Int.reduceEq, UInt64.reduceToNat, UInt8.reduceToNat, UInt32.reduceToNat, u64nat, xor64, and64, or64, xor64r, and64r, shr64, shr64l, shl64]; rfl) (by simp only [go_sem, Nat.reduceBEq, Nat.reduceEqDiff, Nat.reduceAdd, ↓reduceIte, reduceCtorEq, List.reduceReplicate, List.replicate]; rfl) (by first | exact True.intro | (simp only [Obs, and_true, true_and]; omega) | (simp [Obs, AV.sizeL, AV.size, Kd.sz]; done) | (simp [Obs, AV.sizeL, AV.size, Kd.sz]; omega)) ?_ | refine RunT.not (by first | (simp only [go_sem, Bool.true_beq, Bool.false_beq]; done) | (simp only [go_sem, Bool.true_beq, Bool.false_beq]; with_reducible rfl)) (by simp only [go_sem, Nat.reduceBEq, Nat.reduceEqDiff, Nat.reduceAdd, ↓reduceIte, reduceCtorEq, List.reduceReplicate, List.replicate]; rfl) ?_)
          refine RunT.nil ?_
          refine Tri.split (by simp only [AS.ev, go_sem, ↓reduceIte, reduceCtorEq, Nat.reduceLT, Nat.reduceSub, Nat.reduceAdd, Nat.reduceMul, Nat.reduceEqDiff, Nat.reduceBEq, Nat.reduceBNe, Nat.reduceLeDiff, Nat.reduceDiv, Nat.reduceMod, Nat.reducePow, List.reduceReplicate, UInt8.reduceOfNat, UInt32.reduceOfNat, UInt64.reduceOfNat, Int.reduceLE, Int.reduceLT, Int.reduceNeg, Int.reduceToNat, Int.reduceAdd, Int.reduceSub, Int.reduceMul, Int.reduceEq, UInt64.reduceToNat, UInt8.reduceToNat, UInt32.reduceToNat]; rfl) (fun he => ?_) (fun he => ?_)
          · have he' : tms (UInt8.ofInt (a : Int)) (UInt8.ofInt (b : Int)) = 1 := of_decide_eq_true he
            refine (Tri.rgnT (cfgRb_ok.pins _) ?_)
            repeat (first | refine RunT.one (by first | exact wantedA_none rfl | (simp only [go_sem, Bool.true_beq, Bool.false_beq]; done) | (simp only [go_sem, Bool.true_beq, Bool.false_beq]; with_reducible rfl)) (by simp (maxSteps := 2000000) (disch := first | decide | omega | (simp only [List.length_append, List.length_cons, List.length_nil, List.length_take, List.length_drop]; omega)) only [Try.f20, kTab, kTimes, cfgRb, tyTab, go_sem, ↓reduceIte, reduceCtorEq, Nat.reduceLT, Nat.reduceSub, Nat.reduceAdd, Nat.reduceMul, Nat.reduceEqDiff, Nat.reduceBEq, Nat.reduceBNe, Nat.reduceLeDiff, Nat.reduceDiv, Nat.reduceMod, Nat.reducePow, List.reduceReplicate, UInt8.reduceOfNat, UInt32.reduceOfNat, UInt64.reduceOfNat, Int.reduceLE, Int.reduceLT, Int.reduceNeg, Int.reduceToNat, Int.reduceAdd, Int.reduceSub, Int.reduceMul, Int.reduceEq, UInt64.reduceToNat, UInt8.reduceToNat, UInt32.reduceToNat, u64nat, xor64, and64, or64, xor64r, and64r, shr64, shr64l, shl64]; rfl) (by simp only [go_sem, Nat.reduceBEq, Nat.reduceEqDiff, Nat.reduceAdd, ↓reduceIte, reduceCtorEq, List.reduceReplicate, List.replicate]; rfl) (by first | exact True.intro | (simp only [Obs, and_true, true_and]; omega) | (simp [Obs, AV.sizeL, AV.size, Kd.sz]; done) | (simp [Obs, AV.sizeL, AV.size, Kd.sz]; omega)) ?_ | refine RunT.not (by first | (simp only [go_sem, Bool.true_beq, Bool.false_beq]; done) | (simp only [go_sem, Bool.true_beq, Bool.false_beq]; with_reducible rfl)) (by simp only [go_sem, Nat.reduceBEq, Nat.reduceEqDiff, Nat.reduceAdd, ↓reduceIte, reduceCtorEq, List.reduceReplicate, List.replicate]; rfl) ?_)
            refine RunT.nil ?_
            try simp only [InBlock, Then]
            refine (Tri.rgnT (cfgRb_ok.pins _) ?_)
            repeat (first | refine RunT.one (by first | exact wantedA_none rfl | (simp only [go_sem, Bool.true_beq, Bool.false_beq]; done) | (simp only [go_sem, Bool.true_beq, Bool.false_beq]; with_reducible rfl)) (by simp (maxSteps := 2000000) (disch := first | decide | omega | (simp only [List.length_append, List.length_cons, List.length_nil, List.length_take, List.length_drop]; omega)) only [Try.f20, kTab, kTimes, cfgRb, tyTab, go_sem, ↓reduceIte, reduceCtorEq, Nat.reduceLT, Nat.reduceSub, Nat.reduceAdd, Nat.reduceMul, Nat.reduceEqDiff, Nat.reduceBEq, Nat.reduceBNe, Nat.reduceLeDiff, Nat.reduceDiv, Nat.reduceMod, Nat.reducePow, List.reduceReplicate, UInt8.reduceOfNat, UInt32.reduceOfNat, UInt64.reduceOfNat, Int.reduceLE, Int.reduceLT, Int.reduceNeg, Int.reduceToNat, Int.reduceAdd, Int.reduceSub, Int.reduceMul, Int.reduceEq, UInt64.reduceToNat, UInt8.reduceToNat, UInt32.reduceToNat, u64nat, xor64, and64, or64, xor64r, and64r, shr64, shr64l, shl64]; rfl) (by simp only [go_sem, Nat.reduceBEq, Nat.reduceEqDiff, Nat.reduceAdd, ↓reduceIte, reduceCtorEq, List.reduceReplicate, List.replicate]; rfl) (by first | exact True.intro | (simp only [Obs, and_true, true_and]; omega) | (simp [Obs, AV.sizeL, AV.size, Kd.sz]; done) | (simp [Obs, AV.sizeL, AV.size, Kd.sz]; omega)) ?_ | refine RunT.not (by first | (simp only [go_sem, Bool.true_beq, Bool.false_beq]; done) | (simp only [go_sem, Bool.true_beq, Bool.false_beq]; with_reducible rfl)) (by simp only [go_sem, Nat.reduceBEq, Nat.reduceEqDiff, Nat.reduceAdd, ↓reduceIte, reduceCtorEq, List.reduceReplicate, List.replicate]; rfl) ?_)
            refine RunT.nil ?_
            try simp only [InBlock, Then]
            refine ⟨b+1, (by omega), (by omega), Wk.of ?_ ?_ rfl rfl⟩
            · simp only [lessTs, List.reduceReplicate, List.cons_append, List.nil_append, invI, if_pos he'] <;> ((repeat' apply And.intro) <;> first | rfl | trivial)
            · simp only [lessHs, invI, if_pos he'] <;> ((repeat' apply And.intro) <;> first | rfl | trivial)
          · have he' : ¬ tms (UInt8.ofInt (a : Int)) (UInt8.ofInt (b : Int)) = 1 := of_decide_eq_false he
            refine Tri.skip ?_
            simp only [InBlock, Then]
            refine (Tri.rgnT (cfgRb_ok.pins _) ?_)
            repeat (first | refine RunT.one (by first | exact wantedA_none rfl | (simp only [go_sem, Bool.true_beq, Bool.false_beq]; done) | (simp only [go_sem, Bool.true_beq, Bool.false_beq]; with_reducible rfl)) (by simp (maxSteps := 2000000) (disch := first | decide | omega | (simp only [List.length_append, List.length_cons, List.length_nil, List.length_take, List.length_drop]; omega)) only [Try.f20, kTab, kTimes, cfgRb, tyTab, go_sem, ↓reduceIte, reduceCtorEq, Nat.reduceLT, Nat.reduceSub, Nat.reduceAdd, Nat.reduceMul, Nat.reduceEqDiff, Nat.reduceBEq, Nat.reduceBNe, Nat.reduceLeDiff, Nat.reduceDiv, Nat.reduceMod, Nat.reducePow, List.reduceReplicate, UInt8.reduceOfNat, UInt32.reduceOfNat, UInt64.reduceOfNat, Int.reduceLE, Int.reduceLT, Int.reduceNeg, Int.reduceToNat, Int.reduceAdd, Int.reduceSub, Int.reduceMul, Int.reduceEq, UInt64.reduceToNat, UInt8.reduceToNat, UInt32.reduceToNat, u64nat, xor64, and64, or64, xor64r, and64r, shr64, shr64l, shl64]; rfl) (by simp only [go_sem, Nat.reduceBEq, Nat.reduceEqDiff, Nat.reduceAdd, ↓reduceIte, reduceCtorEq, List.reduceReplicate, List.replicate]; rfl) (by first | exact True.intro | (simp only [Obs, and_true, true_and]; omega) | (simp [Obs, AV.sizeL, AV.size, Kd.sz]; done) | (simp [Obs, AV.sizeL, AV.size, Kd.sz]; omega)) ?_ | refine RunT.not (by first | (simp only [go_sem, Bool.true_beq, Bool.false_beq]; done) | (simp only [go_sem, Bool.true_beq, Bool.false_beq]; with_reducible rfl)) (by simp only [go_sem, Nat.reduceBEq, Nat.reduceEqDiff, Nat.reduceAdd, ↓reduceIte, reduceCtorEq, List.reduceReplicate, List.replicate]; rfl) ?_)
            refine RunT.nil ?_
            try simp only [InBlock, Then]
            refine ⟨b+1, (by omega), (by omega), Wk.of ?_ ?_ rfl rfl⟩
            · simp only [lessTs, List.reduceReplicate, List.cons_append, List.nil_append, invI, if_neg he'] <;> ((repeat' apply And.intro) <;> first | rfl | trivial)
            · simp only [lessHs, invI, if_neg he'] <;> ((repeat' apply And.intro) <;> first | rfl | trivial)
        · have hd' : b = 256 := by have := of_decide_eq_false hd; omega
          subst hd'
          refine Tri.exit ?_
          simp only [Then, InBlock, if_true]
          generalize hinv : invI a 256 = inv
          generalize hT : tabI a = T
          refine Tri.at (by first | (simp only [Try.f20, kTab, kTimes, cfgRb, tyTab, Con.start, go_sem, ↓reduceIte, reduceCtorEq, Nat.reduceLT, Nat.reduceSub, Nat.reduceAdd, Nat.reduceMul, Nat.reduceEqDiff, Nat.reduceBEq, Nat.reduceBNe, Nat.reduceLeDiff, Nat.reduceDiv, Nat.reduceMod, Nat.reducePow, List.reduceReplicate, UInt8.reduceOfNat, UInt32.reduceOfNat, UInt64.reduceOfNat, Int.reduceLE, Int.reduceLT, Int.reduceNeg, Int.reduceToNat, Int.reduceAdd, Int.reduceSub, Int.reduceMul, Int.reduceEq, UInt64.reduceToNat, UInt8.reduceToNat, UInt32.reduceToNat]; rfl) | rfl) ?_
          refine Tri.seq (Tri.regT (cfgRb_ok.pins _) ?_)
          repeat (first | refine RunT.one (by first | exact wantedA_none rfl | (simp only [go_sem, Bool.true_beq, Bool.false_beq]; done) | (simp only [go_sem, Bool.true_beq, Bool.false_beq]; with_reducible rfl)) (by simp (maxSteps := 2000000) (disch := first | decide | omega | (simp only [List.length_append, List.length_cons, List.length_nil, List.length_take, List.length_drop]; omega)) only [Try.f20, kTab, kTimes, cfgRb, tyTab, go_sem, ↓reduceIte, reduceCtorEq, Nat.reduceLT, Nat.reduceSub, Nat.reduceAdd, Nat.reduceMul, Nat.reduceEqDiff, Nat.reduceBEq, Nat.reduceBNe, Nat.reduceLeDiff, Nat.reduceDiv, Nat.reduceMod, Nat.reducePow, List.reduceReplicate, UInt8.reduceOfNat, UInt32.reduceOfNat, UInt64.reduceOfNat, Int.reduceLE, Int.reduceLT, Int.reduceNeg, Int.reduceToNat, Int.reduceAdd, Int.reduceSub, Int.reduceMul, Int.reduceEq, UInt64.reduceToNat, UInt8.reduceToNat, UInt32.reduceToNat, u64nat, xor64, and64, or64, xor64r, and64r, shr64, shr64l, shl64]; rfl) (by simp only [go_sem, Nat.reduceBEq, Nat.reduceEqDiff, Nat.reduceAdd, ↓reduceIte, reduceCtorEq, List.reduceReplicate, List.replicate]; rfl) (by first | exact True.intro | (simp only [Obs, and_true, true_and]; omega) | (simp [Obs, AV.sizeL, AV.size, Kd.sz]; done) | (simp [Obs, AV.sizeL, AV.size, Kd.sz]; omega)) ?_ | refine RunT.not (by first | (simp only [go_sem, Bool.true_beq, Bool.false_beq]; done) | (simp only [go_sem, Bool.true_beq, Bool.false_beq]; with_reducible rfl)) (by simp only [go_sem, Nat.reduceBEq, Nat.reduceEqDiff, Nat.reduceAdd, ↓reduceIte, reduceCtorEq, List.reduceReplicate, List.replicate]; rfl) ?_)
          refine RunT.nil ?_
          refine Tri.block ?_
          refine Tri.loop (fun i : Nat => (⟨[some (.ptr 0 [] 0), some (.ptr 1 [] 0), some (.int .i64 (a : Int)), some (.int .u8 inv), none, some (.int .i64 (i : Int))] ++ List.replicate 59 none, [.live (.pure a256 Z), .live (.pure a256 (outI inv T a i))]⟩ : AS)) (· ≤ 8) (fun k => 8 - k) 0 ?_ (Nat.zero_le _) ?_
          · refine Wk.of ?_ ?_ rfl rfl
            · simp only [lessTs, List.reduceReplicate, List.cons_append, List.nil_append, outI] <;> ((repeat' apply And.intro) <;> first | rfl | trivial)
            · simp only [lessHs, outI] <;> ((repeat' apply And.intro) <;> first | rfl | trivial)
          · intro i hi
            refine Tri.seq (Tri.seq ?_)
            refine Tri.at (by first | (simp only [Try.f20, kTab, kTimes, cfgRb, tyTab, Con.start, go_sem, ↓reduceIte, reduceCtorEq, Nat.reduceLT, Nat.reduceSub, Nat.reduceAdd, Nat.reduceMul, Nat.reduceEqDiff, Nat.reduceBEq, Nat.reduceBNe, Nat.reduceLeDiff, Nat.reduceDiv, Nat.reduceMod, Nat.reducePow, List.reduceReplicate, UInt8.reduceOfNat, UInt32.reduceOfNat, UInt64.reduceOfNat, Int.reduceLE, Int.reduceLT, Int.reduceNeg, Int.reduceToNat, Int.reduceAdd, Int.reduceSub, Int.reduceMul, Int.reduceEq, UInt64.reduceToNat, UInt8.reduceToNat, UInt32.reduceToNat]; rfl) | rfl) ?_
            refine (Tri.rgnT (cfgRb_ok.pins _) ?_)
            repeat (first | refine RunT.one (by first | exact wantedA_none rfl | (simp only [go_sem, Bool.true_beq, Bool.false_beq]; done) | (simp only [go_sem, Bool.true_beq, Bool.false_beq]; with_reducible rfl)) (by simp (maxSteps := 2000000) (disch := first | decide | omega | (simp only [List.length_append, List.length_cons, List.length_nil, List.length_take, List.length_drop]; omega)) only [Try.f20, kTab, kTimes, cfgRb, tyTab, go_sem, ↓reduceIte, reduceCtorEq, Nat.reduceLT, Nat.reduceSub, Nat.reduceAdd, Nat.reduceMul, Nat.reduceEqDiff, Nat.reduceBEq, Nat.reduceBNe, Nat.reduceLeDiff, Nat.reduceDiv, Nat.reduceMod, Nat.reducePow, List.reduceReplicate, UInt8.reduceOfNat, UInt32.reduceOfNat, UInt64.reduceOfNat, Int.reduceLE, Int.reduceLT, Int.reduceNeg, Int.reduceToNat, Int.reduceAdd, Int.reduceSub, Int.reduceMul, Int.reduceEq, UInt64.reduceToNat, UInt8.reduceToNat, UInt32.reduceToNat, u64nat, xor64, and64, or64, xor64r, and64r, shr64, shr64l, shl64]; rfl) (by simp only [go_sem, Nat.reduceBEq, Nat.reduceEqDiff, Nat.reduceAdd, ↓reduceIte, reduceCtorEq, List.reduceReplicate, List.replicate]; rfl) (by first | exact True.intro | (simp only [Obs, and_true, true_and]; omega) | (simp [Obs, AV.sizeL, AV.size, Kd.sz]; done) | (simp [Obs, AV.sizeL, AV.size, Kd.sz]; omega)) ?_ | refine RunT.not (by first | (simp only [go_sem, Bool.true_beq, Bool.false_beq]; done) | (simp only [go_sem, Bool.true_beq, Bool.false_beq]; with_reducible rfl)) (by simp only [go_sem, Nat.reduceBEq, Nat.reduceEqDiff, Nat.reduceAdd, ↓reduceIte, reduceCtorEq, List.reduceReplicate, List.replicate]; rfl) ?_)
            refine RunT.nil ?_
            try simp only [InBlock, Then]
            refine Tri.split (by simp only [AS.ev, go_sem, ↓reduceIte, reduceCtorEq, Nat.reduceLT, Nat.reduceSub, Nat.reduceAdd, Nat.reduceMul, Nat.reduceEqDiff, Nat.reduceBEq, Nat.reduceBNe, Nat.reduceLeDiff, Nat.reduceDiv, Nat.reduceMod, Nat.reducePow, List.reduceReplicate, UInt8.reduceOfNat, UInt32.reduceOfNat, UInt64.reduceOfNat, Int.reduceLE, Int.reduceLT, Int.reduceNeg, Int.reduceToNat, Int.reduceAdd, Int.reduceSub, Int.reduceMul, Int.reduceEq, UInt64.reduceToNat, UInt8.reduceToNat, UInt32.reduceToNat]; rfl) (fun hf => ?_) (fun hf => ?_)
            · have hf' : i < 8 := by have := of_decide_eq_true hf; omega
              have h99 : 99 / 2 ^ i ≤ 99 := Nat.div_le_self _ _
              refine Tri.skp ?_
              refine Tri.seq (Tri.block ?_)
              refine Tri.seq (Tri.regT (cfgRb_ok.pins _) ?_)
              repeat (first | refine RunT.one (by first | exact wantedA_none rfl | (simp only [go_sem, Bool.true_beq, Bool.false_beq]; done) | (simp only [go_sem, Bool.true_beq, Bool.false_beq]; with_reducible rfl)) (by simp (maxSteps := 2000000) (disch := first | decide | omega | (simp only [List.length_append, List.length_cons, List.length_nil, List.length_take, List.length_drop]; omega)) only [Try.f20, kTab, kTimes, cfgRb, tyTab, go_sem, ↓reduceIte, reduceCtorEq, Nat.reduceLT, Nat.reduceSub, Nat.reduceAdd, Nat.reduceMul, Nat.reduceEqDiff, Nat.reduceBEq, Nat.reduceBNe, Nat.reduceLeDiff, Nat.reduceDiv, Nat.reduceMod, Nat.reducePow, List.reduceReplicate, UInt8.reduceOfNat, UInt32.reduceOfNat, UInt64.reduceOfNat, Int.reduceLE, Int.reduceLT, Int.reduceNeg, Int.reduceToNat, Int.reduceAdd, Int.reduceSub, Int.reduceMul, Int.reduceEq, UInt64.reduceToNat, UInt8.reduceToNat, UInt32.reduceToNat, u64nat, xor64, and64, or64, xor64r, and64r, shr64, shr64l, shl64]; rfl) (by simp only [go_sem, Nat.reduceBEq, Nat.reduceEqDiff, Nat.reduceAdd, ↓reduceIte, reduceCtorEq, List.reduceReplicate, List.replicate]; rfl) (by first | exact True.intro | (simp only [Obs, and_true, true_and]; omega) | (simp [Obs, AV.sizeL, AV.size, Kd.sz]; done) | (simp [Obs, AV.sizeL, AV.size, Kd.sz]; omega)) ?_ | refine RunT.not (by first | (simp only [go_sem, Bool.true_beq, Bool.false_beq]; done) | (simp only [go_sem, Bool.true_beq, Bool.false_beq]; with_reducible rfl)) (by simp only [go_sem, Nat.reduceBEq, Nat.reduceEqDiff, Nat.reduceAdd, ↓reduceIte, reduceCtorEq, List.reduceReplicate, List.replicate]; rfl) ?_)
              refine RunT.nil ?_
              refine Tri.seq ?_
              refine Tri.seq (Tri.regT (cfgRb_ok.pins _) ?_)
              repeat (first | refine RunT.one (by first | exact wantedA_none rfl | (simp only [go_sem, Bool.true_beq, Bool.false_beq]; done) | (simp only [go_sem, Bool.true_beq, Bool.false_beq]; with_reducible rfl)) (by simp (maxSteps := 2000000) (disch := first | decide | omega | (simp only [List.length_append, List.length_cons, List.length_nil, List.length_take, List.length_drop]; omega)) only [Try.f20, kTab, kTimes, cfgRb, tyTab, go_sem, ↓reduceIte, reduceCtorEq, Nat.reduceLT, Nat.reduceSub, Nat.reduceAdd, Nat.reduceMul, Nat.reduceEqDiff, Nat.reduceBEq, Nat.reduceBNe, Nat.reduceLeDiff, Nat.reduceDiv, Nat.reduceMod, Nat.reducePow, List.reduceReplicate, UInt8.reduceOfNat, UInt32.reduceOfNat, UInt64.reduceOfNat, Int.reduceLE, Int.reduceLT, Int.reduceNeg, Int.reduceToNat, Int.reduceAdd, Int.reduceSub, Int.reduceMul, Int.reduceEq, UInt64.reduceToNat, UInt8.reduceToNat, UInt32.reduceToNat, u64nat, xor64, and64, or64, xor64r, and64r, shr64, shr64l, shl64]; rfl) (by simp only [go_sem, Nat.reduceBEq, Nat.reduceEqDiff, Nat.reduceAdd, ↓reduceIte, reduceCtorEq, List.reduceReplicate, List.replicate]; rfl) (by first | exact True.intro | (simp only [Obs, and_true, true_and]; omega) | (simp [Obs, AV.sizeL, AV.size, Kd.sz]; done) | (simp [Obs, AV.sizeL, AV.size, Kd.sz]; omega)) ?_ | refine RunT.not (by first | (simp only [go_sem, Bool.true_beq, Bool.false_beq]; done) | (simp only [go_sem, Bool.true_beq, Bool.false_beq]; with_reducible rfl)) (by simp only [go_sem, Nat.reduceBEq, Nat.reduceEqDiff, Nat.reduceAdd, ↓reduceIte, reduceCtorEq, List.reduceReplicate, List.replicate]; rfl) ?_)
              refine RunT.nil ?_
              refine Tri.block ?_
              refine Tri.loop (fun k : Nat => (⟨[some (.ptr 0 [] 0), some (.ptr 1 [] 0), some (.int .i64 (a : Int)), some (.int .u8 inv), none, some (.int .i64 (i : Int)), some (.int .i64 (bitI inv i k : Int)), some (.int .i64 (k : Int))] ++ List.replicate 57 none, [.live (.pure a256 Z), .live (.pure a256 (outI inv T a i))]⟩ : AS)) (· ≤ 5) (fun k => 5 - k) 0 ?_ (Nat.zero_le _) ?_
              · refine Wk.of ?_ ?_ rfl rfl
                · simp only [lessTs, List.reduceReplicate, List.cons_append, List.nil_append, bitI] <;> ((repeat' apply And.intro) <;> first | rfl | trivial)
                · simp only [lessHs, bitI] <;> ((repeat' apply And.intro) <;> first | rfl | trivial)
              · intro k hk
                refine Tri.seq (Tri.seq ?_)
                refine Tri.at (by first | (simp only [Try.f20, kTab, kTimes, cfgRb, tyTab, Con.start, go_sem, ↓reduceIte, reduceCtorEq, Nat.reduceLT, Nat.reduceSub, Nat.reduceAdd, Nat.reduceMul, Nat.reduceEqDiff, Nat.reduceBEq, Nat.reduceBNe, Nat.reduceLeDiff, Nat.reduceDiv, Nat.reduceMod, Nat.reducePow, List.reduceReplicate, UInt8.reduceOfNat, UInt32.reduceOfNat, UInt64.reduceOfNat, Int.reduceLE, Int.reduceLT, Int.reduceNeg, Int.reduceToNat, Int.reduceAdd, Int.reduceSub, Int.reduceMul, Int.reduceEq, UInt64.reduceToNat, UInt8.reduceToNat, UInt32.reduceToNat]; rfl) | rfl) ?_
                refine (Tri.rgnT (cfgRb_ok.pins _) ?_)
                repeat (first | refine RunT.one (by first | exact wantedA_none rfl | (simp only [go_sem, Bool.true_beq, Bool.false_beq]; done) | (simp only [go_sem, Bool.true_beq, Bool.false_beq]; with_reducible rfl)) (by simp (maxSteps := 2000000) (disch := first | decide | omega | (simp only [List.length_append, List.length_cons, List.length_nil, List.length_take, List.length_drop]; omega)) only [Try.f20, kTab, kTimes, cfgRb, tyTab, go_sem, ↓reduceIte, reduceCtorEq, Nat.reduceLT, Nat.reduceSub, Nat.reduceAdd, Nat.reduceMul, Nat.reduceEqDiff, Nat.reduceBEq, Nat.reduceBNe, Nat.reduceLeDiff, Nat.reduceDiv, Nat.reduceMod, Nat.reducePow, List.reduceReplicate, UInt8.reduceOfNat, UInt32.reduceOfNat, UInt64.reduceOfNat, Int.reduceLE, Int.reduceLT, Int.reduceNeg, Int.reduceToNat, Int.reduceAdd, Int.reduceSub, Int.reduceMul, Int.reduceEq, UInt64.reduceToNat, UInt8.reduceToNat, UInt32.reduceToNat, u64nat, xor64, and64, or64, xor64r, and64r, shr64, shr64l, shl64]; rfl) (by simp only [go_sem, Nat.reduceBEq, Nat.reduceEqDiff, Nat.reduceAdd, ↓reduceIte, reduceCtorEq, List.reduceReplicate, List.replicate]; rfl) (by first | exact True.intro | (simp only [Obs, and_true, true_and]; omega) | (simp [Obs, AV.sizeL, AV.size, Kd.sz]; done) | (simp [Obs, AV.sizeL, AV.size, Kd.sz]; omega)) ?_ | refine RunT.not (by first | (simp only [go_sem, Bool.true_beq, Bool.false_beq]; done) | (simp only [go_sem, Bool.true_beq, Bool.false_beq]; with_reducible rfl)) (by simp only [go_sem, Nat.reduceBEq, Nat.reduceEqDiff, Nat.reduceAdd, ↓reduceIte, reduceCtorEq, List.reduceReplicate, List.replicate]; rfl) ?_)
                refine RunT.nil ?_
                try simp only [InBlock, Then]
                refine Tri.split (by simp only [AS.ev, go_sem, ↓reduceIte, reduceCtorEq, Nat.reduceLT, Nat.reduceSub, Nat.reduceAdd, Nat.reduceMul, Nat.reduceEqDiff, Nat.reduceBEq, Nat.reduceBNe, Nat.reduceLeDiff, Nat.reduceDiv, Nat.reduceMod, Nat.reducePow, List.reduceReplicate, UInt8.reduceOfNat, UInt32.reduceOfNat, UInt64.reduceOfNat, Int.reduceLE, Int.reduceLT, Int.reduceNeg, Int.reduceToNat, Int.reduceAdd, Int.reduceSub, Int.reduceMul, Int.reduceEq, UInt64.reduceToNat, UInt8.reduceToNat, UInt32.reduceToNat]; rfl) (fun hg => ?_) (fun hg => ?_)
                · have hg' : k < 5 := by have := of_decide_eq_true hg; omega
                  have hbit := bitI_lt inv i k
                  have hinv8 := UInt8.toNat_lt inv
                  refine Tri.skp ?_
                  refine Tri.seq (Tri.block ?_)
                  refine Tri.seq (Tri.regT (cfgRb_ok.pins _) ?_)
                  repeat (first | refine RunT.one (by first | exact wantedA_none rfl | (simp only [go_sem, Bool.true_beq, Bool.false_beq]; done) | (simp only [go_sem, Bool.true_beq, Bool.false_beq]; with_reducible rfl)) (by simp (maxSteps := 2000000) (disch := first | decide | omega | (simp only [List.length_append, List.length_cons, List.length_nil, List.length_take, List.length_drop]; omega)) only [Try.f20, kTab, kTimes, cfgRb, tyTab, go_sem, ↓reduceIte, reduceCtorEq, Nat.reduceLT, Nat.reduceSub, Nat.reduceAdd, Nat.reduceMul, Nat.reduceEqDiff, Nat.reduceBEq, Nat.reduceBNe, Nat.reduceLeDiff, Nat.reduceDiv, Nat.reduceMod, Nat.reducePow, List.reduceReplicate, UInt8.reduceOfNat, UInt32.reduceOfNat, UInt64.reduceOfNat, Int.reduceLE, Int.reduceLT, Int.reduceNeg, Int.reduceToNat, Int.reduceAdd, Int.reduceSub, Int.reduceMul, Int.reduceEq, UInt64.reduceToNat, UInt8.reduceToNat, UInt32.reduceToNat, u64nat, xor64, and64, or64, xor64r, and64r, shr64, shr64l, shl64]; rfl) (by simp only [go_sem, Nat.reduceBEq, Nat.reduceEqDiff, Nat.reduceAdd, ↓reduceIte, reduceCtorEq, List.reduceReplicate, List.replicate]; rfl) (by first | exact True.intro | (simp only [Obs, and_true, true_and]; omega) | (simp [Obs, AV.sizeL, AV.size, Kd.sz]; done) | (simp [Obs, AV.sizeL, AV.size, Kd.sz]; omega)) ?_ | refine RunT.not (by first | (simp only [go_sem, Bool.true_beq, Bool.false_beq]; done) | (simp only [go_sem, Bool.true_beq, Bool.false_beq]; with_reducible rfl)) (by simp only [go_sem, Nat.reduceBEq, Nat.reduceEqDiff, Nat.reduceAdd, ↓reduceIte, reduceCtorEq, List.reduceReplicate, List.replicate]; rfl) ?_)
                  refine RunT.nil ?_
                  refine Tri.seqWk (fun fr : Nat => (⟨[some (.ptr 0 [] 0), some (.ptr 1 [] 0), some (.int .i64 (a : Int)), some (.int .u8 inv), none, some (.int .i64 (i : Int)), some (.int .i64 (bitI inv i k : Int)), some (.int .i64 (k : Int)), some (.int .i64 (fr : Int))] ++ List.replicate 56 none, [.live (.pure a256 Z), .live (.pure a256 (outI inv T a i))]⟩ : AS)) (fun fr => fr = (if 0 < k then (i + 3 + k) % 8 else i)) ?_ ?_
                  · refine Tri.seq ?_
                    refine (Tri.rgnT (cfgRb_ok.pins _) ?_)
                    repeat (first | refine RunT.one (by first | exact wantedA_none rfl | (simp only [go_sem, Bool.true_beq, Bool.false_beq]; done) | (simp only [go_sem, Bool.true_beq, Bool.false_beq]; with_reducible rfl)) (by simp (maxSteps := 2000000) (disch := first | decide | omega | (simp only [List.length_append, List.length_cons, List.length_nil, List.length_take, List.length_drop]; omega)) only [Try.f20, kTab, kTimes, cfgRb, tyTab, go_sem, ↓reduceIte, reduceCtorEq, Nat.reduceLT, Nat.reduceSub, Nat.reduceAdd, Nat.reduceMul, Nat.reduceEqDiff, Nat.reduceBEq, Nat.reduceBNe, Nat.reduceLeDiff, Nat.reduceDiv, Nat.reduceMod, Nat.reducePow, List.reduceReplicate, UInt8.reduceOfNat, UInt32.reduceOfNat, UInt64.reduceOfNat, Int.reduceLE, Int.reduceLT, Int.reduceNeg, Int.reduceToNat, Int.reduceAdd, Int.reduceSub, Int.reduceMul, Int.reduceEq, UInt64.reduceToNat, UInt8.reduceToNat, UInt32.reduceToNat, u64nat, xor64, and64, or64, xor64r, and64r, shr64, shr64l, shl64]; rfl) (by simp only [go_sem, Nat.reduceBEq, Nat.reduceEqDiff, Nat.reduceAdd, ↓reduceIte, reduceCtorEq, List.reduceReplicate, List.replicate]; rfl) (by first | exact True.intro | (simp only [Obs, and_true, true_and]; omega) | (simp [Obs, AV.sizeL, AV.size, Kd.sz]; done) | (simp [Obs, AV.sizeL, AV.size, Kd.sz]; omega)) ?_ | refine RunT.not (by first | (simp only [go_sem, Bool.true_beq, Bool.false_beq]; done) | (simp only [go_sem, Bool.true_beq, Bool.false_beq]; with_reducible rfl)) (by simp only [go_sem, Nat.reduceBEq, Nat.reduceEqDiff, Nat.reduceAdd, ↓reduceIte, reduceCtorEq, List.reduceReplicate, List.replicate]; rfl) ?_)
                    refine RunT.nil ?_
                    try simp only [InBlock, Then]
                    refine Tri.split (by simp only [AS.ev, go_sem, ↓reduceIte, reduceCtorEq, Nat.reduceLT, Nat.reduceSub, Nat.reduceAdd, Nat.reduceMul, Nat.reduceEqDiff, Nat.reduceBEq, Nat.reduceBNe, Nat.reduceLeDiff, Nat.reduceDiv, Nat.reduceMod, Nat.reducePow, List.reduceReplicate, UInt8.reduceOfNat, UInt32.reduceOfNat, UInt64.reduceOfNat, Int.reduceLE, Int.reduceLT, Int.reduceNeg, Int.reduceToNat, Int.reduceAdd, Int.reduceSub, Int.reduceMul, Int.reduceEq, UInt64.reduceToNat, UInt8.reduceToNat, UInt32.reduceToNat]; rfl) (fun hz => ?_) (fun hz => ?_)
                    · have hz' : 0 < k := by have := of_decide_eq_true hz; omega
                      refine (Tri.rgnT (cfgRb_ok.pins _) ?_)
                      repeat (first | refine RunT.one (by first | exact wantedA_none rfl | (simp only [go_sem, Bool.true_beq, Bool.false_beq]; done) | (simp only [go_sem, Bool.true_beq, Bool.false_beq]; with_reducible rfl)) (by simp (maxSteps := 2000000) (disch := first | decide | omega | (simp only [List.length_append, List.length_cons, List.length_nil, List.length_take, List.length_drop]; omega)) only [Try.f20, kTab, kTimes, cfgRb, tyTab, go_sem, ↓reduceIte, reduceCtorEq, Nat.reduceLT, Nat.reduceSub, Nat.reduceAdd, Nat.reduceMul, Nat.reduceEqDiff, Nat.reduceBEq, Nat.reduceBNe, Nat.reduceLeDiff, Nat.reduceDiv, Nat.reduceMod, Nat.reducePow, List.reduceReplicate, UInt8.reduceOfNat, UInt32.reduceOfNat, UInt64.reduceOfNat, Int.reduceLE, Int.reduceLT, Int.reduceNeg, Int.reduceToNat, Int.reduceAdd, Int.reduceSub, Int.reduceMul, Int.reduceEq, UInt64.reduceToNat, UInt8.reduceToNat, UInt32.reduceToNat, u64nat, xor64, and64, or64, xor64r, and64r, shr64, shr64l, shl64]; rfl) (by simp only [go_sem, Nat.reduceBEq, Nat.reduceEqDiff, Nat.reduceAdd, ↓reduceIte, reduceCtorEq, List.reduceReplicate, List.replicate]; rfl) (by first | exact True.intro | (simp only [Obs, and_true, true_and]; omega) | (simp [Obs, AV.sizeL, AV.size, Kd.sz]; done) | (simp [Obs, AV.sizeL, AV.size, Kd.sz]; omega)) ?_ | refine RunT.not (by first | (simp only [go_sem, Bool.true_beq, Bool.false_beq]; done) | (simp only [go_sem, Bool.true_beq, Bool.false_beq]; with_reducible rfl)) (by simp only [go_sem, Nat.reduceBEq, Nat.reduceEqDiff, Nat.reduceAdd, ↓reduceIte, reduceCtorEq, List.reduceReplicate, List.replicate]; rfl) ?_)
                      refine RunT.nil ?_
                      try simp only [InBlock, Then]
                      refine ⟨(i + 3 + k) % 8, (if_pos hz').symm, ?_⟩
                      refine Wk.of ?_ ?_ rfl rfl
                      · simp only [lessTs, List.reduceReplicate, List.cons_append, List.nil_append] <;> ((repeat' apply And.intro) <;> first | rfl | trivial)
                      · simp only [lessHs] <;> ((repeat' apply And.intro) <;> first | rfl | trivial)
                    · have hz' : ¬ 0 < k := by have := of_decide_eq_false hz; omega
                      refine Tri.skp ?_
                      refine ⟨i, (if_neg hz').symm, ?_⟩
                      refine Wk.of ?_ ?_ rfl rfl
                      · simp only [lessTs, List.reduceReplicate, List.cons_append, List.nil_append] <;> ((repeat' apply And.intro) <;> first | rfl | trivial)
                      · simp only [lessHs] <;> ((repeat' apply And.intro) <;> first | rfl | trivial)
                  · intro fr hfr
                    have hfr8 : fr < 8 := by
                      rw [hfr]; split <;> omega
                    have hq : inv.toNat / 2 ^ fr < 256 := Nat.lt_of_le_of_lt (Nat.div_le_self _ _) (by omega)
                    have hw : (inv.toNat / 2 ^ fr) &&& 1 < 2 := by
                      have : (inv.toNat / 2 ^ fr) &&& 1 ≤ 1 := Nat.and_le_right
                      omega
                    refine Tri.at (by first | (simp only [Try.f20, kTab, kTimes, cfgRb, tyTab, Con.start, go_sem, ↓reduceIte, reduceCtorEq, Nat.reduceLT, Nat.reduceSub, Nat.reduceAdd, Nat.reduceMul, Nat.reduceEqDiff, Nat.reduceBEq, Nat.reduceBNe, Nat.reduceLeDiff, Nat.reduceDiv, Nat.reduceMod, Nat.reducePow, List.reduceReplicate, UInt8.reduceOfNat, UInt32.reduceOfNat, UInt64.reduceOfNat, Int.reduceLE, Int.reduceLT, Int.reduceNeg, Int.reduceToNat, Int.reduceAdd, Int.reduceSub, Int.reduceMul, Int.reduceEq, UInt64.reduceToNat, UInt8.reduceToNat, UInt32.reduceToNat]; rfl) | rfl) ?_
                    refine (Tri.rgnT (cfgRb_ok.pins _) ?_)
                    repeat (first | refine RunT.one (by first | exact wantedA_none rfl | (simp only [go_sem, Bool.true_beq, Bool.false_beq]; done) | (simp only [go_sem, Bool.true_beq, Bool.false_beq]; with_reducible rfl)) (by simp (maxSteps := 2000000) (disch := first | decide | omega | (simp only [List.length_append, List.length_cons, List.length_nil, List.length_take, List.length_drop]; omega)) only [Try.f20, kTab, kTimes, cfgRb, tyTab, go_sem, ↓reduceIte, reduceCtorEq, Nat.reduceLT, Nat.reduceSub, Nat.reduceAdd, Nat.reduceMul, Nat.reduceEqDiff, Nat.reduceBEq, Nat.reduceBNe, Nat.reduceLeDiff, Nat.reduceDiv, Nat.reduceMod, Nat.reducePow, List.reduceReplicate, UInt8.reduceOfNat, UInt32.reduceOfNat, UInt64.reduceOfNat, Int.reduceLE, Int.reduceLT, Int.reduceNeg, Int.reduceToNat, Int.reduceAdd, Int.reduceSub, Int.reduceMul, Int.reduceEq, UInt64.reduceToNat, UInt8.reduceToNat, UInt32.reduceToNat, u64nat, xor64, and64, or64, xor64r, and64r, shr64, shr64l, shl64]; rfl) (by simp only [go_sem, Nat.reduceBEq, Nat.reduceEqDiff, Nat.reduceAdd, ↓reduceIte, reduceCtorEq, List.reduceReplicate, List.replicate]; rfl) (by first | exact True.intro | (simp only [Obs, and_true, true_and]; omega) | (simp [Obs, AV.sizeL, AV.size, Kd.sz]; done) | (simp [Obs, AV.sizeL, AV.size, Kd.sz]; omega)) ?_ | refine RunT.not (by first | (simp only [go_sem, Bool.true_beq, Bool.false_beq]; done) | (simp only [go_sem, Bool.true_beq, Bool.false_beq]; with_reducible rfl)) (by simp only [go_sem, Nat.reduceBEq, Nat.reduceEqDiff, Nat.reduceAdd, ↓reduceIte, reduceCtorEq, List.reduceReplicate, List.replicate]; rfl) ?_)
                    refine RunT.nil ?_
                    try simp only [InBlock, Then]
                    refine (Tri.rgnT (cfgRb_ok.pins _) ?_)
                    repeat (first | refine RunT.one (by first | exact wantedA_none rfl | (simp only [go_sem, Bool.true_beq, Bool.false_beq]; done) | (simp only [go_sem, Bool.true_beq, Bool.false_beq]; with_reducible rfl)) (by simp (maxSteps := 2000000) (disch := first | decide | omega | (simp only [List.length_append, List.length_cons, List.length_nil, List.length_take, List.length_drop]; omega)) only [Try.f20, kTab, kTimes, cfgRb, tyTab, go_sem, ↓reduceIte, reduceCtorEq, Nat.reduceLT, Nat.reduceSub, Nat.reduceAdd, Nat.reduceMul, Nat.reduceEqDiff, Nat.reduceBEq, Nat.reduceBNe, Nat.reduceLeDiff, Nat.reduceDiv, Nat.reduceMod, Nat.reducePow, List.reduceReplicate, UInt8.reduceOfNat, UInt32.reduceOfNat, UInt64.reduceOfNat, Int.reduceLE, Int.reduceLT, Int.reduceNeg, Int.reduceToNat, Int.reduceAdd, Int.reduceSub, Int.reduceMul, Int.reduceEq, UInt64.reduceToNat, UInt8.reduceToNat, UInt32.reduceToNat, u64nat, xor64, and64, or64, xor64r, and64r, shr64, shr64l, shl64]; rfl) (by simp only [go_sem, Nat.reduceBEq, Nat.reduceEqDiff, Nat.reduceAdd, ↓reduceIte, reduceCtorEq, List.reduceReplicate, List.replicate]; rfl) (by first | exact True.intro | (simp only [Obs, and_true, true_and]; omega) | (simp [Obs, AV.sizeL, AV.size, Kd.sz]; done) | (simp [Obs, AV.sizeL, AV.size, Kd.sz]; omega)) ?_ | refine RunT.not (by first | (simp only [go_sem, Bool.true_beq, Bool.false_beq]; done) | (simp only [go_sem, Bool.true_beq, Bool.false_beq]; with_reducible rfl)) (by simp only [go_sem, Nat.reduceBEq, Nat.reduceEqDiff, Nat.reduceAdd, ↓reduceIte, reduceCtorEq, List.reduceReplicate, List.replicate]; rfl) ?_)
                    refine RunT.nil ?_
                    try simp only [InBlock, Then]
                    refine ⟨k+1, (by omega), (by omega), Wk.of ?_ ?_ rfl rfl⟩
                    · simp only [lessTs, List.reduceReplicate, List.cons_append, List.nil_append, bitI, ← hfr] <;> ((repeat' apply And.intro) <;> first | rfl | trivial)
                    · simp only [lessHs, bitI, ← hfr] <;> ((repeat' apply And.intro) <;> first | rfl | trivial)
                · have hg' : k = 5 := by have := of_decide_eq_false hg; omega
                  subst hg'
                  have hbit := bitI_lt inv i 5
                  have hp2 : 2 ^ i ≤ 128 := Nat.pow_le_pow_right (n := 2) (by omega) (by omega : i ≤ 7)
                  have hp3 : bitI inv i 5 * 2 ^ i ≤ 256 := Nat.mul_le_mul (by omega : bitI inv i 5 ≤ 2) hp2
                  refine Tri.exit ?_
                  simp only [Then, InBlock, if_true]
                  refine (Tri.rgnT (cfgRb_ok.pins _) ?_)
                  repeat (first | refine RunT.one (by first | exact wantedA_none rfl | (simp only [go_sem, Bool.true_beq, Bool.false_beq]; done) | (simp only [go_sem, Bool.true_beq, Bool.false_beq]; with_reducible rfl)) (by simp (maxSteps := 2000000) (disch := first | decide | omega | (simp only [List.length_append, List.length_cons, List.length_nil, List.length_take, List.length_drop]; omega)) only [Try.f20, kTab, kTimes, cfgRb, tyTab, go_sem, ↓reduceIte, reduceCtorEq, Nat.reduceLT, Nat.reduceSub, Nat.reduceAdd, Nat.reduceMul, Nat.reduceEqDiff, Nat.reduceBEq, Nat.reduceBNe, Nat.reduceLeDiff, Nat.reduceDiv, Nat.reduceMod, Nat.reducePow, List.reduceReplicate, UInt8.reduceOfNat, UInt32.reduceOfNat, UInt64.reduceOfNat, Int.reduceLE, Int.reduceLT, Int.reduceNeg, Int.reduceToNat, Int.reduceAdd, Int.reduceSub, Int.reduceMul, Int.reduceEq, UInt64.reduceToNat, UInt8.reduceToNat, UInt32.reduceToNat, u64nat, xor64, and64, or64, xor64r, and64r, shr64, shr64l, shl64]; rfl) (by simp only [go_sem, Nat.reduceBEq, Nat.reduceEqDiff, Nat.reduceAdd, ↓reduceIte, reduceCtorEq, List.reduceReplicate, List.replicate]; rfl) (by first | exact True.intro | (simp only [Obs, and_true, true_and]; omega) | (simp [Obs, AV.sizeL, AV.size, Kd.sz]; done) | (simp [Obs, AV.sizeL, AV.size, Kd.sz]; omega)) ?_ | refine RunT.not (by first | (simp only [go_sem, Bool.true_beq, Bool.false_beq]; done) | (simp only [go_sem, Bool.true_beq, Bool.false_beq]; with_reducible rfl)) (by simp only [go_sem, Nat.reduceBEq, Nat.reduceEqDiff, Nat.reduceAdd, ↓reduceIte, reduceCtorEq, List.reduceReplicate, List.replicate]; rfl) ?_)
                  refine RunT.nil ?_
                  try simp only [InBlock, Then]
                  refine (Tri.rgnT (cfgRb_ok.pins _) ?_)
                  repeat (first | refine RunT.one (by first | exact wantedA_none rfl | (simp only [go_sem, Bool.true_beq, Bool.false_beq]; done) | (simp only [go_sem, Bool.true_beq, Bool.false_beq]; with_reducible rfl)) (by simp (maxSteps := 2000000) (disch := first | decide | omega | (simp only [List.length_append, List.length_cons, List.length_nil, List.length_take, List.length_drop]; omega)) only [Try.f20, kTab, kTimes, cfgRb, tyTab, go_sem, ↓reduceIte, reduceCtorEq, Nat.reduceLT, Nat.reduceSub, Nat.reduceAdd, Nat.reduceMul, Nat.reduceEqDiff, Nat.reduceBEq, Nat.reduceBNe, Nat.reduceLeDiff, Nat.reduceDiv, Nat.reduceMod, Nat.reducePow, List.reduceReplicate, UInt8.reduceOfNat, UInt32.reduceOfNat, UInt64.reduceOfNat, Int.reduceLE, Int.reduceLT, Int.reduceNeg, Int.reduceToNat, Int.reduceAdd, Int.reduceSub, Int.reduceMul, Int.reduceEq, UInt64.reduceToNat, UInt8.reduceToNat, UInt32.reduceToNat, u64nat, xor64, and64, or64, xor64r, and64r, shr64, shr64l, shl64]; rfl) (by simp only [go_sem, Nat.reduceBEq, Nat.reduceEqDiff, Nat.reduceAdd, ↓reduceIte, reduceCtorEq, List.reduceReplicate, List.replicate]; rfl) (by first | exact True.intro | (simp only [Obs, and_true, true_and]; omega) | (simp [Obs, AV.sizeL, AV.size, Kd.sz]; done) | (simp [Obs, AV.sizeL, AV.size, Kd.sz]; omega)) ?_ | refine RunT.not (by first | (simp only [go_sem, Bool.true_beq, Bool.false_beq]; done) | (simp only [go_sem, Bool.true_beq, Bool.false_beq]; with_reducible rfl)) (by simp only [go_sem, Nat.reduceBEq, Nat.reduceEqDiff, Nat.reduceAdd, ↓reduceIte, reduceCtorEq, List.reduceReplicate, List.replicate]; rfl) ?_)
                  refine RunT.nil ?_
                  try simp only [InBlock, Then]
                  refine ⟨i+1, (by omega), (by omega), Wk.of ?_ ?_ rfl rfl⟩
                  · simp only [lessTs, List.reduceReplicate, List.cons_append, List.nil_append, outI] <;> ((repeat' apply And.intro) <;> first | rfl | trivial)
                  · simp only [lessHs, outI] <;> ((repeat' apply And.intro) <;> first | rfl | trivial)
            · refine Tri.exit ?_
              have hf' : i = 8 := by have := of_decide_eq_false hf; omega
              subst hf'
              simp only [Then, InBlock, if_true]
              refine (Tri.rgnT (cfgRb_ok.pins _) ?_)
              repeat (first | refine RunT.one (by first | exact wantedA_none rfl | (simp only [go_sem, Bool.true_beq, Bool.false_beq]; done) | (simp only [go_sem, Bool.true_beq, Bool.false_beq]; with_reducible rfl)) (by simp (maxSteps := 2000000) (disch := first | decide | omega | (simp only [List.length_append, List.length_cons, List.length_nil, List.length_take, List.length_drop]; omega)) only [Try.f20, kTab, kTimes, cfgRb, tyTab, go_sem, ↓reduceIte, reduceCtorEq, Nat.reduceLT, Nat.reduceSub, Nat.reduceAdd, Nat.reduceMul, Nat.reduceEqDiff, Nat.reduceBEq, Nat.reduceBNe, Nat.reduceLeDiff, Nat.reduceDiv, Nat.reduceMod, Nat.reducePow, List.reduceReplicate, UInt8.reduceOfNat, UInt32.reduceOfNat, UInt64.reduceOfNat, Int.reduceLE, Int.reduceLT, Int.reduceNeg, Int.reduceToNat, Int.reduceAdd, Int.reduceSub, Int.reduceMul, Int.reduceEq, UInt64.reduceToNat, UInt8.reduceToNat, UInt32.reduceToNat, u64nat, xor64, and64, or64, xor64r, and64r, shr64, shr64l, shl64]; rfl) (by simp only [go_sem, Nat.reduceBEq, Nat.reduceEqDiff, Nat.reduceAdd, ↓reduceIte, reduceCtorEq, List.reduceReplicate, List.replicate]; rfl) (by first | exact True.intro | (simp only [Obs, and_true, true_and]; omega) | (simp [Obs, AV.sizeL, AV.size, Kd.sz]; done) | (simp [Obs, AV.sizeL, AV.size, Kd.sz]; omega)) ?_ | refine RunT.not (by first | (simp only [go_sem, Bool.true_beq, Bool.false_beq]; done) | (simp only [go_sem, Bool.true_beq, Bool.false_beq]; with_reducible rfl)) (by simp only [go_sem, Nat.reduceBEq, Nat.reduceEqDiff, Nat.reduceAdd, ↓reduceIte, reduceCtorEq, List.reduceReplicate, List.replicate]; rfl) ?_)
              refine RunT.nil ?_
              try simp only [InBlock, Then]
              refine ⟨a+1, (by omega), (by omega), Wk.of ?_ ?_ rfl rfl⟩
              · simp only [lessTs, List.reduceReplicate, List.cons_append, List.nil_append, tabI, hinv, hT] <;> ((repeat' apply And.intro) <;> first | rfl | trivial)
              · simp only [lessHs, tabI, hinv, hT] <;> ((repeat' apply And.intro) <;> first | rfl | trivial)
    · refine Tri.exit ?_
      have hc' : a = 256 := by have := of_decide_eq_false hc; omega
      subst hc'
      simp only [Then, InBlock, if_true]
      generalize hT : tabI 256 = T
      refine Tri.seq (Tri.regT (cfgRb_ok.pins _) ?_)
      repeat (first | refine RunT.one (by first | exact wantedA_none rfl | (simp only [go_sem, Bool.true_beq, Bool.false_beq]; done) | (simp only [go_sem, Bool.true_beq, Bool.false_beq]; with_reducible rfl)) (by simp (maxSteps := 2000000) (disch := first | decide | omega | (simp only [List.length_append, List.length_cons, List.length_nil, List.length_take, List.length_drop]; omega)) only [Try.f20, kTab, kTimes, cfgRb, tyTab, go_sem, ↓reduceIte, reduceCtorEq, Nat.reduceLT, Nat.reduceSub, Nat.reduceAdd, Nat.reduceMul, Nat.reduceEqDiff, Nat.reduceBEq, Nat.reduceBNe, Nat.reduceLeDiff, Nat.reduceDiv, Nat.reduceMod, Nat.reducePow, List.reduceReplicate, UInt8.reduceOfNat, UInt32.reduceOfNat, UInt64.reduceOfNat, Int.reduceLE, Int.reduceLT, Int.reduceNeg, Int.reduceToNat, Int.reduceAdd, Int.reduceSub, Int.reduceMul, Int.reduceEq, UInt64.reduceToNat, UInt8.reduceToNat, UInt32.reduceToNat, u64nat, xor64, and64, or64, xor64r, and64r, shr64, shr64l, shl64]; rfl) (by simp only [go_sem, Nat.reduceBEq, Nat.reduceEqDiff, Nat.reduceAdd, ↓reduceIte, reduceCtorEq, List.reduceReplicate, List.replicate]; rfl) (by first | exact True.intro | (simp only [Obs, and_true, true_and]; omega) | (simp [Obs, AV.sizeL, AV.size, Kd.sz]; done) | (simp [Obs, AV.sizeL, AV.size, Kd.sz]; omega)) ?_ | refine RunT.not (by first | (simp only [go_sem, Bool.true_beq, Bool.false_beq]; done) | (simp only [go_sem, Bool.true_beq, Bool.false_beq]; with_reducible rfl)) (by simp only [go_sem, Nat.reduceBEq, Nat.reduceEqDiff, Nat.reduceAdd, ↓reduceIte, reduceCtorEq, List.reduceReplicate, List.replicate]; rfl) ?_)
      refine RunT.nil ?_
      refine Tri.ret ?_
      refine Con.fin (.inl rfl) (by simp only [Try.f20, cfgRb, tyTab, resA, resA1, go_sem, ↓reduceIte, reduceCtorEq, Nat.reduceLT, Nat.reduceSub, Nat.reduceAdd, Nat.reduceMul, Nat.reduceEqDiff, Nat.reduceBEq, Nat.reduceBNe, Nat.reduceLeDiff, Nat.reduceDiv, Nat.reduceMod, Nat.reducePow, List.reduceReplicate, UInt8.reduceOfNat, UInt32.reduceOfNat, UInt64.reduceOfNat, Int.reduceLE, Int.reduceLT, Int.reduceNeg, Int.reduceToNat, Int.reduceAdd, Int.reduceSub, Int.reduceMul, Int.reduceEq, UInt64.reduceToNat, UInt8.reduceToNat, UInt32.reduceToNat]; rfl) (by simp only [Obs, and_true, true_and]) (by rw [← hT]; rfl) trivial rfl rfl
theorem tab_sum : FSumOK Try.prog cfgRb.G 20 kTab.sum := Con.sumOK cfgRb_ok kTab Try.func20 rfl rfl (Con.of_inv _ _ _) tab_body
end Go.Proofs.Yticgfjalikmniaa

namespace Go.Proofs.Yticgfjalikmniaa
set_option linter.unusedVariables false
set_option linter.unusedSimpArgs false
open Go.Vc Go.Proofs
/-! The table that is reckoned is the table of powers. -/
def tmF : Nat → Nat → Nat → Nat → Nat
  | 0, _, _, o => o
  | n + 1, x, y, o => tmF n (bif Nat.ble 256 (x * 2) then Nat.xor (x * 2) 283 else x * 2) (y / 2) (bif Nat.beq (y % 2) 1 then Nat.xor o x else o)
theorem tmF_eq (a b : Nat) : ∀ n i, tmF n (tmI a b i).1 (tmI a b i).2.1 (tmI a b i).2.2 = (tmI a b (i + n)).2.2
  | 0, i => rfl
  | n + 1, i => by
    have h := tmF_eq a b n (i + 1)
    rw [show i + (n + 1) = i + 1 + n by omega, ← h]
    show tmF n _ _ _ = tmF n _ _ _
    have e1 : (bif Nat.ble 256 ((tmI a b i).1 * 2) then Nat.xor ((tmI a b i).1 * 2) 283 else (tmI a b i).1 * 2) = (tmI a b (i + 1)).1 := by
      show _ = (if 255 < (tmI a b i).1 * 2 then _ else _)
      by_cases h : 255 < (tmI a b i).1 * 2
      · rw [if_pos h, show Nat.ble 256 ((tmI a b i).1 * 2) = true from Nat.ble_eq_true_of_le h]; rfl
      · rw [if_neg h, show Nat.ble 256 ((tmI a b i).1 * 2) = false from by
          cases hb : Nat.ble 256 ((tmI a b i).1 * 2) with
          | false => rfl
          | true => exact absurd (Nat.le_of_ble_eq_true hb) h]; rfl
    have e2 : (bif Nat.beq ((tmI a b i).2.1 % 2) 1 then Nat.xor (tmI a b i).2.2 (tmI a b i).1 else (tmI a b i).2.2) = (tmI a b (i + 1)).2.2 := by
      show _ = (if (tmI a b i).2.1 % 2 = 1 then _ else _)
      by_cases h : (tmI a b i).2.1 % 2 = 1
      · rw [if_pos h, h]; rfl
      · rw [if_neg h]
        have : Nat.beq ((tmI a b i).2.1 % 2) 1 = false := by
          cases hb : Nat.beq ((tmI a b i).2.1 % 2) 1 with
          | false => rfl
          | true => exact absurd (Nat.eq_of_beq_eq_true hb) h
        rw [this]; rfl
    rw [e1, e2]
    rfl
/-- A product, as numbers. -/
def tmN (a b : Nat) : Nat := tmF 8 a b 0
theorem tmN_eq (a b : Nat) : tmN a b = (tmI a b 8).2.2 := by
  have := tmF_eq a b 8 0
  simpa [tmI, tmN] using this
/-- The inverse of a number, by looking for it. -/
def invF : Nat → Nat → Nat
  | _, 0 => 0
  | a, b + 1 => bif Nat.beq (tmN a b) 1 then b else invF a b
theorem tms_eq (a b : Nat) (ha : a < 256) (hb : b < 256) : (tms (UInt8.ofInt (a : Int)) (UInt8.ofInt (b : Int)) = 1) ↔ tmN a b = 1 := by
  have e : ∀ n : Nat, n < 256 → (UInt8.ofInt (n : Int)).toNat = n := by
    intro n hn
    show (UInt8.ofNat _).toNat = n
    have : ((n : Int) % (2 ^ 8 : Nat)).toNat = n := by omega
    simp [this]
    omega
  have ht := tmI_lt ha hb 8
  rw [tmN_eq]
  unfold tms
  rw [e a ha, e b hb, ← UInt8.toNat_inj, e _ ht.2.2]
  rfl
theorem invI_eq (a : Nat) (ha : a < 256) : ∀ b, b ≤ 256 → invI a b = UInt8.ofNat (invF a b)
  | 0, _ => rfl
  | b + 1, hb => by
    have h := tms_eq a b ha (by omega)
    show (if _ then _ else _) = UInt8.ofNat (bif Nat.beq (tmN a b) 1 then b else invF a b)
    by_cases hq : tmN a b = 1
    · rw [if_pos (h.2 hq), hq]
      apply UInt8.toNat_inj.1
      show (UInt8.ofNat _).toNat = (UInt8.ofNat b).toNat
      have : ((b : Int) % 2 ^ 8).toNat = b := by omega
      rw [this]
    · rw [if_neg (fun e => hq (h.1 e)), invI_eq a ha b (by omega)]
      have : Nat.beq (tmN a b) 1 = false := by
        cases hb : Nat.beq (tmN a b) 1 with
        | false => rfl
        | true => exact absurd (Nat.eq_of_beq_eq_true hb) hq
      rw [this]; rfl
/-- What is summed at a place of the table. -/
def sumI (inv v : UInt8) : Nat → UInt8
  | 0 => v
  | i + 1 => sumI inv v i + UInt8.ofInt ((bitI inv i 5 * 2 ^ i : Nat) : Int)
theorem outI_eq (inv : UInt8) (T : List UInt8) (a : Nat) (h : a < T.length) : ∀ i, outI inv T a i = T.set a (sumI inv (T.getD a 0) i)
  | 0 => by
    show T = T.set a (T.getD a 0)
    rw [List.getD_eq_getElem?_getD, List.getElem?_eq_getElem h]
    simp
  | i + 1 => by
    show (outI inv T a i).set a ((outI inv T a i).getD a 0 + _) = _
    rw [outI_eq inv T a h i, List.set_set]
    simp only [sumI, List.getD_eq_getElem?_getD, List.getElem?_set_self h, Option.getD_some]
theorem tabI_get : ∀ a, a ≤ 256 → (tabI a).length = 256 ∧ ∀ j, j < 256 → (tabI a)[j]? = some (if j < a then sumI (invI j 256) 0 8 else 0)
  | 0, _ => by
    refine ⟨(List.length_replicate : (List.replicate 256 (0 : UInt8)).length = 256), fun j hj => ?_⟩
    show (List.replicate 256 (0 : UInt8))[j]? = _
    rw [List.getElem?_replicate, if_pos hj, if_neg (by omega)]
  | a + 1, h => by
    obtain ⟨h1, h2⟩ := tabI_get a (by omega)
    have ha : a < (tabI a).length := by omega
    have e : tabI (a + 1) = (tabI a).set a (sumI (invI a 256) ((tabI a).getD a 0) 8) := outI_eq _ _ _ ha 8
    have e0 : (tabI a).getD a 0 = 0 := by
      rw [List.getD_eq_getElem?_getD, h2 a (by omega), if_neg (by omega)]; rfl
    rw [e0] at e
    rw [e]
    refine ⟨by rw [List.length_set]; exact h1, fun j hj => ?_⟩
    rw [List.getElem?_set]
    by_cases hja : a = j
    · subst hja
      rw [if_pos rfl, if_pos ha, if_pos (by omega)]
    · rw [if_neg hja, h2 j hj]
      by_cases hlt : j < a
      · rw [if_pos hlt, if_pos (by omega)]
      · rw [if_neg hlt, if_neg (by omega)]
theorem tab_list : tabI 256 = (List.range 256).map fun a => sumI (UInt8.ofNat (invF a 256)) 0 8 := by
  obtain ⟨h1, h2⟩ := tabI_get 256 (Nat.le_refl _)
  apply List.ext_getElem?
  intro j
  by_cases hj : j < 256
  · rw [h2 j hj, if_pos hj, List.getElem?_map, List.getElem?_range hj, invI_eq j hj 256 (Nat.le_refl _)]
    rfl
  · rw [List.getElem?_eq_none (by omega), List.getElem?_eq_none (by simp; omega)]
theorem tab_eq0 : ((List.range 256).map fun a => sumI (UInt8.ofNat (invF a 256)) 0 8) = box0 := by kernel_rfl
theorem tab_eq : tabI 256 = box0 := tab_list.trans tab_eq0
end Go.Proofs.Yticgfjalikmniaa

namespace Go.Proofs.Yticgfjalikmniaa
set_option linter.unusedVariables false
set_option linter.unusedSimpArgs false
open Go.Vc Go.Proofs
/-! What the document's cipher computes. -/
/-- What is put over a byte of a word, from the word before. -/
def rkX (box : List UInt8) (r : UInt8) (s : List (List UInt8)) (i k : Nat) : UInt8 :=
  if i % 4 = 0 then (if k = 0 then box.getD ((s.getD (i - 1) d4).getD ((k + 1) % 4) 0).toNat 0 ^^^ r else box.getD ((s.getD (i - 1) d4).getD ((k + 1) % 4) 0).toNat 0)
  else (s.getD (i - 1) d4).getD k 0
def rkI (box key : List UInt8) (r : UInt8) (ks : List (List UInt8)) (i : Nat) : Nat → List (List UInt8)
  | 0 => ks
  | k + 1 =>
    let s := rkI box key r ks i k
    if i < 4 then s.set i ((s.getD i d4).set k (key.getD (4 * i + k) 0))
    else s.set i ((s.getD i d4).set k ((s.getD (i - 4) d4).getD k 0 ^^^ rkX box r s i k))
def rkO (box key : List UInt8) : Nat → UInt8 × List (List UInt8)
  | 0 => (1, Kd.dflt a44)
  | i + 1 => (if 4 ≤ i ∧ i % 4 = 0 then tms (rkO box key i).1 2 else (rkO box key i).1, rkI box key (rkO box key i).1 (rkO box key i).2 i 4)
def newR (key : List UInt8) : cipK.T := (tabI 256, (rkO (tabI 256) key 44).2, ())
/-- A round's key is put over the first block. -/
def raI (keys : List (List UInt8)) (s : List UInt8) : Nat → List UInt8
  | 0 => s
  | i + 1 => let t := raI keys s i; t.set i (t.getD i 0 ^^^ (keys.getD (i / 4) d4).getD (i % 4) 0)
/-- A column's bytes, through the table, rows shifted. -/
def rsR (box s t : List UInt8) (col : Nat) : Nat → List UInt8
  | 0 => t
  | row + 1 => (rsR box s t col row).set (4 * col + row) (box.getD (s.getD (4 * ((col + row) % 4) + row) 0).toNat 0)
def rsC (box s : List UInt8) : Nat → List UInt8
  | 0 => List.replicate 16 0
  | col + 1 => rsR box s (rsC box s col) col 4
def rmX (t : List UInt8) (r col row : Nat) : UInt8 :=
  if r < 10 then tms (t.getD (4 * col + row) 0) 2 ^^^ tms (t.getD (4 * col + (row + 1) % 4) 0) 3 ^^^ t.getD (4 * col + (row + 2) % 4) 0 ^^^ t.getD (4 * col + (row + 3) % 4) 0
  else t.getD (4 * col + row) 0
def rmR (keys : List (List UInt8)) (t : List UInt8) (r : Nat) (s : List UInt8) (col : Nat) : Nat → List UInt8
  | 0 => s
  | row + 1 => (rmR keys t r s col row).set (4 * col + row) (rmX t r col row ^^^ (keys.getD (4 * r + col) d4).getD row 0)
def rmC (keys : List (List UInt8)) (t : List UInt8) (r : Nat) (s : List UInt8) : Nat → List UInt8
  | 0 => s
  | col + 1 => rmR keys t r (rmC keys t r s col) col 4
def rbI (box : List UInt8) (keys : List (List UInt8)) (s : List UInt8) : Nat → List UInt8
  | 0 => raI keys s 16
  | r + 1 => rmC keys (rsC box (rbI box keys s r) 4) (r + 1) (rbI box keys s r) 4
end Go.Proofs.Yticgfjalikmniaa

namespace Go.Proofs.Yticgfjalikmniaa
set_option linter.unusedVariables false
set_option linter.unusedSimpArgs false
open Go.Vc Go.Proofs
set_option maxRecDepth 20000
/-! ### A block's encryption loses nothing -/
theorem and128 (a : UInt8) : a &&& 128 = 0 ∨ a &&& 128 = 128 := by
  have h : ∀ n : Fin 256, (UInt8.ofNat n.val) &&& 128 = 0 ∨ (UInt8.ofNat n.val) &&& 128 = 128 := by decide
  have := h ⟨a.toNat, UInt8.toNat_lt a⟩
  simpa using this
theorem and_xor (a b c : UInt8) : (a ^^^ b) &&& c = (a &&& c) ^^^ (b &&& c) := by
  apply UInt8.toBitVec_inj.1
  simp only [UInt8.toBitVec_and, UInt8.toBitVec_xor]
  ext i hi
  simp only [BitVec.getElem_and, BitVec.getElem_xor]
  cases a.toBitVec[i] <;> cases b.toBitVec[i] <;> cases c.toBitVec[i] <;> rfl
theorem twice_xor (a b : UInt8) : twice (a ^^^ b) = twice a ^^^ twice b := by
  have hs : (a ^^^ b) <<< 1 = a <<< 1 ^^^ b <<< 1 := by
    apply UInt8.toBitVec_inj.1
    simp [BitVec.shiftLeft_xor_distrib]
  have e3 : ∀ x y : UInt8, (x ^^^ 27) ^^^ (y ^^^ 27) = x ^^^ y := fun x y => by
    have : (x ^^^ 27) ^^^ (y ^^^ 27) = (x ^^^ y) ^^^ (27 ^^^ 27) := by ac_rfl
    rw [this]; simp
  unfold twice
  rw [hs, and_xor]
  rcases and128 a with h1 | h1 <;> rcases and128 b with h2 | h2 <;> rw [h1, h2] <;> simp [e3] <;> ac_rfl
theorem twice0 : twice 0 = 0 := rfl
/-- A list but for one place. -/
theorem getD_set8 (l : List UInt8) (i j : Nat) (x : UInt8) (hi : i < l.length) : (l.set i x).getD j 0 = if j = i then x else l.getD j 0 := by
  simp only [List.getD_eq_getElem?_getD, List.getElem?_set]
  by_cases h : i = j
  · subst h; simp [hi]
  · simp [h, Ne.symm h]
theorem ext16 {l m : List UInt8} (hl : l.length = 16) (hm : m.length = 16) (h : ∀ j, j < 16 → l.getD j 0 = m.getD j 0) : l = m := by
  refine List.ext_getElem (by omega) fun i h1 h2 => ?_
  have := h i (by omega)
  simpa [List.getD_eq_getElem?_getD, List.getElem?_eq_getElem h1, List.getElem?_eq_getElem h2] using this

/-! a round's key -/
theorem addI_len (ks : List (List UInt8)) (r : Nat) (s : List UInt8) : ∀ k, (addI ks r s k).length = s.length
  | 0 => rfl
  | k + 1 => by simp [addI, addI_len ks r s k]
theorem addI_get (ks : List (List UInt8)) (r : Nat) (s : List UInt8) (hs : s.length = 16) : ∀ k, k ≤ 16 → ∀ j, (addI ks r s k).getD j 0 = if j < k then s.getD j 0 ^^^ (ks.getD (4 * r + j / 4) (Kd.dflt a4)).getD (j % 4) 0 else s.getD j 0
  | 0, _, j => by simp [addI]
  | k + 1, hk, j => by
    simp only [addI]
    rw [getD_set8 _ _ _ _ (by rw [addI_len, hs]; omega), addI_get ks r s hs k (by omega) j]
    by_cases h : j = k
    · subst h
      rw [if_pos rfl, if_pos (by omega), addI_get ks r s hs j (by omega) j, if_neg (by omega)]
    · rw [if_neg h]
      by_cases h2 : j < k
      · rw [if_pos h2, if_pos (by omega)]
      · rw [if_neg h2, if_neg (by omega)]
theorem addI_inj {ks : List (List UInt8)} {r : Nat} {s t : List UInt8} (hs : s.length = 16) (ht : t.length = 16) (h : addI ks r s 16 = addI ks r t 16) : s = t := by
  refine ext16 hs ht fun j hj => ?_
  have h1 := addI_get ks r s hs 16 (by omega) j
  have h2 := addI_get ks r t ht 16 (by omega) j
  rw [if_pos hj] at h1 h2
  rw [h, h2] at h1
  have := congrArg (· ^^^ (ks.getD (4 * r + j / 4) (Kd.dflt a4)).getD (j % 4) 0) h1
  simp only [UInt8.xor_assoc, UInt8.xor_self, UInt8.xor_zero] at this
  exact this.symm
/-! the box and the rows -/
theorem shI_len (box s : List UInt8) : ∀ k, (shI box s k).length = s.length
  | 0 => rfl
  | k + 1 => by simp [shI, shI_len box s k]
theorem shI_get (box s : List UInt8) (hs : s.length = 16) : ∀ k, k ≤ 16 → ∀ j, (shI box s k).getD j 0 = if j < k then box.getD (s.getD ((j + 4 * (j % 4)) % 16) 0).toNat 0 else s.getD j 0
  | 0, _, j => by simp [shI]
  | k + 1, hk, j => by
    simp only [shI]
    rw [getD_set8 _ _ _ _ (by rw [shI_len, hs]; omega), shI_get box s hs k (by omega) j]
    by_cases h : j = k
    · subst h
      rw [if_pos rfl, if_pos (by omega)]
    · rw [if_neg h]
      by_cases h2 : j < k
      · rw [if_pos h2, if_pos (by omega)]
      · rw [if_neg h2, if_neg (by omega)]
theorem box0_len : box0.length = 256 := by kernel_rfl
def nodup8 : List UInt8 → Bool
  | [] => true
  | x :: r => !r.contains x && nodup8 r
theorem box0_nodup : nodup8 box0 = true := by kernel_rfl
theorem nodup8_spec : ∀ {l : List UInt8}, nodup8 l = true → l.Nodup
  | [], _ => .nil
  | x :: r, h => by
    simp only [nodup8, Bool.and_eq_true, Bool.not_eq_true', List.contains_eq_mem, decide_eq_false_iff_not] at h
    exact List.nodup_cons.2 ⟨h.1, nodup8_spec h.2⟩
theorem box0_inj {a b : UInt8} (h : box0.getD a.toNat 0 = box0.getD b.toNat 0) : a = b := by
  have ha : a.toNat < box0.length := by rw [box0_len]; exact UInt8.toNat_lt a
  have hb : b.toNat < box0.length := by rw [box0_len]; exact UInt8.toNat_lt b
  simp only [List.getD_eq_getElem?_getD, List.getElem?_eq_getElem ha, List.getElem?_eq_getElem hb, Option.getD_some] at h
  exact UInt8.toNat_inj.1 ((List.getElem_inj (nodup8_spec box0_nodup)).1 h)
theorem shI_inj {s t : List UInt8} (hs : s.length = 16) (ht : t.length = 16) (h : shI box0 s 16 = shI box0 t 16) : s = t := by
  refine ext16 hs ht fun i hi => ?_
  obtain ⟨j, hj, e⟩ : ∃ j, j < 16 ∧ (j + 4 * (j % 4)) % 16 = i := by
    have : ∀ i : Fin 16, ∃ j : Fin 16, (j.val + 4 * (j.val % 4)) % 16 = i.val := by decide
    obtain ⟨j, hj⟩ := this ⟨i, hi⟩
    exact ⟨j.val, j.isLt, hj⟩
  have h1 := shI_get box0 s hs 16 (by omega) j
  have h2 := shI_get box0 t ht 16 (by omega) j
  rw [if_pos hj, e] at h1 h2
  rw [h, h2] at h1
  exact (box0_inj h1).symm
/-! columns -/
theorem mixC_len (s col : List UInt8) (all : UInt8) (c : Nat) : ∀ j, (mixC s col all c j).length = s.length
  | 0 => rfl
  | j + 1 => by simp [mixC, mixC_len s col all c j]
theorem mixC_get (s col : List UInt8) (all : UInt8) (c : Nat) (hs : s.length = 16) (hc : c < 4) : ∀ k, k ≤ 4 → ∀ i, (mixC s col all c k).getD i 0 = if 4 * c ≤ i ∧ i < 4 * c + k then col.getD (i - 4 * c) 0 ^^^ all ^^^ twice (col.getD (i - 4 * c) 0 ^^^ col.getD ((i - 4 * c + 1) % 4) 0) else s.getD i 0
  | 0, _, i => by rw [if_neg (by omega)]; rfl
  | k + 1, hk, i => by
    simp only [mixC]
    rw [getD_set8 _ _ _ _ (by rw [mixC_len, hs]; omega), mixC_get s col all c hs hc k (by omega) i]
    by_cases h : i = 4 * c + k
    · subst h
      rw [if_pos rfl, if_pos (by omega), show 4 * c + k - 4 * c = k by omega]
    · rw [if_neg h]
      by_cases h2 : 4 * c ≤ i ∧ i < 4 * c + k
      · rw [if_pos h2, if_pos (by omega)]
      · rw [if_neg h2, if_neg (by omega)]
theorem mixI_len (s : List UInt8) : ∀ c, (mixI s c).length = s.length
  | 0 => rfl
  | c + 1 => by simp [mixI, mixC_len, mixI_len s c]
def colM (s : List UInt8) (c k : Nat) : UInt8 := s.getD (4 * c + k) 0
def mixB (a b c d e f : UInt8) : UInt8 := a ^^^ (b ^^^ c ^^^ d ^^^ e) ^^^ twice (a ^^^ f)
theorem mixI_get (s : List UInt8) (hs : s.length = 16) : ∀ c, c ≤ 4 → ∀ i, (mixI s c).getD i 0 = if i < 4 * c then mixB (s.getD i 0) (colM s (i / 4) 0) (colM s (i / 4) 1) (colM s (i / 4) 2) (colM s (i / 4) 3) (colM s (i / 4) ((i % 4 + 1) % 4)) else s.getD i 0
  | 0, _, i => by rw [if_neg (by omega)]; rfl
  | c + 1, hc, i => by
    have ih := mixI_get s hs c (by omega)
    simp only [mixI]
    rw [mixC_get _ _ _ c (by rw [mixI_len, hs]) (by omega) 4 (by omega) i]
    have hcol : ∀ k, k < 4 → (List.take 4 (List.drop (4 * c) (mixI s c))).getD k 0 = colM s c k := by
      intro k hk
      have : (List.take 4 (List.drop (4 * c) (mixI s c))).getD k 0 = (mixI s c).getD (4 * c + k) 0 := by
        simp only [List.getD_eq_getElem?_getD, List.getElem?_take, List.getElem?_drop, if_pos hk]
      rw [this, ih, if_neg (by omega)]; rfl
    by_cases h : 4 * c ≤ i ∧ i < 4 * c + 4
    · have hd : i / 4 = c := by omega
      have hm : i - 4 * c = i % 4 := by omega
      rw [if_pos h, if_pos (by omega), hd, hm, hcol (i % 4) (by omega), hcol 0 (by omega), hcol 1 (by omega), hcol 2 (by omega), hcol 3 (by omega), hcol ((i % 4 + 1) % 4) (by omega)]
      unfold mixB
      have : colM s c (i % 4) = s.getD i 0 := by unfold colM; congr 1; omega
      rw [this]
    · rw [if_neg h, ih]
      by_cases h2 : i < 4 * c
      · rw [if_pos h2, if_pos (by omega)]
      · rw [if_neg h2, if_neg (by omega)]
end Go.Proofs.Yticgfjalikmniaa

namespace Go.Proofs.Yticgfjalikmniaa
set_option linter.unusedVariables false
set_option linter.unusedSimpArgs false
open Go.Vc Go.Proofs
set_option linter.unusedSimpArgs false
set_option maxRecDepth 100000
/-! The document's cipher is the program's. -/
theorem tms2 (x : UInt8) : tms x 2 = twice x := by
  have h : ∀ n, n < 256 → tms (UInt8.ofNat n) 2 = twice (UInt8.ofNat n) := by decide +kernel
  have := h x.toNat (UInt8.toNat_lt x)
  rwa [UInt8.ofNat_toNat] at this
theorem tms3 (x : UInt8) : tms x 3 = twice x ^^^ x := by
  have h : ∀ n, n < 256 → tms (UInt8.ofNat n) 3 = twice (UInt8.ofNat n) ^^^ UInt8.ofNat n := by decide +kernel
  have := h x.toNat (UInt8.toNat_lt x)
  rwa [UInt8.ofNat_toNat] at this
/-! Words of the key. -/
section
variable {ks : List (List UInt8)} {i j : Nat} {w u : List UInt8}
theorem getD_set_self (h : i < ks.length) : (ks.set i w).getD i d4 = w := by
  simp only [List.getD_eq_getElem?_getD, List.getElem?_set_self h, Option.getD_some]
theorem getD_set_ne (h : i ≠ j) : (ks.set i w).getD j d4 = ks.getD j d4 := by
  simp only [List.getD_eq_getElem?_getD, List.getElem?_set_ne h]
theorem set_getD_self (h : i < ks.length) : ks.set i (ks.getD i d4) = ks := by
  rw [List.getD_eq_getElem?_getD, List.getElem?_eq_getElem h]
  simp
end
def wr (V : Nat → UInt8) (w : List UInt8) : Nat → List UInt8
  | 0 => w
  | k + 1 => (wr V w k).set k (V k)
def rkV (box key : List UInt8) (r : UInt8) (ks : List (List UInt8)) (i k : Nat) : UInt8 :=
  if i < 4 then key.getD (4 * i + k) 0 else (ks.getD (i - 4) d4).getD k 0 ^^^ rkX box r ks i k
theorem rkI_eq (box key : List UInt8) (r : UInt8) (ks : List (List UInt8)) (i : Nat) (h : i < ks.length) : ∀ k, rkI box key r ks i k = ks.set i (wr (rkV box key r ks i) (ks.getD i d4) k)
  | 0 => (set_getD_self h).symm
  | k + 1 => by
    have hi := rkI_eq box key r ks i h k
    show (if i < 4 then _ else _) = _
    rw [hi]
    simp only [getD_set_self h, List.set_set]
    by_cases h4 : i < 4
    · simp only [if_pos h4, wr, rkV]
    · have e : ∀ A : List UInt8, rkX box r (ks.set i A) i k = rkX box r ks i k := by
        intro A
        simp only [rkX, getD_set_ne (show i ≠ i - 1 by omega)]
      simp only [if_neg h4, wr, rkV, e, getD_set_ne (show i ≠ i - 4 by omega)]
theorem len4 {w : List UInt8} (h : w.length = 4) : ∃ a b c d, w = [a, b, c, d] := by
  match w, h with
  | [a, b, c, d], _ => exact ⟨a, b, c, d, rfl⟩
theorem wr4 {w : List UInt8} (h : w.length = 4) (V : Nat → UInt8) : wr V w 4 = [V 0, V 1, V 2, V 3] := by
  obtain ⟨a, b, c, d, rfl⟩ := len4 h
  rfl
def xr (u w : List UInt8) : Nat → List UInt8
  | 0 => w
  | k + 1 => (xr u w k).set k ((xr u w k).getD k 0 ^^^ u.getD k 0)
theorem kxI_eq (ks : List (List UInt8)) (i : Nat) (h : i < ks.length) (h4 : ¬ i < 4) : ∀ k, kxI ks i k = ks.set i (xr (ks.getD (i - 4) d4) (ks.getD i d4) k)
  | 0 => (set_getD_self h).symm
  | k + 1 => by
    have hi := kxI_eq ks i h h4 k
    show (kxI ks i k).set i _ = _
    rw [hi]
    simp only [getD_set_self h, List.set_set, xr, getD_set_ne (show i ≠ i - 4 by omega)]
theorem xr4 {w : List UInt8} (h : w.length = 4) (u : List UInt8) : xr u w 4 = [w.getD 0 0 ^^^ u.getD 0 0, w.getD 1 0 ^^^ u.getD 1 0, w.getD 2 0 ^^^ u.getD 2 0, w.getD 3 0 ^^^ u.getD 3 0] := by
  obtain ⟨a, b, c, d, rfl⟩ := len4 h
  rfl
def WordsOK (ks : List (List UInt8)) : Prop := ks.length = 44 ∧ ∀ j, (ks.getD j d4).length = 4
theorem WordsOK.set {ks : List (List UInt8)} (h : WordsOK ks) {i : Nat} {w : List UInt8} (hw : w.length = 4) : WordsOK (ks.set i w) := by
  refine ⟨by rw [List.length_set]; exact h.1, fun j => ?_⟩
  by_cases hij : i = j
  · subst hij
    by_cases hl : i < ks.length
    · rw [getD_set_self hl]; exact hw
    · rw [List.set_eq_of_length_le (by omega)]; exact h.2 i
  · rw [getD_set_ne hij]; exact h.2 j
theorem WordsOK.zero : WordsOK (Kd.dflt a44) := by
  refine ⟨List.length_replicate, fun j => ?_⟩
  show ((List.replicate 44 d4).getD j d4).length = 4
  rw [List.getD_eq_getElem?_getD, List.getElem?_replicate]
  split <;> rfl
theorem cpK_eq {key w : List UInt8} (hk : key.length = 16) (hw : w.length = 4) {i : Nat} (hi : i < 4) : cpK w key i = [key.getD (4 * i) 0, key.getD (4 * i + 1) 0, key.getD (4 * i + 2) 0, key.getD (4 * i + 3) 0] := by
  obtain ⟨a, b, c, d, rfl⟩ := len4 hw
  match key, hk with
  | [k0, k1, k2, k3, k4, k5, k6, k7, k8, k9, k10, k11, k12, k13, k14, k15], _ =>
    match i, hi with
    | 0, _ => rfl
    | 1, _ => rfl
    | 2, _ => rfl
    | 3, _ => rfl
theorem step_eq {box key : List UInt8} (hk : key.length = 16) {r : UInt8} {ks : List (List UInt8)} (h : WordsOK ks) {i : Nat} (hi : i < 44) :
    (if 4 ≤ i ∧ i % 4 = 0 then tms r 2 else r, rkI box key r ks i 4) = keyStep box key i (r, ks) ∧ WordsOK (rkI box key r ks i 4) := by
  have hl : i < ks.length := by rw [h.1]; exact hi
  have e : rkI box key r ks i 4 = ks.set i [rkV box key r ks i 0, rkV box key r ks i 1, rkV box key r ks i 2, rkV box key r ks i 3] := by
    rw [rkI_eq box key r ks i hl 4, wr4 (h.2 i)]
  refine ⟨?_, by rw [e]; exact h.set rfl⟩
  rw [e]
  unfold keyStep
  by_cases h4 : i < 4
  · have hif : ¬ (4 ≤ i ∧ i % 4 = 0) := fun q => by omega
    simp only [if_pos h4, if_neg hif, cpK_eq hk (h.2 i) h4, rkV, Nat.add_zero]
  · have hs : ∀ A : List UInt8, i < (ks.set i A).length := fun A => by rw [List.length_set]; exact hl
    simp only [if_neg h4, getD_set_self hl, List.set_set]
    by_cases h0 : i % 4 = 0
    · have hif : 4 ≤ i ∧ i % 4 = 0 := ⟨by omega, h0⟩
      simp only [if_pos h0, if_pos hif, tms2]
      rw [kxI_eq _ i (hs _) h4, List.set_set, getD_set_self hl, getD_set_ne (show i ≠ i - 4 by omega), xr4 rfl]
      refine congrArg (Prod.mk (twice r)) (congrArg (ks.set i) ?_)
      simp only [rkV, if_neg h4, rkX, if_pos h0, if_true, Nat.one_ne_zero, if_false, Nat.reduceAdd, Nat.reduceMod, Nat.reduceEqDiff, List.getD_cons_zero, List.getD_cons_succ, UInt8.xor_comm]
    · have hif : ¬ (4 ≤ i ∧ i % 4 = 0) := fun q => h0 q.2
      simp only [if_neg h0, if_neg hif]
      rw [kxI_eq _ i (hs _) h4, List.set_set, getD_set_self hl, getD_set_ne (show i ≠ i - 4 by omega), xr4 (h.2 _)]
      refine congrArg (Prod.mk r) (congrArg (ks.set i) ?_)
      simp only [rkV, if_neg h4, rkX, if_neg h0, UInt8.xor_comm]
theorem keys_eq {box key : List UInt8} (hk : key.length = 16) : ∀ i, i ≤ 44 → rkO box key i = keyI box key i ∧ WordsOK (keyI box key i).2
  | 0, _ => ⟨rfl, WordsOK.zero⟩
  | i + 1, hi => by
    obtain ⟨h1, h2⟩ := keys_eq (box := box) hk i (by omega)
    have hs := step_eq (box := box) hk (r := (keyI box key i).1) h2 (i := i) (by omega)
    have e1 : rkO box key (i + 1) = (if 4 ≤ i ∧ i % 4 = 0 then tms (keyI box key i).1 2 else (keyI box key i).1, rkI box key (keyI box key i).1 (keyI box key i).2 i 4) := by
      show (if _ then _ else _, _) = _
      rw [h1]
    have e2 : keyI box key (i + 1) = keyStep box key i ((keyI box key i).1, (keyI box key i).2) := rfl
    refine ⟨by rw [e1, e2]; exact hs.1, ?_⟩
    rw [e2, ← hs.1]
    exact hs.2
theorem newR_eq {key : List UInt8} (hk : key.length = 16) : newR key = newC key := by
  unfold newR newC
  rw [tab_eq, (keys_eq hk 44 (Nat.le_refl _)).1]
end Go.Proofs.Yticgfjalikmniaa

namespace Go.Proofs.Yticgfjalikmniaa
set_option linter.unusedVariables false
set_option linter.unusedSimpArgs false
-- SEM
open Go.Vc Go.Proofs
set_option linter.unusedSimpArgs false
set_option maxRecDepth 10000
set_option maxHeartbeats 4000000
def kNewR : Con := Con.of [.v a16] (fun x => [List.length (α := UInt8) x.1 = 16]) (fun x => ⟨.ptr 1 [] 0, [.pure a16 x.1, .pure cipK (newC x.1)]⟩)
def kTabG (T : List UInt8) : Con := Con.of [] (fun _ => []) (fun _ => ⟨.pure a256 T, []⟩)
theorem tabG_sum {T : List UInt8} (h : T = tabI 256) : FSumOK Try.prog cfgRb.G 20 (kTabG T).sum := by
  subst h
  exact tab_sum
def cfgRc (T : List UInt8) : Cfg2 := { ty := tyTab, fn := fun | 21 => some kTimes.sum | 20 => some (kTabG T).sum | _ => none, G := fun _ => none, pin := [], eq := fun _ => none }
theorem cfgRc_ok {T : List UInt8} (hT : T = tabI 256) : CfgOK Try.prog (cfgRc T) := ⟨tysOK, (fun f s h => by
  simp only [cfgRc] at h
  split at h
  · injection h with h; subst h; exact times_sum
  · injection h with h; subst h; exact tabG_sum hT
  · cases h), (fun t d h => by cases h)⟩
theorem newR_body {T : List UInt8} (hT : T = tabI 256) (p : kNewR.Par) (hp : ∀ q ∈ kNewR.pre p, q) : BodyOK Try.prog (cfgRc T) Try.f11 (Try.f11.body.get rfl) kNewR p := by
  obtain ⟨(key : List UInt8), u⟩ := p
  obtain ⟨hkey, _⟩ := Obs.of hp
  replace hkey : key.length = 16 := hkey
  have hfin : (newC key : cipK.T) = (T, (rkO T key 44).2, ()) := by
    rw [← newR_eq hkey, hT]; rfl
  refine ⟨?_, Nat.zero_le _, rfl, rfl⟩
  show Tri _ _ _ (Code.seq _ (Code.seq _ (Code.seq _ (Code.seq (Code.seq _ (Code.block _ (Code.loop (Code.seq (Code.seq _ (Code.cond _ _ _)) (Code.seq (Code.block _ (Code.seq (Code.seq _ (Code.block _ (Code.loop (Code.seq (Code.seq _ (Code.cond _ _ _)) (Code.seq (Code.block _ (Code.seq (Code.seq _ (Code.cond _ (Code.seq _ _) _)) (Code.seq _ (Code.seq (Code.seq _ (Code.cond _ (Code.seq _ (Code.seq _ (Code.cond _ _ _))) _)) _)))) _))))) (Code.seq _ (Code.cond _ _ _)))) _))))) (Code.seq _ _))))) _
  refine Tri.at (by first | (simp only [Try.f11, kNewR, kTabG, kTimes, cfgRc, tyTab, Con.start, go_sem, ↓reduceIte, reduceCtorEq, Nat.reduceLT, Nat.reduceSub, Nat.reduceAdd, Nat.reduceMul, Nat.reduceEqDiff, Nat.reduceBEq, Nat.reduceBNe, Nat.reduceLeDiff, Nat.reduceDiv, Nat.reduceMod, Nat.reducePow, List.reduceReplicate, UInt8.reduceOfNat, UInt32.reduceOfNat, UInt64.reduceOfNat, Int.reduceLE, Int.reduceLT, Int.reduceNeg, Int.reduceToNat, Int.reduceAdd, Int.reduceSub, Int.reduceMul, Int.reduceEq, UInt64.reduceToNat, UInt8.reduceToNat, UInt32.reduceToNat]; rfl) | rfl) ?_
  refine Tri.seq (Tri.regT ((cfgRc_ok hT).pins _) ?_)
  repeat (first | refine RunT.one (by first | exact wantedA_none rfl | (simp only [go_sem, Bool.true_beq, Bool.false_beq]; done) | (simp only [go_sem, Bool.true_beq, Bool.false_beq]; with_reducible rfl)) (by simp (maxSteps := 2000000) (disch := first | decide | omega | (simp only [List.length_append, List.length_cons, List.length_nil, List.length_take, List.length_drop]; omega)) only [Try.f11, kNewR, kTabG, kTimes, cfgRc, tyTab, go_sem, ↓reduceIte, reduceCtorEq, Nat.reduceLT, Nat.reduceSub, Nat.reduceAdd, Nat.reduceMul, Nat.reduceEqDiff, Nat.reduceBEq, Nat.reduceBNe, Nat.reduceLeDiff, Nat.reduceDiv, Nat.reduceMod, Nat.reducePow, List.reduceReplicate, UInt8.reduceOfNat, UInt32.reduceOfNat, UInt64.reduceOfNat, Int.reduceLE, Int.reduceLT, Int.reduceNeg, Int.reduceToNat, Int.reduceAdd, Int.reduceSub, Int.reduceMul, Int.reduceEq, UInt64.reduceToNat, UInt8.reduceToNat, UInt32.reduceToNat, u64nat, xor64, and64, or64, xor64r, and64r, shr64, shr64l, shl64]; rfl) (by simp only [go_sem, Nat.reduceBEq, Nat.reduceEqDiff, Nat.reduceAdd, ↓reduceIte, reduceCtorEq, List.reduceReplicate, List.replicate]; rfl) (by first | exact True.intro | (simp only [Obs, and_true, true_and]; omega) | (simp [Obs, AV.sizeL, AV.size, Kd.sz]; done) | (simp [Obs, AV.sizeL, AV.size, Kd.sz]; omega)) ?_ | refine RunT.not (by first | (simp only [go_sem, Bool.true_beq, Bool.false_beq]; done) | (simp only [go_sem, Bool.true_beq, Bool.false_beq]; with_reducible rfl)) (by simp only [go_sem, Nat.reduceBEq, Nat.reduceEqDiff, Nat.reduceAdd, ↓reduceIte, reduceCtorEq, List.reduceReplicate, List.replicate]; rfl) ?_)
  refine RunT.nil ?_
  refine Tri.seq (Tri.regT ((cfgRc_ok hT).pins _) ?_)
  repeat (first | refine RunT.one (by first | exact wantedA_none rfl | (simp only [go_sem, Bool.true_beq, Bool.false_beq]; done) | (simp only [go_sem, Bool.true_beq, Bool.false_beq]; with_reducible rfl)) (by simp (maxSteps := 2000000) (disch := first | decide | omega | (simp only [List.length_append, List.length_cons, List.length_nil, List.length_take, List.length_drop]; omega)) only [Try.f11, kNewR, kTabG, kTimes, cfgRc, tyTab, go_sem, ↓reduceIte, reduceCtorEq, Nat.reduceLT, Nat.reduceSub, Nat.reduceAdd, Nat.reduceMul, Nat.reduceEqDiff, Nat.reduceBEq, Nat.reduceBNe, Nat.reduceLeDiff, Nat.reduceDiv, Nat.reduceMod, Nat.reducePow, List.reduceReplicate, UInt8.reduceOfNat, UInt32.reduceOfNat, UInt64.reduceOfNat, Int.reduceLE, Int.reduceLT, Int.reduceNeg, Int.reduceToNat, Int.reduceAdd, Int.reduceSub, Int.reduceMul, Int.reduceEq, UInt64.reduceToNat, UInt8.reduceToNat, UInt32.reduceToNat, u64nat, xor64, and64, or64, xor64r, and64r, shr64, shr64l, shl64]; rfl) (by simp only [go_sem, Nat.reduceBEq, Nat.reduceEqDiff, Nat.reduceAdd, ↓reduceIte, reduceCtorEq, List.reduceReplicate, List.replicate]; rfl) (by first | exact True.intro | (simp only [Obs, and_true, true_and]; omega) | (simp [Obs, AV.sizeL, AV.size, Kd.sz]; done) | (simp [Obs, AV.sizeL, AV.size, Kd.sz]; omega)) ?_ | refine RunT.not (by first | (simp only [go_sem, Bool.true_beq, Bool.false_beq]; done) | (simp only [go_sem, Bool.true_beq, Bool.false_beq]; with_reducible rfl)) (by simp only [go_sem, Nat.reduceBEq, Nat.reduceEqDiff, Nat.reduceAdd, ↓reduceIte, reduceCtorEq, List.reduceReplicate, List.replicate]; rfl) ?_)
  refine RunT.nil ?_
  refine Tri.seq (Tri.regT ((cfgRc_ok hT).pins _) ?_)
  repeat (first | refine RunT.one (by first | exact wantedA_none rfl | (simp only [go_sem, Bool.true_beq, Bool.false_beq]; done) | (simp only [go_sem, Bool.true_beq, Bool.false_beq]; with_reducible rfl)) (by simp (maxSteps := 2000000) (disch := first | decide | omega | (simp only [List.length_append, List.length_cons, List.length_nil, List.length_take, List.length_drop]; omega)) only [Try.f11, kNewR, kTabG, kTimes, cfgRc, tyTab, go_sem, ↓reduceIte, reduceCtorEq, Nat.reduceLT, Nat.reduceSub, Nat.reduceAdd, Nat.reduceMul, Nat.reduceEqDiff, Nat.reduceBEq, Nat.reduceBNe, Nat.reduceLeDiff, Nat.reduceDiv, Nat.reduceMod, Nat.reducePow, List.reduceReplicate, UInt8.reduceOfNat, UInt32.reduceOfNat, UInt64.reduceOfNat, Int.reduceLE, Int.reduceLT, Int.reduceNeg, Int.reduceToNat, Int.reduceAdd, Int.reduceSub, Int.reduceMul, Int.reduceEq, UInt64.reduceToNat, UInt8.reduceToNat, UInt32.reduceToNat, u64nat, xor64, and64, or64, xor64r, and64r, shr64, shr64l, shl64]; rfl) (by simp only [go_sem, Nat.reduceBEq, Nat.reduceEqDiff, Nat.reduceAdd, ↓reduceIte, reduceCtorEq, List.reduceReplicate, List.replicate]; rfl) (by first | exact True.intro | (simp only [Obs, and_true, true_and]; omega) | (simp [Obs, AV.sizeL, AV.size, Kd.sz]; done) | (simp [Obs, AV.sizeL, AV.size, Kd.sz]; omega)) ?_ | refine RunT.not (by first | (simp only [go_sem, Bool.true_beq, Bool.false_beq]; done) | (simp only [go_sem, Bool.true_beq, Bool.false_beq]; with_reducible rfl)) (by simp only [go_sem, Nat.reduceBEq, Nat.reduceEqDiff, Nat.reduceAdd, ↓reduceIte, reduceCtorEq, List.reduceReplicate, List.replicate]; rfl) ?_)
  refine RunT.nil ?_
  refine Tri.seq ?_
  refine Tri.seq (Tri.regT ((cfgRc_ok hT).pins _) ?_)
  repeat (first | refine RunT.one (by first | exact wantedA_none rfl | (simp only [go_sem, Bool.true_beq, Bool.false_beq]; done) | (simp only [go_sem, Bool.true_beq, Bool.false_beq]; with_reducible rfl)) (by simp (maxSteps := 2000000) (disch := first | decide | omega | (simp only [List.length_append, List.length_cons, List.length_nil, List.length_take, List.length_drop]; omega)) only [Try.f11, kNewR, kTabG, kTimes, cfgRc, tyTab, go_sem, ↓reduceIte, reduceCtorEq, Nat.reduceLT, Nat.reduceSub, Nat.reduceAdd, Nat.reduceMul, Nat.reduceEqDiff, Nat.reduceBEq, Nat.reduceBNe, Nat.reduceLeDiff, Nat.reduceDiv, Nat.reduceMod, Nat.reducePow, List.reduceReplicate, UInt8.reduceOfNat, UInt32.reduceOfNat, UInt64.reduceOfNat, Int.reduceLE, Int.reduceLT, Int.reduceNeg, Int.reduceToNat, Int.reduceAdd, Int.reduceSub, Int.reduceMul, Int.reduceEq, UInt64.reduceToNat, UInt8.reduceToNat, UInt32.reduceToNat, u64nat, xor64, and64, or64, xor64r, and64r, shr64, shr64l, shl64]; rfl) (by simp only [go_sem, Nat.reduceBEq, Nat.reduceEqDiff, Nat.reduceAdd, ↓reduceIte, reduceCtorEq, List.reduceReplicate, List.replicate]; rfl) (by first | exact True.intro | (simp only [Obs, and_true, true_and]; omega) | (simp [Obs, AV.sizeL, AV.size, Kd.sz]; done) | (simp [Obs, AV.sizeL, AV.size, Kd.sz]; omega)) ?_ | refine RunT.not (by first | (simp only [go_sem, Bool.true_beq, Bool.false_beq]; done) | (simp only [go_sem, Bool.true_beq, Bool.false_beq]; with_reducible rfl)) (by simp only [go_sem, Nat.reduceBEq, Nat.reduceEqDiff, Nat.reduceAdd, ↓reduceIte, reduceCtorEq, List.reduceReplicate, List.replicate]; rfl) ?_)
  refine RunT.nil ?_
  refine Tri.block ?_
  refine Tri.loop (fun i : Nat => (⟨[none, some (.ptr 0 [] 0), none, some (.ptr 1 [] 0), some (.int .u8 (rkO T key i).1), some (.int .i64 (i : Int))] ++ List.replicate 89 none, [.live (.pure a16 key), .live (.pure cipK (T, (rkO T key i).2, ()))]⟩ : AS)) (· ≤ 44) (fun k => 44 - k) 0 ?_ (Nat.zero_le _) ?_
  · refine Wk.of ?_ ?_ rfl rfl
    · simp only [lessTs, List.reduceReplicate, List.cons_append, List.nil_append, rkO] <;> ((repeat' apply And.intro) <;> first | rfl | trivial)
    · simp only [lessHs, rkO] <;> ((repeat' apply And.intro) <;> first | rfl | trivial)
  · intro i hi
    generalize hr : (rkO T key i).1 = r
    generalize hk0 : (rkO T key i).2 = ks0
    refine Tri.seq (Tri.seq ?_)
    refine Tri.at (by first | (simp only [Try.f11, kNewR, kTabG, kTimes, cfgRc, tyTab, Con.start, go_sem, ↓reduceIte, reduceCtorEq, Nat.reduceLT, Nat.reduceSub, Nat.reduceAdd, Nat.reduceMul, Nat.reduceEqDiff, Nat.reduceBEq, Nat.reduceBNe, Nat.reduceLeDiff, Nat.reduceDiv, Nat.reduceMod, Nat.reducePow, List.reduceReplicate, UInt8.reduceOfNat, UInt32.reduceOfNat, UInt64.reduceOfNat, Int.reduceLE, Int.reduceLT, Int.reduceNeg, Int.reduceToNat, Int.reduceAdd, Int.reduceSub, Int.reduceMul, Int.reduceEq, UInt64.reduceToNat, UInt8.reduceToNat, UInt32.reduceToNat]; rfl) | rfl) ?_
    refine (Tri.rgnT ((cfgRc_ok hT).pins _) ?_)
    repeat (first | refine RunT.one (by first | exact wantedA_none rfl | (simp only [go_sem, Bool.true_beq, Bool.false_beq]; done) | (simp only [go_sem, Bool.true_beq, Bool.false_beq]; with_reducible rfl)) (by simp (maxSteps := 2000000) (disch := first | decide | omega | (simp only [List.length_append, List.length_cons, List.length_nil, List.length_take, List.length_drop]; omega)) only [Try.f11, kNewR, kTabG, kTimes, cfgRc, tyTab, go_sem, ↓reduceIte, reduceCtorEq, Nat.reduceLT, Nat.reduceSub, Nat.reduceAdd, Nat.reduceMul, Nat.reduceEqDiff, Nat.reduceBEq, Nat.reduceBNe, Nat.reduceLeDiff, Nat.reduceDiv, Nat.reduceMod, Nat.reducePow, List.reduceReplicate, UInt8.reduceOfNat, UInt32.reduceOfNat, UInt64.reduceOfNat, Int.reduceLE, Int.reduceLT, Int.reduceNeg, Int.reduceToNat, Int.reduceAdd, Int.reduceSub, Int.reduceMul, Int.reduceEq, UInt64.reduceToNat, UInt8.reduceToNat, UInt32.reduceToNat, u64nat, xor64, and64, or64, xor64r, and64r, shr64, shr64l, shl64]; rfl) (by simp only [go_sem, Nat.reduceBEq, Nat.reduceEqDiff, Nat.reduceAdd, ↓reduceIte, reduceCtorEq, List.reduceReplicate, List.replicate]; rfl) (by first | exact True.intro | (simp only [Obs, and_true, true_and]; omega) | (simp [Obs, AV.sizeL, AV.size, Kd.sz]; done) | (simp [Obs, AV.sizeL, AV.size, Kd.sz]; omega)) ?_ | refine RunT.not (by first | (simp only [go_sem, Bool.true_beq, Bool.false_beq]; done) | (simp only [go_sem, Bool.true_beq, Bool.false_beq]; with_reducible rfl)) (by simp only [go_sem, Nat.reduceBEq, Nat.reduceEqDiff, Nat.reduceAdd, ↓reduceIte, reduceCtorEq, List.reduceReplicate, List.replicate]; rfl) ?_)
    refine RunT.nil ?_
    try simp only [InBlock, Then]
    refine Tri.split (by simp only [AS.ev, go_sem, ↓reduceIte, reduceCtorEq, Nat.reduceLT, Nat.reduceSub, Nat.reduceAdd, Nat.reduceMul, Nat.reduceEqDiff, Nat.reduceBEq, Nat.reduceBNe, Nat.reduceLeDiff, Nat.reduceDiv, Nat.reduceMod, Nat.reducePow, List.reduceReplicate, UInt8.reduceOfNat, UInt32.reduceOfNat, UInt64.reduceOfNat, Int.reduceLE, Int.reduceLT, Int.reduceNeg, Int.reduceToNat, Int.reduceAdd, Int.reduceSub, Int.reduceMul, Int.reduceEq, UInt64.reduceToNat, UInt8.reduceToNat, UInt32.reduceToNat]; rfl) (fun hc => ?_) (fun hc => ?_)
    · have hc' : i < 44 := by have := of_decide_eq_true hc; omega
      refine Tri.skp ?_
      refine Tri.seq (Tri.block ?_)
      refine Tri.seq ?_
      refine Tri.seq (Tri.regT ((cfgRc_ok hT).pins _) ?_)
      repeat (first | refine RunT.one (by first | exact wantedA_none rfl | (simp only [go_sem, Bool.true_beq, Bool.false_beq]; done) | (simp only [go_sem, Bool.true_beq, Bool.false_beq]; with_reducible rfl)) (by simp (maxSteps := 2000000) (disch := first | decide | omega | (simp only [List.length_append, List.length_cons, List.length_nil, List.length_take, List.length_drop]; omega)) only [Try.f11, kNewR, kTabG, kTimes, cfgRc, tyTab, go_sem, ↓reduceIte, reduceCtorEq, Nat.reduceLT, Nat.reduceSub, Nat.reduceAdd, Nat.reduceMul, Nat.reduceEqDiff, Nat.reduceBEq, Nat.reduceBNe, Nat.reduceLeDiff, Nat.reduceDiv, Nat.reduceMod, Nat.reducePow, List.reduceReplicate, UInt8.reduceOfNat, UInt32.reduceOfNat, UInt64.reduceOfNat, Int.reduceLE, Int.reduceLT, Int.reduceNeg, Int.reduceToNat, Int.reduceAdd, Int.reduceSub, Int.reduceMul, Int.reduceEq, UInt64.reduceToNat, UInt8.reduceToNat, UInt32.reduceToNat, u64nat, xor64, and64, or64, xor64r, and64r, shr64, shr64l, shl64]; rfl) (by simp only [go_sem, Nat.reduceBEq, Nat.reduceEqDiff, Nat.reduceAdd, ↓reduceIte, reduceCtorEq, List.reduceReplicate, List.replicate]; rfl) (by first | exact True.intro | (simp only [Obs, and_true, true_and]; omega) | (simp [Obs, AV.sizeL, AV.size, Kd.sz]; done) | (simp [Obs, AV.sizeL, AV.size, Kd.sz]; omega)) ?_ | refine RunT.not (by first | (simp only [go_sem, Bool.true_beq, Bool.false_beq]; done) | (simp only [go_sem, Bool.true_beq, Bool.false_beq]; with_reducible rfl)) (by simp only [go_sem, Nat.reduceBEq, Nat.reduceEqDiff, Nat.reduceAdd, ↓reduceIte, reduceCtorEq, List.reduceReplicate, List.replicate]; rfl) ?_)
      refine RunT.nil ?_
      refine Tri.block ?_
      refine Tri.loop (fun k : Nat => (⟨[none, some (.ptr 0 [] 0), none, some (.ptr 1 [] 0), some (.int .u8 r), some (.int .i64 (i : Int)), some (.int .i64 (k : Int))] ++ List.replicate 88 none, [.live (.pure a16 key), .live (.pure cipK (T, rkI T key r ks0 i k, ()))]⟩ : AS)) (· ≤ 4) (fun k => 4 - k) 0 ?_ (Nat.zero_le _) ?_
      · refine Wk.of ?_ ?_ rfl rfl
        · simp only [lessTs, List.reduceReplicate, List.cons_append, List.nil_append, rkI] <;> ((repeat' apply And.intro) <;> first | rfl | trivial)
        · simp only [lessHs, rkI] <;> ((repeat' apply And.intro) <;> first | rfl | trivial)
      · intro k hk
        generalize hks : rkI T key r ks0 i k = ks
        refine Tri.seq (Tri.seq ?_)
        refine Tri.at (by first | (simp only [Try.f11, kNewR, kTabG, kTimes, cfgRc, tyTab, Con.start, go_sem, ↓reduceIte, reduceCtorEq, Nat.reduceLT, Nat.reduceSub, Nat.reduceAdd, Nat.reduceMul, Nat.reduceEqDiff, Nat.reduceBEq, Nat.reduceBNe, Nat.reduceLeDiff, Nat.reduceDiv, Nat.reduceMod, Nat.reducePow, List.reduceReplicate, UInt8.reduceOfNat, UInt32.reduceOfNat, UInt64.reduceOfNat, Int.reduceLE, Int.reduceLT, Int.reduceNeg, Int.reduceToNat, Int.reduceAdd, Int.reduceSub, Int.reduceMul, Int.reduceEq, UInt64.reduceToNat, UInt8.reduceToNat, UInt32.reduceToNat]; rfl) | rfl) ?_
        refine (Tri.rgnT ((cfgRc_ok hT).pins _) ?_)
        repeat (first | refine RunT.one (by first | exact wantedA_none rfl | (simp only [go_sem, Bool.true_beq, Bool.false_beq]; done) | (simp only [go_sem, Bool.true_beq, Bool.false_beq]; with_reducible rfl)) (by simp (maxSteps := 2000000) (disch := first | decide | omega | (simp only [List.length_append, List.length_cons, List.length_nil, List.length_take, List.length_drop]; omega)) only [Try.f11, kNewR, kTabG, kTimes, cfgRc, tyTab, go_sem, ↓reduceIte, reduceCtorEq, Nat.reduceLT, Nat.reduceSub, Nat.reduceAdd, Nat.reduceMul, Nat.reduceEqDiff, Nat.reduceBEq, Nat.reduceBNe, Nat.reduceLeDiff, Nat.reduceDiv, Nat.reduceMod, Nat.reducePow, List.reduceReplicate, UInt8.reduceOfNat, UInt32.reduceOfNat, UInt64.reduceOfNat, Int.reduceLE, Int.reduceLT, Int.reduceNeg, Int.reduceToNat, Int.reduceAdd, Int.reduceSub, Int.reduceMul, Int.reduceEq, UInt64.reduceToNat, UInt8.reduceToNat, UInt32.reduceToNat, u64nat, xor64, and64, or64, xor64r, and64r, shr64, shr64l, shl64]; rfl) (by simp only [go_sem, Nat.reduceBEq, Nat.reduceEqDiff, Nat.reduceAdd, ↓reduceIte, reduceCtorEq, List.reduceReplicate, List.replicate]; rfl) (by first | exact True.intro | (simp only [Obs, and_true, true_and]; omega) | (simp [Obs, AV.sizeL, AV.size, Kd.sz]; done) | (simp [Obs, AV.sizeL, AV.size, Kd.sz]; omega)) ?_ | refine RunT.not (by first | (simp only [go_sem, Bool.true_beq, Bool.false_beq]; done) | (simp only [go_sem, Bool.true_beq, Bool.false_beq]; with_reducible rfl)) (by simp only [go_sem, Nat.reduceBEq, Nat.reduceEqDiff, Nat.reduceAdd, ↓reduceIte, reduceCtorEq, List.reduceReplicate, List.replicate]; rfl) ?_)
        refine RunT.nil ?_
        try simp only [InBlock, Then]
        refine Tri.split (by simp only [AS.ev, go_sem, ↓reduceIte, reduceCtorEq, Nat.reduceLT, Nat.reduceSub, Nat.reduceAdd, Nat.reduceMul, Nat.reduceEqDiff, Nat.reduceBEq, Nat.reduceBNe, Nat.reduceLeDiff, Nat.reduceDiv, Nat.reduceMod, Nat.reducePow, List.reduceReplicate, UInt8.reduceOfNat, UInt32.reduceOfNat, UInt64.reduceOfNat, Int.reduceLE, Int.reduceLT, Int.reduceNeg, Int.reduceToNat, Int.reduceAdd, Int.reduceSub, Int.reduceMul, Int.reduceEq, UInt64.reduceToNat, UInt8.reduceToNat, UInt32.reduceToNat]; rfl) (fun hd => ?_) (fun hd => ?_)
        · have hd' : k < 4 := by have := of_decide_eq_true hd; omega
          refine Tri.skp ?_
          refine Tri.seq (Tri.block ?_)
          refine Tri.seq (Tri.seq ?_)
          refine (Tri.rgnT ((cfgRc_ok hT).pins _) ?_)
          repeat (first | refine RunT.one (by first | exact wantedA_none rfl | (simp only [go_sem, Bool.true_beq, Bool.false_beq]; done) | (simp only [go_sem, Bool.true_beq, Bool.false_beq]; with_reducible rfl)) (by simp (maxSteps := 2000000) (disch := first | decide | omega | (simp only [List.length_append, List.length_cons, List.length_nil, List.length_take, List.length_drop]; omega)) only [Try.f11, kNewR, kTabG, kTimes, cfgRc, tyTab, go_sem, ↓reduceIte, reduceCtorEq, Nat.reduceLT, Nat.reduceSub, Nat.reduceAdd, Nat.reduceMul, Nat.reduceEqDiff, Nat.reduceBEq, Nat.reduceBNe, Nat.reduceLeDiff, Nat.reduceDiv, Nat.reduceMod, Nat.reducePow, List.reduceReplicate, UInt8.reduceOfNat, UInt32.reduceOfNat, UInt64.reduceOfNat, Int.reduceLE, Int.reduceLT, Int.reduceNeg, Int.reduceToNat, Int.reduceAdd, Int.reduceSub, Int.reduceMul, Int.reduceEq, UInt64.reduceToNat, UInt8.reduceToNat, UInt32.reduceToNat, u64nat, xor64, and64, or64, xor64r, and64r, shr64, shr64l, shl64]; rfl) (by simp only [go_sem, Nat.reduceBEq, Nat.reduceEqDiff, Nat.reduceAdd, ↓reduceIte, reduceCtorEq, List.reduceReplicate, List.replicate]; rfl) (by first | exact True.intro | (simp only [Obs, and_true, true_and]; omega) | (simp [Obs, AV.sizeL, AV.size, Kd.sz]; done) | (simp [Obs, AV.sizeL, AV.size, Kd.sz]; omega)) ?_ | refine RunT.not (by first | (simp only [go_sem, Bool.true_beq, Bool.false_beq]; done) | (simp only [go_sem, Bool.true_beq, Bool.false_beq]; with_reducible rfl)) (by simp only [go_sem, Nat.reduceBEq, Nat.reduceEqDiff, Nat.reduceAdd, ↓reduceIte, reduceCtorEq, List.reduceReplicate, List.replicate]; rfl) ?_)
          refine RunT.nil ?_
          try simp only [InBlock, Then]
          refine Tri.split (by simp only [AS.ev, go_sem, ↓reduceIte, reduceCtorEq, Nat.reduceLT, Nat.reduceSub, Nat.reduceAdd, Nat.reduceMul, Nat.reduceEqDiff, Nat.reduceBEq, Nat.reduceBNe, Nat.reduceLeDiff, Nat.reduceDiv, Nat.reduceMod, Nat.reducePow, List.reduceReplicate, UInt8.reduceOfNat, UInt32.reduceOfNat, UInt64.reduceOfNat, Int.reduceLE, Int.reduceLT, Int.reduceNeg, Int.reduceToNat, Int.reduceAdd, Int.reduceSub, Int.reduceMul, Int.reduceEq, UInt64.reduceToNat, UInt8.reduceToNat, UInt32.reduceToNat]; rfl) (fun he => ?_) (fun he => ?_)
          · have he' : i < 4 := by have := of_decide_eq_true he; omega
            refine Tri.seq (Tri.drwT (mixed) ((cfgRc_ok hT).pins _) ?_)
            repeat (first | refine RunD.one (by first | exact wantedA_none rfl | (simp only [go_sem, Bool.true_beq, Bool.false_beq]; done) | (simp only [go_sem, Bool.true_beq, Bool.false_beq]; with_reducible rfl)) (by simp (maxSteps := 2000000) (disch := first | decide | omega | (simp only [List.length_append, List.length_cons, List.length_nil, List.length_take, List.length_drop]; omega)) only [Try.f11, kNewR, kTabG, kTimes, cfgRc, tyTab, go_sem, ↓reduceIte, reduceCtorEq, Nat.reduceLT, Nat.reduceSub, Nat.reduceAdd, Nat.reduceMul, Nat.reduceEqDiff, Nat.reduceBEq, Nat.reduceBNe, Nat.reduceLeDiff, Nat.reduceDiv, Nat.reduceMod, Nat.reducePow, List.reduceReplicate, UInt8.reduceOfNat, UInt32.reduceOfNat, UInt64.reduceOfNat, Int.reduceLE, Int.reduceLT, Int.reduceNeg, Int.reduceToNat, Int.reduceAdd, Int.reduceSub, Int.reduceMul, Int.reduceEq, UInt64.reduceToNat, UInt8.reduceToNat, UInt32.reduceToNat, u64nat, xor64, and64, or64, xor64r, and64r, shr64, shr64l, shl64]; rfl) (by simp only [go_sem, Nat.reduceBEq, Nat.reduceEqDiff, Nat.reduceAdd, ↓reduceIte, reduceCtorEq, List.reduceReplicate, List.replicate]; rfl) (by first | exact True.intro | (simp only [Obs, and_true, true_and]; omega) | (simp [Obs, AV.sizeL, AV.size, Kd.sz]; done) | (simp [Obs, AV.sizeL, AV.size, Kd.sz]; omega)) ?_ | refine RunD.not (by first | (simp only [go_sem, Bool.true_beq, Bool.false_beq]; done) | (simp only [go_sem, Bool.true_beq, Bool.false_beq]; with_reducible rfl)) (by simp only [go_sem, Nat.reduceBEq, Nat.reduceEqDiff, Nat.reduceAdd, ↓reduceIte, reduceCtorEq, List.reduceReplicate, List.replicate]; rfl) ?_)
            refine RunD.nil ?_
            refine ⟨by kernel_rfl, ?_⟩
            refine Tri.exit ?_
            simp only [Then, InBlock, if_true]
            refine (Tri.rgnT ((cfgRc_ok hT).pins _) ?_)
            repeat (first | refine RunT.one (by first | exact wantedA_none rfl | (simp only [go_sem, Bool.true_beq, Bool.false_beq]; done) | (simp only [go_sem, Bool.true_beq, Bool.false_beq]; with_reducible rfl)) (by simp (maxSteps := 2000000) (disch := first | decide | omega | (simp only [List.length_append, List.length_cons, List.length_nil, List.length_take, List.length_drop]; omega)) only [Try.f11, kNewR, kTabG, kTimes, cfgRc, tyTab, go_sem, ↓reduceIte, reduceCtorEq, Nat.reduceLT, Nat.reduceSub, Nat.reduceAdd, Nat.reduceMul, Nat.reduceEqDiff, Nat.reduceBEq, Nat.reduceBNe, Nat.reduceLeDiff, Nat.reduceDiv, Nat.reduceMod, Nat.reducePow, List.reduceReplicate, UInt8.reduceOfNat, UInt32.reduceOfNat, UInt64.reduceOfNat, Int.reduceLE, Int.reduceLT, Int.reduceNeg, Int.reduceToNat, Int.reduceAdd, Int.reduceSub, Int.reduceMul, Int.reduceEq, UInt64.reduceToNat, UInt8.reduceToNat, UInt32.reduceToNat, u64nat, xor64, and64, or64, xor64r, and64r, shr64, shr64l, shl64]; rfl) (by simp only [go_sem, Nat.reduceBEq, Nat.reduceEqDiff, Nat.reduceAdd, ↓reduceIte, reduceCtorEq, List.reduceReplicate, List.replicate]; rfl) (by first | exact True.intro | (simp only [Obs, and_true, true_and]; omega) | (simp [Obs, AV.sizeL, AV.size, Kd.sz]; done) | (simp [Obs, AV.sizeL, AV.size, Kd.sz]; omega)) ?_ | refine RunT.not (by first | (simp only [go_sem, Bool.true_beq, Bool.false_beq]; done) | (simp only [go_sem, Bool.true_beq, Bool.false_beq]; with_reducible rfl)) (by simp only [go_sem, Nat.reduceBEq, Nat.reduceEqDiff, Nat.reduceAdd, ↓reduceIte, reduceCtorEq, List.reduceReplicate, List.replicate]; rfl) ?_)
            refine RunT.nil ?_
            try simp only [InBlock, Then]
            refine ⟨k+1, (by omega), (by omega), Wk.of ?_ ?_ rfl rfl⟩
            · simp only [lessTs, List.reduceReplicate, List.cons_append, List.nil_append, rkI, if_pos he', hks] <;> ((repeat' apply And.intro) <;> first | rfl | trivial)
            · simp only [lessHs, rkI, if_pos he', hks] <;> ((repeat' apply And.intro) <;> first | rfl | trivial)
          · have he' : ¬ i < 4 := by have := of_decide_eq_false he; omega
            obtain ⟨m1, hm1⟩ : ∃ m : Nat, (i : Int) - 1 = (m : Int) := ⟨i - 1, by omega⟩
            obtain ⟨m4, hm4⟩ : ∃ m : Nat, (i : Int) - 4 = (m : Int) := ⟨i - 4, by omega⟩
            have hn1 : m1 = i - 1 := by omega
            have hn4 : m4 = i - 4 := by omega
            refine Tri.skp ?_
            refine Tri.seq (Tri.regT ((cfgRc_ok hT).pins _) ?_)
            repeat (first | refine RunT.one (by first | exact wantedA_none rfl | (simp only [go_sem, Bool.true_beq, Bool.false_beq]; done) | (simp only [go_sem, Bool.true_beq, Bool.false_beq]; with_reducible rfl)) (by simp (maxSteps := 2000000) (disch := first | decide | omega | (simp only [List.length_append, List.length_cons, List.length_nil, List.length_take, List.length_drop]; omega)) only [Try.f11, kNewR, kTabG, kTimes, cfgRc, tyTab, hm1, hm4, go_sem, ↓reduceIte, reduceCtorEq, Nat.reduceLT, Nat.reduceSub, Nat.reduceAdd, Nat.reduceMul, Nat.reduceEqDiff, Nat.reduceBEq, Nat.reduceBNe, Nat.reduceLeDiff, Nat.reduceDiv, Nat.reduceMod, Nat.reducePow, List.reduceReplicate, UInt8.reduceOfNat, UInt32.reduceOfNat, UInt64.reduceOfNat, Int.reduceLE, Int.reduceLT, Int.reduceNeg, Int.reduceToNat, Int.reduceAdd, Int.reduceSub, Int.reduceMul, Int.reduceEq, UInt64.reduceToNat, UInt8.reduceToNat, UInt32.reduceToNat, u64nat, xor64, and64, or64, xor64r, and64r, shr64, shr64l, shl64]; rfl) (by simp only [go_sem, Nat.reduceBEq, Nat.reduceEqDiff, Nat.reduceAdd, ↓reduceIte, reduceCtorEq, List.reduceReplicate, List.replicate]; rfl) (by first | exact True.intro | (simp only [Obs, and_true, true_and]; omega) | (simp [Obs, AV.sizeL, AV.size, Kd.sz]; done) | (simp [Obs, AV.sizeL, AV.size, Kd.sz]; omega)) ?_ | refine RunT.not (by first | (simp only [go_sem, Bool.true_beq, Bool.false_beq]; done) | (simp only [go_sem, Bool.true_beq, Bool.false_beq]; with_reducible rfl)) (by simp only [go_sem, Nat.reduceBEq, Nat.reduceEqDiff, Nat.reduceAdd, ↓reduceIte, reduceCtorEq, List.reduceReplicate, List.replicate]; rfl) ?_)
            refine RunT.nil ?_
            refine Tri.seqWk (fun x : UInt8 => (⟨[none, some (.ptr 0 [] 0), none, some (.ptr 1 [] 0), some (.int .u8 r), some (.int .i64 (i : Int)), some (.int .i64 (k : Int)), some (.int .u8 x)] ++ List.replicate 87 none, [.live (.pure a16 key), .live (.pure cipK (T, ks, ()))]⟩ : AS)) (fun x => x = rkX T r ks i k) ?_ ?_
            · refine Tri.seq ?_
              refine (Tri.rgnT ((cfgRc_ok hT).pins _) ?_)
              repeat (first | refine RunT.one (by first | exact wantedA_none rfl | (simp only [go_sem, Bool.true_beq, Bool.false_beq]; done) | (simp only [go_sem, Bool.true_beq, Bool.false_beq]; with_reducible rfl)) (by simp (maxSteps := 2000000) (disch := first | decide | omega | (simp only [List.length_append, List.length_cons, List.length_nil, List.length_take, List.length_drop]; omega)) only [Try.f11, kNewR, kTabG, kTimes, cfgRc, tyTab, hm1, hm4, go_sem, ↓reduceIte, reduceCtorEq, Nat.reduceLT, Nat.reduceSub, Nat.reduceAdd, Nat.reduceMul, Nat.reduceEqDiff, Nat.reduceBEq, Nat.reduceBNe, Nat.reduceLeDiff, Nat.reduceDiv, Nat.reduceMod, Nat.reducePow, List.reduceReplicate, UInt8.reduceOfNat, UInt32.reduceOfNat, UInt64.reduceOfNat, Int.reduceLE, Int.reduceLT, Int.reduceNeg, Int.reduceToNat, Int.reduceAdd, Int.reduceSub, Int.reduceMul, Int.reduceEq, UInt64.reduceToNat, UInt8.reduceToNat, UInt32.reduceToNat, u64nat, xor64, and64, or64, xor64r, and64r, shr64, shr64l, shl64]; rfl) (by simp only [go_sem, Nat.reduceBEq, Nat.reduceEqDiff, Nat.reduceAdd, ↓reduceIte, reduceCtorEq, List.reduceReplicate, List.replicate]; rfl) (by first | exact True.intro | (simp only [Obs, and_true, true_and]; omega) | (simp [Obs, AV.sizeL, AV.size, Kd.sz]; done) | (simp [Obs, AV.sizeL, AV.size, Kd.sz]; omega)) ?_ | refine RunT.not (by first | (simp only [go_sem, Bool.true_beq, Bool.false_beq]; done) | (simp only [go_sem, Bool.true_beq, Bool.false_beq]; with_reducible rfl)) (by simp only [go_sem, Nat.reduceBEq, Nat.reduceEqDiff, Nat.reduceAdd, ↓reduceIte, reduceCtorEq, List.reduceReplicate, List.replicate]; rfl) ?_)
              refine RunT.nil ?_
              try simp only [InBlock, Then]
              refine Tri.split (by simp only [AS.ev, go_sem, ↓reduceIte, reduceCtorEq, Nat.reduceLT, Nat.reduceSub, Nat.reduceAdd, Nat.reduceMul, Nat.reduceEqDiff, Nat.reduceBEq, Nat.reduceBNe, Nat.reduceLeDiff, Nat.reduceDiv, Nat.reduceMod, Nat.reducePow, List.reduceReplicate, UInt8.reduceOfNat, UInt32.reduceOfNat, UInt64.reduceOfNat, Int.reduceLE, Int.reduceLT, Int.reduceNeg, Int.reduceToNat, Int.reduceAdd, Int.reduceSub, Int.reduceMul, Int.reduceEq, UInt64.reduceToNat, UInt8.reduceToNat, UInt32.reduceToNat]; rfl) (fun hf => ?_) (fun hf => ?_)
              · have hf' : i % 4 = 0 := by have := of_decide_eq_true hf; omega
                have hl := UInt8.toNat_lt ((ks.getD m1 [0, 0, 0, 0]).getD ((k + 1) % 4) 0)
                refine Tri.seq (Tri.drwT (mixed) ((cfgRc_ok hT).pins _) ?_)
                repeat (first | refine RunD.one (by first | exact wantedA_none rfl | (simp only [go_sem, Bool.true_beq, Bool.false_beq]; done) | (simp only [go_sem, Bool.true_beq, Bool.false_beq]; with_reducible rfl)) (by simp (maxSteps := 2000000) (disch := first | decide | omega | (simp only [List.length_append, List.length_cons, List.length_nil, List.length_take, List.length_drop]; omega)) only [Try.f11, kNewR, kTabG, kTimes, cfgRc, tyTab, hm1, hm4, go_sem, ↓reduceIte, reduceCtorEq, Nat.reduceLT, Nat.reduceSub, Nat.reduceAdd, Nat.reduceMul, Nat.reduceEqDiff, Nat.reduceBEq, Nat.reduceBNe, Nat.reduceLeDiff, Nat.reduceDiv, Nat.reduceMod, Nat.reducePow, List.reduceReplicate, UInt8.reduceOfNat, UInt32.reduceOfNat, UInt64.reduceOfNat, Int.reduceLE, Int.reduceLT, Int.reduceNeg, Int.reduceToNat, Int.reduceAdd, Int.reduceSub, Int.reduceMul, Int.reduceEq, UInt64.reduceToNat, UInt8.reduceToNat, UInt32.reduceToNat, u64nat, xor64, and64, or64, xor64r, and64r, shr64, shr64l, shl64]; rfl) (by simp only [go_sem, Nat.reduceBEq, Nat.reduceEqDiff, Nat.reduceAdd, ↓reduceIte, reduceCtorEq, List.reduceReplicate, List.replicate]; rfl) (by first | exact True.intro | (simp only [Obs, and_true, true_and]; generalize ((ks.getD m1 [0, 0, 0, 0]).getD ((k + 1) % 4) 0).toNat = z1 at *; omega)) ?_ | refine RunD.not (by first | (simp only [go_sem, Bool.true_beq, Bool.false_beq]; done) | (simp only [go_sem, Bool.true_beq, Bool.false_beq]; with_reducible rfl)) (by simp only [go_sem, Nat.reduceBEq, Nat.reduceEqDiff, Nat.reduceAdd, ↓reduceIte, reduceCtorEq, List.reduceReplicate, List.replicate]; rfl) ?_)
                refine RunD.nil ?_
                refine ⟨by kernel_rfl, ?_⟩
                refine Tri.seq (Tri.regT ((cfgRc_ok hT).pins _) ?_)
                repeat (first | refine RunT.one (by first | exact wantedA_none rfl | (simp only [go_sem, Bool.true_beq, Bool.false_beq]; done) | (simp only [go_sem, Bool.true_beq, Bool.false_beq]; with_reducible rfl)) (by simp (maxSteps := 2000000) (disch := first | decide | omega | (simp only [List.length_append, List.length_cons, List.length_nil, List.length_take, List.length_drop]; omega)) only [Try.f11, kNewR, kTabG, kTimes, cfgRc, tyTab, hm1, hm4, go_sem, ↓reduceIte, reduceCtorEq, Nat.reduceLT, Nat.reduceSub, Nat.reduceAdd, Nat.reduceMul, Nat.reduceEqDiff, Nat.reduceBEq, Nat.reduceBNe, Nat.reduceLeDiff, Nat.reduceDiv, Nat.reduceMod, Nat.reducePow, List.reduceReplicate, UInt8.reduceOfNat, UInt32.reduceOfNat, UInt64.reduceOfNat, Int.reduceLE, Int.reduceLT, Int.reduceNeg, Int.reduceToNat, Int.reduceAdd, Int.reduceSub, Int.reduceMul, Int.reduceEq, UInt64.reduceToNat, UInt8.reduceToNat, UInt32.reduceToNat, u64nat, xor64, and64, or64, xor64r, and64r, shr64, shr64l, shl64]; rfl) (by simp only [go_sem, Nat.reduceBEq, Nat.reduceEqDiff, Nat.reduceAdd, ↓reduceIte, reduceCtorEq, List.reduceReplicate, List.replicate]; rfl) (by first | exact True.intro | (simp only [Obs, and_true, true_and]; omega) | (simp [Obs, AV.sizeL, AV.size, Kd.sz]; done) | (simp [Obs, AV.sizeL, AV.size, Kd.sz]; omega)) ?_ | refine RunT.not (by first | (simp only [go_sem, Bool.true_beq, Bool.false_beq]; done) | (simp only [go_sem, Bool.true_beq, Bool.false_beq]; with_reducible rfl)) (by simp only [go_sem, Nat.reduceBEq, Nat.reduceEqDiff, Nat.reduceAdd, ↓reduceIte, reduceCtorEq, List.reduceReplicate, List.replicate]; rfl) ?_)
                refine RunT.nil ?_
                refine Tri.split (by simp only [AS.ev, go_sem, ↓reduceIte, reduceCtorEq, Nat.reduceLT, Nat.reduceSub, Nat.reduceAdd, Nat.reduceMul, Nat.reduceEqDiff, Nat.reduceBEq, Nat.reduceBNe, Nat.reduceLeDiff, Nat.reduceDiv, Nat.reduceMod, Nat.reducePow, List.reduceReplicate, UInt8.reduceOfNat, UInt32.reduceOfNat, UInt64.reduceOfNat, Int.reduceLE, Int.reduceLT, Int.reduceNeg, Int.reduceToNat, Int.reduceAdd, Int.reduceSub, Int.reduceMul, Int.reduceEq, UInt64.reduceToNat, UInt8.reduceToNat, UInt32.reduceToNat]; rfl) (fun hg => ?_) (fun hg => ?_)
                · have hg' : k = 0 := by have := of_decide_eq_true hg; omega
                  refine (Tri.rgnT ((cfgRc_ok hT).pins _) ?_)
                  repeat (first | refine RunT.one (by first | exact wantedA_none rfl | (simp only [go_sem, Bool.true_beq, Bool.false_beq]; done) | (simp only [go_sem, Bool.true_beq, Bool.false_beq]; with_reducible rfl)) (by simp (maxSteps := 2000000) (disch := first | decide | omega | (simp only [List.length_append, List.length_cons, List.length_nil, List.length_take, List.length_drop]; omega)) only [Try.f11, kNewR, kTabG, kTimes, cfgRc, tyTab, hm1, hm4, go_sem, ↓reduceIte, reduceCtorEq, Nat.reduceLT, Nat.reduceSub, Nat.reduceAdd, Nat.reduceMul, Nat.reduceEqDiff, Nat.reduceBEq, Nat.reduceBNe, Nat.reduceLeDiff, Nat.reduceDiv, Nat.reduceMod, Nat.reducePow, List.reduceReplicate, UInt8.reduceOfNat, UInt32.reduceOfNat, UInt64.reduceOfNat, Int.reduceLE, Int.reduceLT, Int.reduceNeg, Int.reduceToNat, Int.reduceAdd, Int.reduceSub, Int.reduceMul, Int.reduceEq, UInt64.reduceToNat, UInt8.reduceToNat, UInt32.reduceToNat, u64nat, xor64, and64, or64, xor64r, and64r, shr64, shr64l, shl64]; rfl) (by simp only [go_sem, Nat.reduceBEq, Nat.reduceEqDiff, Nat.reduceAdd, ↓reduceIte, reduceCtorEq, List.reduceReplicate, List.replicate]; rfl) (by first | exact True.intro | (simp only [Obs, and_true, true_and]; omega) | (simp [Obs, AV.sizeL, AV.size, Kd.sz]; done) | (simp [Obs, AV.sizeL, AV.size, Kd.sz]; omega)) ?_ | refine RunT.not (by first | (simp only [go_sem, Bool.true_beq, Bool.false_beq]; done) | (simp only [go_sem, Bool.true_beq, Bool.false_beq]; with_reducible rfl)) (by simp only [go_sem, Nat.reduceBEq, Nat.reduceEqDiff, Nat.reduceAdd, ↓reduceIte, reduceCtorEq, List.reduceReplicate, List.replicate]; rfl) ?_)
                  refine RunT.nil ?_
                  try simp only [InBlock, Then]
                  refine ⟨_, (by simp only [rkX, if_pos hf', if_pos hg']; rfl), ?_⟩
                  refine Wk.of ?_ ?_ rfl rfl
                  · simp only [lessTs, List.reduceReplicate, List.cons_append, List.nil_append, hn1] <;> ((repeat' apply And.intro) <;> first | rfl | trivial)
                  · simp only [lessHs, hn1] <;> ((repeat' apply And.intro) <;> first | rfl | trivial)
                · have hg' : ¬ k = 0 := by have := of_decide_eq_false hg; omega
                  refine Tri.skip ?_
                  refine ⟨_, (by simp only [rkX, if_pos hf', if_neg hg']; rfl), ?_⟩
                  refine Wk.of ?_ ?_ rfl rfl
                  · simp only [lessTs, List.reduceReplicate, List.cons_append, List.nil_append, hn1] <;> ((repeat' apply And.intro) <;> first | rfl | trivial)
                  · simp only [lessHs, hn1] <;> ((repeat' apply And.intro) <;> first | rfl | trivial)
              · have hf' : ¬ i % 4 = 0 := by have := of_decide_eq_false hf; omega
                refine Tri.skp ?_
                refine ⟨_, (by simp only [rkX, if_neg hf']; rfl), ?_⟩
                refine Wk.of ?_ ?_ rfl rfl
                · simp only [lessTs, List.reduceReplicate, List.cons_append, List.nil_append, hn1] <;> ((repeat' apply And.intro) <;> first | rfl | trivial)
                · simp only [lessHs, hn1] <;> ((repeat' apply And.intro) <;> first | rfl | trivial)
            · intro x hx
              refine Tri.at (by first | (simp only [Try.f11, kNewR, kTabG, kTimes, cfgRc, tyTab, hm1, hm4, Con.start, go_sem, ↓reduceIte, reduceCtorEq, Nat.reduceLT, Nat.reduceSub, Nat.reduceAdd, Nat.reduceMul, Nat.reduceEqDiff, Nat.reduceBEq, Nat.reduceBNe, Nat.reduceLeDiff, Nat.reduceDiv, Nat.reduceMod, Nat.reducePow, List.reduceReplicate, UInt8.reduceOfNat, UInt32.reduceOfNat, UInt64.reduceOfNat, Int.reduceLE, Int.reduceLT, Int.reduceNeg, Int.reduceToNat, Int.reduceAdd, Int.reduceSub, Int.reduceMul, Int.reduceEq, UInt64.reduceToNat, UInt8.reduceToNat, UInt32.reduceToNat]; rfl) | rfl) ?_
              refine (Tri.drnT (mixed) ((cfgRc_ok hT).pins _) ?_)
              repeat (first | refine RunD.one (by first | exact wantedA_none rfl | (simp only [go_sem, Bool.true_beq, Bool.false_beq]; done) | (simp only [go_sem, Bool.true_beq, Bool.false_beq]; with_reducible rfl)) (by simp (maxSteps := 2000000) (disch := first | decide | omega | (simp only [List.length_append, List.length_cons, List.length_nil, List.length_take, List.length_drop]; omega)) only [Try.f11, kNewR, kTabG, kTimes, cfgRc, tyTab, hm1, hm4, go_sem, ↓reduceIte, reduceCtorEq, Nat.reduceLT, Nat.reduceSub, Nat.reduceAdd, Nat.reduceMul, Nat.reduceEqDiff, Nat.reduceBEq, Nat.reduceBNe, Nat.reduceLeDiff, Nat.reduceDiv, Nat.reduceMod, Nat.reducePow, List.reduceReplicate, UInt8.reduceOfNat, UInt32.reduceOfNat, UInt64.reduceOfNat, Int.reduceLE, Int.reduceLT, Int.reduceNeg, Int.reduceToNat, Int.reduceAdd, Int.reduceSub, Int.reduceMul, Int.reduceEq, UInt64.reduceToNat, UInt8.reduceToNat, UInt32.reduceToNat, u64nat, xor64, and64, or64, xor64r, and64r, shr64, shr64l, shl64]; rfl) (by simp only [go_sem, Nat.reduceBEq, Nat.reduceEqDiff, Nat.reduceAdd, ↓reduceIte, reduceCtorEq, List.reduceReplicate, List.replicate]; rfl) (by first | exact True.intro | (simp only [Obs, and_true, true_and]; omega) | (simp [Obs, AV.sizeL, AV.size, Kd.sz]; done) | (simp [Obs, AV.sizeL, AV.size, Kd.sz]; omega)) ?_ | refine RunD.not (by first | (simp only [go_sem, Bool.true_beq, Bool.false_beq]; done) | (simp only [go_sem, Bool.true_beq, Bool.false_beq]; with_reducible rfl)) (by simp only [go_sem, Nat.reduceBEq, Nat.reduceEqDiff, Nat.reduceAdd, ↓reduceIte, reduceCtorEq, List.reduceReplicate, List.replicate]; rfl) ?_)
              refine RunD.nil ?_
              refine ⟨by kernel_rfl, ?_⟩
              try simp only [InBlock, Then]
              refine (Tri.rgnT ((cfgRc_ok hT).pins _) ?_)
              repeat (first | refine RunT.one (by first | exact wantedA_none rfl | (simp only [go_sem, Bool.true_beq, Bool.false_beq]; done) | (simp only [go_sem, Bool.true_beq, Bool.false_beq]; with_reducible rfl)) (by simp (maxSteps := 2000000) (disch := first | decide | omega | (simp only [List.length_append, List.length_cons, List.length_nil, List.length_take, List.length_drop]; omega)) only [Try.f11, kNewR, kTabG, kTimes, cfgRc, tyTab, hm1, hm4, go_sem, ↓reduceIte, reduceCtorEq, Nat.reduceLT, Nat.reduceSub, Nat.reduceAdd, Nat.reduceMul, Nat.reduceEqDiff, Nat.reduceBEq, Nat.reduceBNe, Nat.reduceLeDiff, Nat.reduceDiv, Nat.reduceMod, Nat.reducePow, List.reduceReplicate, UInt8.reduceOfNat, UInt32.reduceOfNat, UInt64.reduceOfNat, Int.reduceLE, Int.reduceLT, Int.reduceNeg, Int.reduceToNat, Int.reduceAdd, Int.reduceSub, Int.reduceMul, Int.reduceEq, UInt64.reduceToNat, UInt8.reduceToNat, UInt32.reduceToNat, u64nat, xor64, and64, or64, xor64r, and64r, shr64, shr64l, shl64]; rfl) (by simp only [go_sem, Nat.reduceBEq, Nat.reduceEqDiff, Nat.reduceAdd, ↓reduceIte, reduceCtorEq, List.reduceReplicate, List.replicate]; rfl) (by first | exact True.intro | (simp only [Obs, and_true, true_and]; omega) | (simp [Obs, AV.sizeL, AV.size, Kd.sz]; done) | (simp [Obs, AV.sizeL, AV.size, Kd.sz]; omega)) ?_ | refine RunT.not (by first | (simp only [go_sem, Bool.true_beq, Bool.false_beq]; done) | (simp only [go_sem, Bool.true_beq, Bool.false_beq]; with_reducible rfl)) (by simp only [go_sem, Nat.reduceBEq, Nat.reduceEqDiff, Nat.reduceAdd, ↓reduceIte, reduceCtorEq, List.reduceReplicate, List.replicate]; rfl) ?_)
              refine RunT.nil ?_
              try simp only [InBlock, Then]
              refine ⟨k+1, (by omega), (by omega), Wk.of ?_ ?_ rfl rfl⟩
              · simp only [lessTs, List.reduceReplicate, List.cons_append, List.nil_append, rkI, if_neg he', hks, hx, hn4] <;> ((repeat' apply And.intro) <;> first | rfl | trivial)
              · simp only [lessHs, rkI, if_neg he', hks, hx, hn4] <;> ((repeat' apply And.intro) <;> first | rfl | trivial)
        · have hd' : k = 4 := by have := of_decide_eq_false hd; omega
          subst hd'
          refine Tri.exit ?_
          simp only [Then, InBlock, if_true]
          subst hks
          generalize hks : rkI T key r ks0 i 4 = ks
          by_cases hq : 4 ≤ i
          · have hq2 : decide ((i : Int) < 4) = false := decide_eq_false (by omega)
            refine Tri.seq (Tri.regT ((cfgRc_ok hT).pins _) ?_)
            repeat (first | refine RunT.one (by first | exact wantedA_none rfl | (simp only [go_sem, Bool.true_beq, Bool.false_beq]; done) | (simp only [go_sem, Bool.true_beq, Bool.false_beq]; with_reducible rfl)) (by simp (maxSteps := 2000000) (disch := first | decide | omega | (simp only [List.length_append, List.length_cons, List.length_nil, List.length_take, List.length_drop]; omega)) only [Try.f11, kNewR, kTabG, kTimes, cfgRc, tyTab, hq2, go_sem, ↓reduceIte, reduceCtorEq, Nat.reduceLT, Nat.reduceSub, Nat.reduceAdd, Nat.reduceMul, Nat.reduceEqDiff, Nat.reduceBEq, Nat.reduceBNe, Nat.reduceLeDiff, Nat.reduceDiv, Nat.reduceMod, Nat.reducePow, List.reduceReplicate, UInt8.reduceOfNat, UInt32.reduceOfNat, UInt64.reduceOfNat, Int.reduceLE, Int.reduceLT, Int.reduceNeg, Int.reduceToNat, Int.reduceAdd, Int.reduceSub, Int.reduceMul, Int.reduceEq, UInt64.reduceToNat, UInt8.reduceToNat, UInt32.reduceToNat, u64nat, xor64, and64, or64, xor64r, and64r, shr64, shr64l, shl64]; rfl) (by simp only [go_sem, Nat.reduceBEq, Nat.reduceEqDiff, Nat.reduceAdd, ↓reduceIte, reduceCtorEq, List.reduceReplicate, List.replicate]; rfl) (by first | exact True.intro | (simp only [Obs, and_true, true_and]; omega) | (simp [Obs, AV.sizeL, AV.size, Kd.sz]; done) | (simp [Obs, AV.sizeL, AV.size, Kd.sz]; omega)) ?_ | refine RunT.not (by first | (simp only [go_sem, Bool.true_beq, Bool.false_beq]; done) | (simp only [go_sem, Bool.true_beq, Bool.false_beq]; with_reducible rfl)) (by simp only [go_sem, Nat.reduceBEq, Nat.reduceEqDiff, Nat.reduceAdd, ↓reduceIte, reduceCtorEq, List.reduceReplicate, List.replicate]; rfl) ?_)
            refine RunT.nil ?_
            refine Tri.split (by simp only [AS.ev, go_sem, ↓reduceIte, reduceCtorEq, Nat.reduceLT, Nat.reduceSub, Nat.reduceAdd, Nat.reduceMul, Nat.reduceEqDiff, Nat.reduceBEq, Nat.reduceBNe, Nat.reduceLeDiff, Nat.reduceDiv, Nat.reduceMod, Nat.reducePow, List.reduceReplicate, UInt8.reduceOfNat, UInt32.reduceOfNat, UInt64.reduceOfNat, Int.reduceLE, Int.reduceLT, Int.reduceNeg, Int.reduceToNat, Int.reduceAdd, Int.reduceSub, Int.reduceMul, Int.reduceEq, UInt64.reduceToNat, UInt8.reduceToNat, UInt32.reduceToNat]; rfl) (fun hv => ?_) (fun hv => ?_)
            · have hv' : i % 4 = 0 := by have := of_decide_eq_true hv; omega
              have hif : 4 ≤ i ∧ i % 4 = 0 := ⟨hq, hv'⟩
              refine (Tri.rgnT ((cfgRc_ok hT).pins _) ?_)
              repeat (first | refine RunT.one (by first | exact wantedA_none rfl | (simp only [go_sem, Bool.true_beq, Bool.false_beq]; done) | (simp only [go_sem, Bool.true_beq, Bool.false_beq]; with_reducible rfl)) (by simp (maxSteps := 2000000) (disch := first | decide | omega | (simp only [List.length_append, List.length_cons, List.length_nil, List.length_take, List.length_drop]; omega)) only [Try.f11, kNewR, kTabG, kTimes, cfgRc, tyTab, hq2, go_sem, ↓reduceIte, reduceCtorEq, Nat.reduceLT, Nat.reduceSub, Nat.reduceAdd, Nat.reduceMul, Nat.reduceEqDiff, Nat.reduceBEq, Nat.reduceBNe, Nat.reduceLeDiff, Nat.reduceDiv, Nat.reduceMod, Nat.reducePow, List.reduceReplicate, UInt8.reduceOfNat, UInt32.reduceOfNat, UInt64.reduceOfNat, Int.reduceLE, Int.reduceLT, Int.reduceNeg, Int.reduceToNat, Int.reduceAdd, Int.reduceSub, Int.reduceMul, Int.reduceEq, UInt64.reduceToNat, UInt8.reduceToNat, UInt32.reduceToNat, u64nat, xor64, and64, or64, xor64r, and64r, shr64, shr64l, shl64]; rfl) (by simp only [go_sem, Nat.reduceBEq, Nat.reduceEqDiff, Nat.reduceAdd, ↓reduceIte, reduceCtorEq, List.reduceReplicate, List.replicate]; rfl) (by first | exact True.intro | (simp only [Obs, and_true, true_and]; omega) | (simp [Obs, AV.sizeL, AV.size, Kd.sz]; done) | (simp [Obs, AV.sizeL, AV.size, Kd.sz]; omega)) ?_ | refine RunT.not (by first | (simp only [go_sem, Bool.true_beq, Bool.false_beq]; done) | (simp only [go_sem, Bool.true_beq, Bool.false_beq]; with_reducible rfl)) (by simp only [go_sem, Nat.reduceBEq, Nat.reduceEqDiff, Nat.reduceAdd, ↓reduceIte, reduceCtorEq, List.reduceReplicate, List.replicate]; rfl) ?_)
              refine RunT.nil ?_
              try simp only [InBlock, Then]
              refine (Tri.rgnT ((cfgRc_ok hT).pins _) ?_)
              repeat (first | refine RunT.one (by first | exact wantedA_none rfl | (simp only [go_sem, Bool.true_beq, Bool.false_beq]; done) | (simp only [go_sem, Bool.true_beq, Bool.false_beq]; with_reducible rfl)) (by simp (maxSteps := 2000000) (disch := first | decide | omega | (simp only [List.length_append, List.length_cons, List.length_nil, List.length_take, List.length_drop]; omega)) only [Try.f11, kNewR, kTabG, kTimes, cfgRc, tyTab, hq2, go_sem, ↓reduceIte, reduceCtorEq, Nat.reduceLT, Nat.reduceSub, Nat.reduceAdd, Nat.reduceMul, Nat.reduceEqDiff, Nat.reduceBEq, Nat.reduceBNe, Nat.reduceLeDiff, Nat.reduceDiv, Nat.reduceMod, Nat.reducePow, List.reduceReplicate, UInt8.reduceOfNat, UInt32.reduceOfNat, UInt64.reduceOfNat, Int.reduceLE, Int.reduceLT, Int.reduceNeg, Int.reduceToNat, Int.reduceAdd, Int.reduceSub, Int.reduceMul, Int.reduceEq, UInt64.reduceToNat, UInt8.reduceToNat, UInt32.reduceToNat, u64nat, xor64, and64, or64, xor64r, and64r, shr64, shr64l, shl64]; rfl) (by simp only [go_sem, Nat.reduceBEq, Nat.reduceEqDiff, Nat.reduceAdd, ↓reduceIte, reduceCtorEq, List.reduceReplicate, List.replicate]; rfl) (by first | exact True.intro | (simp only [Obs, and_true, true_and]; omega) | (simp [Obs, AV.sizeL, AV.size, Kd.sz]; done) | (simp [Obs, AV.sizeL, AV.size, Kd.sz]; omega)) ?_ | refine RunT.not (by first | (simp only [go_sem, Bool.true_beq, Bool.false_beq]; done) | (simp only [go_sem, Bool.true_beq, Bool.false_beq]; with_reducible rfl)) (by simp only [go_sem, Nat.reduceBEq, Nat.reduceEqDiff, Nat.reduceAdd, ↓reduceIte, reduceCtorEq, List.reduceReplicate, List.replicate]; rfl) ?_)
              refine RunT.nil ?_
              try simp only [InBlock, Then]
              refine ⟨i+1, (by omega), (by omega), Wk.of ?_ ?_ rfl rfl⟩
              · simp only [lessTs, List.reduceReplicate, List.cons_append, List.nil_append, rkO, hr, hk0, hks, if_pos hif] <;> ((repeat' apply And.intro) <;> first | rfl | trivial)
              · simp only [lessHs, rkO, hr, hk0, hks, if_pos hif] <;> ((repeat' apply And.intro) <;> first | rfl | trivial)
            · have hv' : ¬ i % 4 = 0 := by have := of_decide_eq_false hv; omega
              have hif : ¬ (4 ≤ i ∧ i % 4 = 0) := fun h => hv' h.2
              refine Tri.skip ?_
              simp only [InBlock, Then]
              refine (Tri.rgnT ((cfgRc_ok hT).pins _) ?_)
              repeat (first | refine RunT.one (by first | exact wantedA_none rfl | (simp only [go_sem, Bool.true_beq, Bool.false_beq]; done) | (simp only [go_sem, Bool.true_beq, Bool.false_beq]; with_reducible rfl)) (by simp (maxSteps := 2000000) (disch := first | decide | omega | (simp only [List.length_append, List.length_cons, List.length_nil, List.length_take, List.length_drop]; omega)) only [Try.f11, kNewR, kTabG, kTimes, cfgRc, tyTab, hq2, go_sem, ↓reduceIte, reduceCtorEq, Nat.reduceLT, Nat.reduceSub, Nat.reduceAdd, Nat.reduceMul, Nat.reduceEqDiff, Nat.reduceBEq, Nat.reduceBNe, Nat.reduceLeDiff, Nat.reduceDiv, Nat.reduceMod, Nat.reducePow, List.reduceReplicate, UInt8.reduceOfNat, UInt32.reduceOfNat, UInt64.reduceOfNat, Int.reduceLE, Int.reduceLT, Int.reduceNeg, Int.reduceToNat, Int.reduceAdd, Int.reduceSub, Int.reduceMul, Int.reduceEq, UInt64.reduceToNat, UInt8.reduceToNat, UInt32.reduceToNat, u64nat, xor64, and64, or64, xor64r, and64r, shr64, shr64l, shl64]; rfl) (by simp only [go_sem, Nat.reduceBEq, Nat.reduceEqDiff, Nat.reduceAdd, ↓reduceIte, reduceCtorEq, List.reduceReplicate, List.replicate]; rfl) (by first | exact True.intro | (simp only [Obs, and_true, true_and]; omega) | (simp [Obs, AV.sizeL, AV.size, Kd.sz]; done) | (simp [Obs, AV.sizeL, AV.size, Kd.sz]; omega)) ?_ | refine RunT.not (by first | (simp only [go_sem, Bool.true_beq, Bool.false_beq]; done) | (simp only [go_sem, Bool.true_beq, Bool.false_beq]; with_reducible rfl)) (by simp only [go_sem, Nat.reduceBEq, Nat.reduceEqDiff, Nat.reduceAdd, ↓reduceIte, reduceCtorEq, List.reduceReplicate, List.replicate]; rfl) ?_)
              refine RunT.nil ?_
              try simp only [InBlock, Then]
              refine ⟨i+1, (by omega), (by omega), Wk.of ?_ ?_ rfl rfl⟩
              · simp only [lessTs, List.reduceReplicate, List.cons_append, List.nil_append, rkO, hr, hk0, hks, if_neg hif] <;> ((repeat' apply And.intro) <;> first | rfl | trivial)
              · simp only [lessHs, rkO, hr, hk0, hks, if_neg hif] <;> ((repeat' apply And.intro) <;> first | rfl | trivial)
          · have hq2 : decide ((i : Int) < 4) = true := decide_eq_true (by omega)
            have hif : ¬ (4 ≤ i ∧ i % 4 = 0) := fun h => hq h.1
            refine Tri.seq (Tri.regT ((cfgRc_ok hT).pins _) ?_)
            repeat (first | refine RunT.one (by first | exact wantedA_none rfl | (simp only [go_sem, Bool.true_beq, Bool.false_beq]; done) | (simp only [go_sem, Bool.true_beq, Bool.false_beq]; with_reducible rfl)) (by simp (maxSteps := 2000000) (disch := first | decide | omega | (simp only [List.length_append, List.length_cons, List.length_nil, List.length_take, List.length_drop]; omega)) only [Try.f11, kNewR, kTabG, kTimes, cfgRc, tyTab, hq2, go_sem, ↓reduceIte, reduceCtorEq, Nat.reduceLT, Nat.reduceSub, Nat.reduceAdd, Nat.reduceMul, Nat.reduceEqDiff, Nat.reduceBEq, Nat.reduceBNe, Nat.reduceLeDiff, Nat.reduceDiv, Nat.reduceMod, Nat.reducePow, List.reduceReplicate, UInt8.reduceOfNat, UInt32.reduceOfNat, UInt64.reduceOfNat, Int.reduceLE, Int.reduceLT, Int.reduceNeg, Int.reduceToNat, Int.reduceAdd, Int.reduceSub, Int.reduceMul, Int.reduceEq, UInt64.reduceToNat, UInt8.reduceToNat, UInt32.reduceToNat, u64nat, xor64, and64, or64, xor64r, and64r, shr64, shr64l, shl64]; rfl) (by simp only [go_sem, Nat.reduceBEq, Nat.reduceEqDiff, Nat.reduceAdd, ↓reduceIte, reduceCtorEq, List.reduceReplicate, List.replicate]; rfl) (by first | exact True.intro | (simp only [Obs, and_true, true_and]; omega) | (simp [Obs, AV.sizeL, AV.size, Kd.sz]; done) | (simp [Obs, AV.sizeL, AV.size, Kd.sz]; omega)) ?_ | refine RunT.not (by first | (simp only [go_sem, Bool.true_beq, Bool.false_beq]; done) | (simp only [go_sem, Bool.true_beq, Bool.false_beq]; with_reducible rfl)) (by simp only [go_sem, Nat.reduceBEq, Nat.reduceEqDiff, Nat.reduceAdd, ↓reduceIte, reduceCtorEq, List.reduceReplicate, List.replicate]; rfl) ?_)
            refine RunT.nil ?_
            refine Tri.cF rfl ?_
            refine Tri.skip ?_
            simp only [InBlock, Then]
            refine (Tri.rgnT ((cfgRc_ok hT).pins _) ?_)
            repeat (first | refine RunT.one (by first | exact wantedA_none rfl | (simp only [go_sem, Bool.true_beq, Bool.false_beq]; done) | (simp only [go_sem, Bool.true_beq, Bool.false_beq]; with_reducible rfl)) (by simp (maxSteps := 2000000) (disch := first | decide | omega | (simp only [List.length_append, List.length_cons, List.length_nil, List.length_take, List.length_drop]; omega)) only [Try.f11, kNewR, kTabG, kTimes, cfgRc, tyTab, hq2, go_sem, ↓reduceIte, reduceCtorEq, Nat.reduceLT, Nat.reduceSub, Nat.reduceAdd, Nat.reduceMul, Nat.reduceEqDiff, Nat.reduceBEq, Nat.reduceBNe, Nat.reduceLeDiff, Nat.reduceDiv, Nat.reduceMod, Nat.reducePow, List.reduceReplicate, UInt8.reduceOfNat, UInt32.reduceOfNat, UInt64.reduceOfNat, Int.reduceLE, Int.reduceLT, Int.reduceNeg, Int.reduceToNat, Int.reduceAdd, Int.reduceSub, Int.reduceMul, Int.reduceEq, UInt64.reduceToNat, UInt8.reduceToNat, UInt32.reduceToNat, u64nat, xor64, and64, or64, xor64r, and64r, shr64, shr64l, shl64]; rfl) (by simp only [go_sem, Nat.reduceBEq, Nat.reduceEqDiff, Nat.reduceAdd, ↓reduceIte, reduceCtorEq, List.reduceReplicate, List.replicate]; rfl) (by first | exact True.intro | (simp only [Obs, and_true, true_and]; omega) | (simp [Obs, AV.sizeL, AV.size, Kd.sz]; done) | (simp [Obs, AV.sizeL, AV.size, Kd.sz]; omega)) ?_ | refine RunT.not (by first | (simp only [go_sem, Bool.true_beq, Bool.false_beq]; done) | (simp only [go_sem, Bool.true_beq, Bool.false_beq]; with_reducible rfl)) (by simp only [go_sem, Nat.reduceBEq, Nat.reduceEqDiff, Nat.reduceAdd, ↓reduceIte, reduceCtorEq, List.reduceReplicate, List.replicate]; rfl) ?_)
            refine RunT.nil ?_
            try simp only [InBlock, Then]
            refine ⟨i+1, (by omega), (by omega), Wk.of ?_ ?_ rfl rfl⟩
            · simp only [lessTs, List.reduceReplicate, List.cons_append, List.nil_append, rkO, hr, hk0, hks, if_neg hif] <;> ((repeat' apply And.intro) <;> first | rfl | trivial)
            · simp only [lessHs, rkO, hr, hk0, hks, if_neg hif] <;> ((repeat' apply And.intro) <;> first | rfl | trivial)
    · refine Tri.exit ?_
      have hc' : i = 44 := by have := of_decide_eq_false hc; omega
      subst hc'
      simp only [Then, InBlock, if_true]
      refine Tri.seq (Tri.regT ((cfgRc_ok hT).pins _) ?_)
      repeat (first | refine RunT.one (by first | exact wantedA_none rfl | (simp only [go_sem, Bool.true_beq, Bool.false_beq]; done) | (simp only [go_sem, Bool.true_beq, Bool.false_beq]; with_reducible rfl)) (by simp (maxSteps := 2000000) (disch := first | decide | omega | (simp only [List.length_append, List.length_cons, List.length_nil, List.length_take, List.length_drop]; omega)) only [Try.f11, kNewR, kTabG, kTimes, cfgRc, tyTab, go_sem, ↓reduceIte, reduceCtorEq, Nat.reduceLT, Nat.reduceSub, Nat.reduceAdd, Nat.reduceMul, Nat.reduceEqDiff, Nat.reduceBEq, Nat.reduceBNe, Nat.reduceLeDiff, Nat.reduceDiv, Nat.reduceMod, Nat.reducePow, List.reduceReplicate, UInt8.reduceOfNat, UInt32.reduceOfNat, UInt64.reduceOfNat, Int.reduceLE, Int.reduceLT, Int.reduceNeg, Int.reduceToNat, Int.reduceAdd, Int.reduceSub, Int.reduceMul, Int.reduceEq, UInt64.reduceToNat, UInt8.reduceToNat, UInt32.reduceToNat, u64nat, xor64, and64, or64, xor64r, and64r, shr64, shr64l, shl64]; rfl) (by simp only [go_sem, Nat.reduceBEq, Nat.reduceEqDiff, Nat.reduceAdd, ↓reduceIte, reduceCtorEq, List.reduceReplicate, List.replicate]; rfl) (by first | exact True.intro | (simp only [Obs, and_true, true_and]; omega) | (simp [Obs, AV.sizeL, AV.size, Kd.sz]; done) | (simp [Obs, AV.sizeL, AV.size, Kd.sz]; omega)) ?_ | refine RunT.not (by first | (simp only [go_sem, Bool.true_beq, Bool.false_beq]; done) | (simp only [go_sem, Bool.true_beq, Bool.false_beq]; with_reducible rfl)) (by simp only [go_sem, Nat.reduceBEq, Nat.reduceEqDiff, Nat.reduceAdd, ↓reduceIte, reduceCtorEq, List.reduceReplicate, List.replicate]; rfl) ?_)
      refine RunT.nil ?_
      refine Tri.ret ?_
      refine Con.fin (.inl rfl) (by simp only [Try.f11, cfgRc, tyTab, resA, resA1, go_sem, ↓reduceIte, reduceCtorEq, Nat.reduceLT, Nat.reduceSub, Nat.reduceAdd, Nat.reduceMul, Nat.reduceEqDiff, Nat.reduceBEq, Nat.reduceBNe, Nat.reduceLeDiff, Nat.reduceDiv, Nat.reduceMod, Nat.reducePow, List.reduceReplicate, UInt8.reduceOfNat, UInt32.reduceOfNat, UInt64.reduceOfNat, Int.reduceLE, Int.reduceLT, Int.reduceNeg, Int.reduceToNat, Int.reduceAdd, Int.reduceSub, Int.reduceMul, Int.reduceEq, UInt64.reduceToNat, UInt8.reduceToNat, UInt32.reduceToNat]; rfl) (by simp only [Obs, and_true, true_and]) rfl ?_ rfl rfl
      have e : (kNewR.out (key, u)).fin = [.pure a16 key, .pure cipK (T, (rkO T key 44).2, ())] := by
        show [AV.pure a16 key, AV.pure cipK (newC key)] = _
        rw [hfin]
      rw [e, hk0]
      exact ⟨rfl, rfl, trivial⟩
theorem newR_sum : FSumOK Try.prog (cfgRc []).G 11 kNewR.sum := Con.sumOK (cfgRc_ok (T := tabI 256) rfl) kNewR Try.func11 rfl rfl (Con.of_inv _ _ _) (newR_body rfl)
end Go.Proofs.Yticgfjalikmniaa

namespace Go.Proofs.Yticgfjalikmniaa
set_option linter.unusedVariables false
set_option linter.unusedSimpArgs false
open Go.Vc Go.Proofs
set_option linter.unusedSimpArgs false
set_option maxRecDepth 100000
theorem raI_eq (keys : List (List UInt8)) (s : List UInt8) : ∀ i, raI keys s i = addI keys 0 s i
  | 0 => rfl
  | i + 1 => by
    simp only [raI, addI, raI_eq keys s i, Nat.mul_zero, Nat.zero_add]
    rfl
theorem len16L {s : List UInt8} (h : s.length = 16) : ∃ a b c d e f g i j k l m n o p q, s = [a, b, c, d, e, f, g, i, j, k, l, m, n, o, p, q] := by
  match s, h with
  | [a, b, c, d, e, f, g, i, j, k, l, m, n, o, p, q], _ => exact ⟨a, b, c, d, e, f, g, i, j, k, l, m, n, o, p, q, rfl⟩
theorem rsC_eq (box : List UInt8) {s : List UInt8} (h : s.length = 16) : rsC box s 4 = shI box s 16 := by
  obtain ⟨a, b, c, d, e, f, g, i, j, k, l, m, n, o, p, q, rfl⟩ := len16L h
  kernel_rfl
theorem mixE (a b c d : UInt8) : tms a 2 ^^^ tms b 3 ^^^ c ^^^ d = b ^^^ c ^^^ d ^^^ twice (a ^^^ b) := by
  rw [tms2, tms3, twice_xor]
  ac_rfl
theorem xx (a b : UInt8) : a ^^^ (a ^^^ b) = b := by rw [← UInt8.xor_assoc, UInt8.xor_self, UInt8.zero_xor]
theorem mix0 (a b c d : UInt8) : a ^^^ (a ^^^ b ^^^ c ^^^ d) ^^^ twice (a ^^^ b) = tms a 2 ^^^ tms b 3 ^^^ c ^^^ d := by
  rw [mixE, show a ^^^ b ^^^ c ^^^ d = a ^^^ (b ^^^ c ^^^ d) by ac_rfl, xx]
theorem mix1 (a b c d : UInt8) : b ^^^ (a ^^^ b ^^^ c ^^^ d) ^^^ twice (b ^^^ c) = tms b 2 ^^^ tms c 3 ^^^ d ^^^ a := by
  rw [mixE, show a ^^^ b ^^^ c ^^^ d = b ^^^ (c ^^^ d ^^^ a) by ac_rfl, xx]
theorem mix2 (a b c d : UInt8) : c ^^^ (a ^^^ b ^^^ c ^^^ d) ^^^ twice (c ^^^ d) = tms c 2 ^^^ tms d 3 ^^^ a ^^^ b := by
  rw [mixE, show a ^^^ b ^^^ c ^^^ d = c ^^^ (d ^^^ a ^^^ b) by ac_rfl, xx]
theorem mix3 (a b c d : UInt8) : d ^^^ (a ^^^ b ^^^ c ^^^ d) ^^^ twice (d ^^^ a) = tms d 2 ^^^ tms a 3 ^^^ b ^^^ c := by
  rw [mixE, show a ^^^ b ^^^ c ^^^ d = d ^^^ (a ^^^ b ^^^ c) by ac_rfl, xx]
def mx4 (a b c d : UInt8) : List UInt8 := [tms a 2 ^^^ tms b 3 ^^^ c ^^^ d, tms b 2 ^^^ tms c 3 ^^^ d ^^^ a, tms c 2 ^^^ tms d 3 ^^^ a ^^^ b, tms d 2 ^^^ tms a 3 ^^^ b ^^^ c]
def mA (a b c d : UInt8) : List UInt8 := [a ^^^ (a ^^^ b ^^^ c ^^^ d) ^^^ twice (a ^^^ b), b ^^^ (a ^^^ b ^^^ c ^^^ d) ^^^ twice (b ^^^ c), c ^^^ (a ^^^ b ^^^ c ^^^ d) ^^^ twice (c ^^^ d), d ^^^ (a ^^^ b ^^^ c ^^^ d) ^^^ twice (d ^^^ a)]
theorem mA_eq (a b c d : UInt8) : mA a b c d = mx4 a b c d := by
  simp only [mA, mx4, mix0, mix1, mix2, mix3]
theorem mixI_eq (a b c d e f g i j k l m n o p q : UInt8) : mixI [a, b, c, d, e, f, g, i, j, k, l, m, n, o, p, q] 4 = mA a b c d ++ mA e f g i ++ mA j k l m ++ mA n o p q := by
  kernel_rfl
theorem rmC_list (keys : List (List UInt8)) (t : List UInt8) {s : List UInt8} (hs : s.length = 16) (r : Nat) : rmC keys t r s 4 = addI keys r ([rmX t r 0 0, rmX t r 0 1, rmX t r 0 2, rmX t r 0 3, rmX t r 1 0, rmX t r 1 1, rmX t r 1 2, rmX t r 1 3, rmX t r 2 0, rmX t r 2 1, rmX t r 2 2, rmX t r 2 3, rmX t r 3 0, rmX t r 3 1, rmX t r 3 2, rmX t r 3 3]) 16 := by
  obtain ⟨a', b', c', d', e', f', g', i', j', k', l', m', n', o', p', q', rfl⟩ := len16L hs
  have e : ∀ X : Nat → Nat → UInt8, (∀ col row, rmX t r col row = X col row) → rmC keys t r [a', b', c', d', e', f', g', i', j', k', l', m', n', o', p', q'] 4 = addI keys r [X 0 0, X 0 1, X 0 2, X 0 3, X 1 0, X 1 1, X 1 2, X 1 3, X 2 0, X 2 1, X 2 2, X 2 3, X 3 0, X 3 1, X 3 2, X 3 3] 16 := by
    intro X hX
    simp only [rmC, rmR, hX]
    kernel_rfl
  exact e (rmX t r) fun _ _ => rfl
theorem rmC_eq (keys : List (List UInt8)) {t s : List UInt8} (ht : t.length = 16) (hs : s.length = 16) (r : Nat) : rmC keys t r s 4 = addI keys r (if r < 10 then mixI t 4 else t) 16 := by
  rw [rmC_list keys t hs]
  obtain ⟨a, b, c, d, e, f, g, i, j, k, l, m, n, o, p, q, rfl⟩ := len16L ht
  by_cases h : r < 10
  · rw [if_pos h, mixI_eq]
    simp only [mA_eq]
    refine congrArg (fun X => addI keys r X 16) ?_
    simp only [rmX, if_pos h, mx4]
    rfl
  · rw [if_neg h]
    refine congrArg (fun X => addI keys r X 16) ?_
    simp only [rmX, if_neg h]
    rfl
theorem rndI_len' (box : List UInt8) (keys : List (List UInt8)) {s : List UInt8} (h : s.length = 16) : ∀ r, (rndI box keys s r).length = 16
  | 0 => by
    show (addI keys 0 s 16).length = 16
    rw [addI_len, h]
  | r + 1 => by
    show (addI keys (r + 1) (if r + 1 < 10 then mixI (shI box (rndI box keys s r) 16) 4 else shI box (rndI box keys s r) 16) 16).length = 16
    rw [addI_len]
    split
    · rw [mixI_len, shI_len, rndI_len' box keys h r]
    · rw [shI_len, rndI_len' box keys h r]
theorem rbI_eq {box : List UInt8} {keys : List (List UInt8)} {s : List UInt8} (h : s.length = 16) : ∀ r, rbI box keys s r = rndI box keys s r
  | 0 => raI_eq keys s 16
  | r + 1 => by
    have hl := rndI_len' box keys h r
    show rmC keys (rsC box (rbI box keys s r) 4) (r + 1) (rbI box keys s r) 4 = addI keys (r + 1) (if r + 1 < 10 then mixI (shI box (rndI box keys s r) 16) 4 else shI box (rndI box keys s r) 16) 16
    rw [rbI_eq h r, rsC_eq box hl, rmC_eq keys (by rw [shI_len]; exact hl) hl]
end Go.Proofs.Yticgfjalikmniaa

namespace Go.Proofs.Yticgfjalikmniaa
set_option linter.unusedVariables false
set_option linter.unusedSimpArgs false
open Go.Vc Go.Proofs
set_option linter.unusedSimpArgs false
set_option maxRecDepth 100000
/-! What the document's stream computes. -/
def cnI (nonce : UInt64) (i : Nat) : Nat → List UInt8
  | 0 => List.replicate 16 0
  | k + 1 => ((cnI nonce i k).set k (nonce >>> UInt64.ofNat (56 - 8 * k)).toUInt8).set (8 + k) (UInt64.ofInt ((i / 16 : Nat) : Int) >>> UInt64.ofNat (56 - 8 * k)).toUInt8
theorem cnI_len (nonce : UInt64) (i : Nat) : ∀ k, (cnI nonce i k).length = 16
  | 0 => List.length_replicate
  | k + 1 => by simp only [cnI, List.length_set]; exact cnI_len nonce i k
def rsK (out b data : List UInt8) (i : Nat) : Nat → List UInt8
  | 0 => out
  | k + 1 => rsK out b data i k ++ [data.getD (i + k) 0 ^^^ b.getD k 0]
def cnt (n i : Nat) : Nat := min n (16 * ((i + 15) / 16))
def rsO (box : List UInt8) (keys : List (List UInt8)) (nonce : UInt64) (data : List UInt8) : Nat → List UInt8
  | 0 => []
  | i + 1 => if i % 16 = 0 then rsK (rsO box keys nonce data i) (rndI box keys (cnI nonce i 8) 10) data i (min 16 (data.length - i)) else rsO box keys nonce data i
theorem shr8 (a : UInt64) (n : Nat) (h : n ≤ 48) : (a >>> UInt64.ofNat n) >>> 8 = a >>> UInt64.ofNat (n + 8) := by
  apply UInt64.toNat_inj.1
  have e1 : (UInt64.ofNat n).toNat = n := by simp; omega
  have e2 : (UInt64.ofNat (n + 8)).toNat = n + 8 := by simp; omega
  rw [UInt64.toNat_shiftRight, UInt64.toNat_shiftRight, UInt64.toNat_shiftRight, e1, e2]
  show a.toNat >>> (n % 64) >>> 8 = a.toNat >>> ((n + 8) % 64)
  rw [show n % 64 = n by omega, show (n + 8) % 64 = n + 8 by omega, Nat.shiftRight_add]
theorem shr0 (a : UInt64) : a >>> UInt64.ofNat 0 = a := by
  apply UInt64.toNat_inj.1
  rw [UInt64.toNat_shiftRight]
  rfl
def dnI (a b : UInt64) : Nat → List UInt8
  | 0 => List.replicate 16 0
  | k + 1 => ((dnI a b k).set k (a >>> UInt64.ofNat (56 - 8 * k)).toUInt8).set (8 + k) (b >>> UInt64.ofNat (56 - 8 * k)).toUInt8
theorem ct_shr (a b : UInt64) : ∀ j, j ≤ 7 → (ctI a b j).1 = a >>> UInt64.ofNat (8 * j) ∧ (ctI a b j).2.1 = b >>> UInt64.ofNat (8 * j)
  | 0, _ => ⟨(shr0 a).symm, (shr0 b).symm⟩
  | j + 1, h => by
    obtain ⟨h1, h2⟩ := ct_shr a b j (by omega)
    refine ⟨?_, ?_⟩
    · show (ctI a b j).1 >>> 8 = _
      rw [h1, shr8 a _ (by omega), show 8 * (j + 1) = 8 * j + 8 by omega]
    · show (ctI a b j).2.1 >>> 8 = _
      rw [h2, shr8 b _ (by omega), show 8 * (j + 1) = 8 * j + 8 by omega]
theorem ct_list (a b : UInt64) : (ctI a b 8).2.2 = dnI a b 8 := by
  have e : ∀ X Y : Nat → UInt64, (∀ j, j ≤ 7 → (ctI a b j).1 = X j) → (∀ j, j ≤ 7 → (ctI a b j).2.1 = Y j) → (ctI a b 8).2.2 =
      [(X 7).toUInt8, (X 6).toUInt8, (X 5).toUInt8, (X 4).toUInt8, (X 3).toUInt8, (X 2).toUInt8, (X 1).toUInt8, (X 0).toUInt8, (Y 7).toUInt8, (Y 6).toUInt8, (Y 5).toUInt8, (Y 4).toUInt8, (Y 3).toUInt8, (Y 2).toUInt8, (Y 1).toUInt8, (Y 0).toUInt8] := by
    intro X Y hX hY
    rw [← hX 0 (by omega), ← hX 1 (by omega), ← hX 2 (by omega), ← hX 3 (by omega), ← hX 4 (by omega), ← hX 5 (by omega), ← hX 6 (by omega), ← hX 7 (by omega),
      ← hY 0 (by omega), ← hY 1 (by omega), ← hY 2 (by omega), ← hY 3 (by omega), ← hY 4 (by omega), ← hY 5 (by omega), ← hY 6 (by omega), ← hY 7 (by omega)]
    rfl
  rw [e (fun j => a >>> UInt64.ofNat (8 * j)) (fun j => b >>> UInt64.ofNat (8 * j)) (fun j h => (ct_shr a b j h).1) (fun j h => (ct_shr a b j h).2)]
  rfl
theorem cnI_eq (nonce : UInt64) (i : Nat) : cnI nonce i 8 = (ctI nonce (UInt64.ofInt ((i / 16 : Nat) : Int)) 8).2.2 := by
  rw [ct_list]
  have : ∀ k, cnI nonce i k = dnI nonce (UInt64.ofInt ((i / 16 : Nat) : Int)) k := by
    intro k
    induction k with
    | zero => rfl
    | succ k ih => simp only [cnI, dnI, ih]
  exact this 8
section
variable {box : List UInt8} {keys : List (List UInt8)} {nonce : UInt64} {data : List UInt8}
theorem rsK_len (out b : List UInt8) (i : Nat) : ∀ k, (rsK out b data i k).length = out.length + k
  | 0 => rfl
  | k + 1 => by simp only [rsK, List.length_append, rsK_len out b i k, List.length_cons, List.length_nil]; omega
theorem rsK_stm {out : List UInt8} {i : Nat} (h16 : i % 16 = 0) (ho : out = (stm box keys nonce data).take i) : ∀ k, k ≤ 16 → i + k ≤ data.length → rsK out (rndI box keys (cnI nonce i 8) 10) data i k = (stm box keys nonce data).take (i + k)
  | 0, _, _ => ho
  | k + 1, hk, hl => by
    have hi := rsK_stm h16 ho k (by omega) (by omega)
    simp only [rsK, hi]
    have hlt : i + k < (stm box keys nonce data).length := by rw [stm_len]; omega
    rw [show i + (k + 1) = i + k + 1 by omega, List.take_succ_eq_append_getElem hlt]
    refine congrArg (fun x => (stm box keys nonce data).take (i + k) ++ [x]) ?_
    have hd : i + k < data.length := by omega
    simp only [stm, List.getElem_mapIdx, ksb]
    rw [cnI_eq, List.getD_eq_getElem?_getD, List.getElem?_eq_getElem hd, Option.getD_some, show (i + k) / 16 = i / 16 by omega, show (i + k) % 16 = k % 16 by omega]
    by_cases h : k < 16
    · rw [Nat.mod_eq_of_lt h]
    · omega
theorem rsO_eq : ∀ i, i ≤ data.length → rsO box keys nonce data i = (stm box keys nonce data).take (cnt data.length i)
  | 0, _ => by simp [rsO, cnt]
  | i + 1, h => by
    have hi := rsO_eq i (by omega)
    show (if i % 16 = 0 then _ else _) = _
    by_cases h16 : i % 16 = 0
    · have hc : cnt data.length i = i := by unfold cnt; omega
      rw [hc] at hi
      rw [if_pos h16, rsK_stm h16 hi _ (by omega) (by omega)]
      refine congrArg (fun n => (stm box keys nonce data).take n) ?_
      unfold cnt
      omega
    · rw [if_neg h16, hi]
      refine congrArg (fun n => (stm box keys nonce data).take n) ?_
      unfold cnt
      omega
theorem rsO_end : rsO box keys nonce data data.length = stm box keys nonce data := by
  rw [rsO_eq _ (Nat.le_refl _)]
  refine List.take_of_length_le ?_
  rw [stm_len]
  unfold cnt
  omega
theorem rsO_len {i : Nat} (h : i ≤ data.length) : (rsO box keys nonce data i).length = cnt data.length i := by
  rw [rsO_eq i h, List.length_take, stm_len]
  unfold cnt
  omega
end
theorem pure_arr_congr {n m : Nat} {d : Kd} {x y : List d.T} (h : n = m) (e : x = y) : AV.pure (.arr n d) x = AV.pure (.arr m d) y := by
  subst h
  subst e
  rfl
end Go.Proofs.Yticgfjalikmniaa
