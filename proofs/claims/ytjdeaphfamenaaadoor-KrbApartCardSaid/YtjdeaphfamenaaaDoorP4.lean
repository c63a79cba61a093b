/- Part of a proof: unlike messages have unlike bytes -/
import Derived.Test.YtjdeaphfamenaaaDoorP3
namespace Go.Proofs.YtjdeaphfamenaaaDoor
open Go.Vc Go.Proofs
set_option linter.unusedSimpArgs false
set_option linter.unusedVariables false
set_option maxRecDepth 10000
set_option maxHeartbeats 4000000
-- SEM VcZn
-- LITE
-- ASM
/-! Fields as bytes, once more: their values are their own. -/
/-- A field as bytes. -/
def flBK (f : flK.T) : List UInt8 := [UInt8.ofInt (f.1 : Int), UInt8.ofInt (shrT .i64 ((List.length (α := UInt8) f.2.1 : Nat) : Int) 8), UInt8.ofInt ((List.length (α := UInt8) f.2.1 : Nat) : Int)] ++ f.2.1
def jnK (fs : List flK.T) : List UInt8 := (fs.map flBK).flatten
def fkOK (f : flK.T) : Prop := 1 ≤ (f.1 : Int) ∧ (f.1 : Int) ≤ 255 ∧ List.length (α := UInt8) f.2.1 ≤ 65535
theorem jnKx_nil : jnK [] = [] := rfl
theorem flBK_len (f : flK.T) : (flBK f).length = List.length (α := UInt8) f.2.1 + 3 := by rw [flBK, List.length_append]; show 3 + _ = _; omega
theorem jnKx_len : ∀ fs : List flK.T, (∀ f ∈ fs, fkOK f) → (jnK fs).length ≤ fs.length * 65538
  | [], _ => Nat.zero_le _
  | f :: r, h => by
    have h1 := jnKx_len r fun x hx => h x (List.mem_cons_of_mem _ hx)
    have h2 := (h f (List.mem_cons_self ..)).2.2
    have h3 := flBK_len f
    show (flBK f ++ jnK r).length ≤ (r.length + 1) * 65538
    rw [List.length_append, Nat.add_mul]
    omega
theorem jnKx_take (fs : List flK.T) (i : Nat) (d : flK.T) (h : i < fs.length) : jnK (fs.take (i + 1)) = jnK (fs.take i) ++ flBK (fs.getD i d) := by
  rw [List.take_add_one, List.getElem?_eq_getElem h, Option.toList_some, jnK, List.map_append, List.flatten_append, List.getD_eq_getElem?_getD, List.getElem?_eq_getElem h]
  simp [jnK]
def kJnK : Con := Con.of [.v (.slice false flK)] (fun x => [List.length (α := flK.T) x.1 ≤ 1000, ∀ f ∈ x.1, fkOK f]) (fun x => ⟨.tuple [.pure (.slice true (.int .u8)) (jnK x.1), .int .i64 (0 : Int)], []⟩)
def cfgKE1 : Cfg2 := { ty := tyTabM, fn := fun  | _ => none, G := gNone, pin := [], eq := fun _ => none }
theorem cfgKE1_ok : CfgOK Tryd.prog cfgKE1 := ⟨tyTabM_ok, (fun f s h => by cases h), (fun t d h => by cases h)⟩
section
attribute [local go_sem] Tryd.f56 kJnK cfgKE1 tyTabM tyTabK tyTab
theorem tjk_body (p : kJnK.Par) (hp : ∀ q ∈ kJnK.pre p, q) : BodyOK Tryd.prog cfgKE1 Tryd.f56 (Tryd.f56.body.get rfl) kJnK p := by
  obtain ⟨(fs : List flK.T), u⟩ := p
  obtain ⟨h0, h1, _⟩ := Obs.of hp
  replace h0 : fs.length ≤ 1000 := h0
  replace h1 : ∀ f ∈ fs, fkOK f := h1
  refine ⟨?_, Nat.zero_le _, rfl, rfl⟩
  show Tri _ _ _ (Code.seq _ (Code.seq (Code.seq _ (Code.block _ (Code.loop (Code.seq _ (Code.seq (Code.cond _ _ _) (Code.seq (Code.block _ (Code.seq _ (Code.seq _ (Code.block _ (Code.seq _ (Code.cond _ (Code.seq _ _) (Code.seq _ (Code.cond _ (Code.seq _ _) _)))))))) _)))))) (Code.seq _ _))) _
  refine Tri.at (by first | (simp only [go_sem, Con.start, go_sem, ↓reduceIte, reduceCtorEq, Nat.reduceLT, Nat.reduceSub, Nat.reduceAdd, Nat.reduceMul, Nat.reduceEqDiff, Nat.reduceBEq, Nat.reduceBNe, Nat.reduceLeDiff, Nat.reduceDiv, Nat.reduceMod, Nat.reducePow, List.reduceReplicate, UInt8.reduceOfNat, UInt32.reduceOfNat, UInt64.reduceOfNat, Int.reduceLE, Int.reduceLT, Int.reduceNeg, Int.reduceToNat, Int.reduceAdd, Int.reduceSub, Int.reduceMul, Int.reduceEq, UInt64.reduceToNat, UInt8.reduceToNat, UInt32.reduceToNat]; rfl) | rfl) ?_
  repeat (first | ((first | refine Tri.seq (Tri.regT (cfgKE1_ok.pins _) ?_) | refine Tri.rgnT (cfgKE1_ok.pins _) ?_); (repeat (first | refine RunT.one (by first | exact wantedA_none rfl | (simp only [go_sem, Bool.true_beq, Bool.false_beq]; done) | (simp only [go_sem, Bool.true_beq, Bool.false_beq]; with_reducible rfl)) (by simp (maxSteps := 2000000) (disch := first | decide | omega | (simp only [List.length_append, List.length_cons, List.length_nil, List.length_take, List.length_drop]; omega)) only [go_sem, go_sem, ↓reduceIte, reduceCtorEq, Nat.reduceLT, Nat.reduceSub, Nat.reduceAdd, Nat.reduceMul, Nat.reduceEqDiff, Nat.reduceBEq, Nat.reduceBNe, Nat.reduceLeDiff, Nat.reduceDiv, Nat.reduceMod, Nat.reducePow, List.reduceReplicate, UInt8.reduceOfNat, UInt32.reduceOfNat, UInt64.reduceOfNat, Int.reduceLE, Int.reduceLT, Int.reduceNeg, Int.reduceToNat, Int.reduceAdd, Int.reduceSub, Int.reduceMul, Int.reduceEq, UInt64.reduceToNat, UInt8.reduceToNat, UInt32.reduceToNat]; rfl) (by simp only [go_sem, Nat.reduceBEq, Nat.reduceEqDiff, Nat.reduceAdd, ↓reduceIte, reduceCtorEq, List.reduceReplicate, List.replicate]; rfl) (by first | exact True.intro | (simp only [Obs, and_true, true_and]; omega) | (simp [Obs, AV.sizeL, AV.size, Kd.sz]; done) | (simp [Obs, AV.sizeL, AV.size, Kd.sz]; omega) | (simp only [Obs, and_true, true_and]; (repeat' apply And.intro) <;> first | omega | assumption)) ?_ | refine RunT.not (by first | (simp only [go_sem, Bool.true_beq, Bool.false_beq]; done) | (simp only [go_sem, Bool.true_beq, Bool.false_beq]; with_reducible rfl)) (by simp only [go_sem, Nat.reduceBEq, Nat.reduceEqDiff, Nat.reduceAdd, ↓reduceIte, reduceCtorEq, List.reduceReplicate, List.replicate]; rfl) ?_)); refine RunT.nil ?_; try simp only [InBlock, Then]) | refine Tri.cF (by first | (simp only [AS.ev, go_sem, go_sem, ↓reduceIte, reduceCtorEq, Nat.reduceLT, Nat.reduceSub, Nat.reduceAdd, Nat.reduceMul, Nat.reduceEqDiff, Nat.reduceBEq, Nat.reduceBNe, Nat.reduceLeDiff, Nat.reduceDiv, Nat.reduceMod, Nat.reducePow, List.reduceReplicate, UInt8.reduceOfNat, UInt32.reduceOfNat, UInt64.reduceOfNat, Int.reduceLE, Int.reduceLT, Int.reduceNeg, Int.reduceToNat, Int.reduceAdd, Int.reduceSub, Int.reduceMul, Int.reduceEq, UInt64.reduceToNat, UInt8.reduceToNat, UInt32.reduceToNat]; done) | fail) ?_ | refine Tri.cT (by first | (simp only [AS.ev, go_sem, go_sem, ↓reduceIte, reduceCtorEq, Nat.reduceLT, Nat.reduceSub, Nat.reduceAdd, Nat.reduceMul, Nat.reduceEqDiff, Nat.reduceBEq, Nat.reduceBNe, Nat.reduceLeDiff, Nat.reduceDiv, Nat.reduceMod, Nat.reducePow, List.reduceReplicate, UInt8.reduceOfNat, UInt32.reduceOfNat, UInt64.reduceOfNat, Int.reduceLE, Int.reduceLT, Int.reduceNeg, Int.reduceToNat, Int.reduceAdd, Int.reduceSub, Int.reduceMul, Int.reduceEq, UInt64.reduceToNat, UInt8.reduceToNat, UInt32.reduceToNat]; done) | fail) ?_ | (refine Tri.skip ?_; try simp only [InBlock, Then]) | (refine Tri.exit ?_; simp only [Then, InBlock, if_true, if_false, ↓reduceIte, Nat.reduceEqDiff]) | refine Tri.seq (Tri.block ?_) | refine Tri.block ?_ | refine Tri.seq ?_ | (refine Tri.ret ?_; refine Con.fin (.inl rfl) (by simp only [Tryd.f56, cfgKE1, resA, resA1, go_sem, ↓reduceIte, reduceCtorEq, Nat.reduceLT, Nat.reduceSub, Nat.reduceAdd, Nat.reduceMul, Nat.reduceEqDiff, Nat.reduceBEq, Nat.reduceBNe, Nat.reduceLeDiff, Nat.reduceDiv, Nat.reduceMod, Nat.reducePow, List.reduceReplicate, UInt8.reduceOfNat, UInt32.reduceOfNat, UInt64.reduceOfNat, Int.reduceLE, Int.reduceLT, Int.reduceNeg, Int.reduceToNat, Int.reduceAdd, Int.reduceSub, Int.reduceMul, Int.reduceEq, UInt64.reduceToNat, UInt8.reduceToNat, UInt32.reduceToNat]; rfl) (by simp only [Obs, and_true, true_and]) (by first | (simp only [kJnK, Con.of, Con.ofO, resV, go_sem, go_sem, ↓reduceIte, reduceCtorEq, Nat.reduceLT, Nat.reduceSub, Nat.reduceAdd, Nat.reduceMul, Nat.reduceEqDiff, Nat.reduceBEq, Nat.reduceBNe, Nat.reduceLeDiff, Nat.reduceDiv, Nat.reduceMod, Nat.reducePow, List.reduceReplicate, UInt8.reduceOfNat, UInt32.reduceOfNat, UInt64.reduceOfNat, Int.reduceLE, Int.reduceLT, Int.reduceNeg, Int.reduceToNat, Int.reduceAdd, Int.reduceSub, Int.reduceMul, Int.reduceEq, UInt64.reduceToNat, UInt8.reduceToNat, UInt32.reduceToNat]; done) | fail) trivial rfl rfl))
  have hj0 : jnK (fs.take 0) = [] := rfl
  refine Tri.phT 2 (.int .u8) 1 rfl rfl ?_
  refine Tri.loop (fun i : Nat => (⟨[some (.pure (.slice false flK) fs), none, some (.tsl 0 [] 0 0 1 (jnK (fs.take i)).length), some (.int .i64 (0 : Int)), none, none, none, some (.pure (.slice false flK) fs), some (.int .i64 (fs.length : Int)), some (.int .i64 (i : Int))] ++ List.replicate 34 none, [.live (.pure (.arr (jnK (fs.take i)).length (.int .u8)) (jnK (fs.take i)))]⟩ : AS)) (fun i => i ≤ fs.length) (fun i => fs.length - i) 0 ?_ (Nat.zero_le _) ?_
  · refine Wk.of ?_ ?_ rfl rfl
    · simp only [lessTs, List.reduceReplicate, List.cons_append, List.nil_append, hj0, List.length_nil] <;> ((repeat' apply And.intro) <;> first | with_reducible rfl | exact True.intro | exact congrArg (fun z : Int => some (AV.int IntKind.i64 z)) (show (_ : Int) = _ by omega) | exact congrArg (fun z : Nat => some (AV.tsl _ _ _ _ _ z)) (show (_ : Nat) = _ by omega) | exact arrEq (by omega) (by with_reducible rfl))
    exact ⟨arrEq (by rw [hj0]; rfl) hj0.symm, trivial⟩
  · intro i hi
    by_cases h3 : i < fs.length
    · have h3' : decide ((i : Int) < (fs.length : Int)) = true := decide_eq_true (by omega)
      have hf : fs.getD i (0, [], ()) ∈ fs := by
        rw [List.getD_eq_getElem?_getD, List.getElem?_eq_getElem h3]; exact List.getElem_mem h3
      obtain ⟨k1, k2, k3⟩ := h1 _ hf
      generalize hfd : fs.getD i (0, [], ()) = f at *
      obtain ⟨(tg : Int), (vl : List UInt8), u1⟩ := f
      replace k1 : 1 ≤ tg := k1
      replace k2 : tg ≤ 255 := k2
      replace k3 : vl.length ≤ 65535 := k3
      have k1' : decide (tg < 1) = false := decide_eq_false (by omega)
      have k2' : decide ((255 : Int) < tg) = false := decide_eq_false (by omega)
      have k3' : decide ((65535 : Int) < (vl.length : Int)) = false := decide_eq_false (by omega)
      have hjt := jnKx_take fs i (0, [], ()) h3
      have hjl : (jnK (fs.take i)).length ≤ 65538000 := by
        have h4 := jnKx_len (fs.take i) fun x hx => h1 x (List.mem_of_mem_take hx)
        have h5 : (fs.take i).length ≤ 1000 := by rw [List.length_take]; omega
        exact Nat.le_trans h4 (Nat.le_trans (Nat.mul_le_mul_right 65538 h5) (by decide))
      rw [hfd] at hjt
      generalize hJ : jnK (fs.take i) = J at *
      have htk : List.take J.length J = J := List.take_length
      have tk3 : List.take 3 [UInt8.ofInt tg, UInt8.ofInt (shrT .i64 ((vl.length : Nat) : Int) 8), UInt8.ofInt ((vl.length : Nat) : Int)] = [UInt8.ofInt tg, UInt8.ofInt (shrT .i64 ((vl.length : Nat) : Int) 8), UInt8.ofInt ((vl.length : Nat) : Int)] := rfl
      have tkJ : List.take (J.length + 3) (J ++ [UInt8.ofInt tg, UInt8.ofInt (shrT .i64 ((vl.length : Nat) : Int) 8), UInt8.ofInt ((vl.length : Nat) : Int)]) = J ++ [UInt8.ofInt tg, UInt8.ofInt (shrT .i64 ((vl.length : Nat) : Int) 8), UInt8.ofInt ((vl.length : Nat) : Int)] := List.take_of_length_le (by rw [List.length_append]; exact Nat.le_refl _)
      have hjt2 : jnK (fs.take (i + 1)) = J ++ [UInt8.ofInt tg, UInt8.ofInt (shrT .i64 ((vl.length : Nat) : Int) 8), UInt8.ofInt ((vl.length : Nat) : Int)] ++ vl := by rw [hjt, List.append_assoc]; rfl
      have hjl2 : (jnK (fs.take (i + 1))).length = J.length + 3 + vl.length := by rw [hjt2, List.length_append, List.length_append]; rfl
      refine Tri.at (by first | (simp only [h3', k1', k2', k3', hfd, htk, tk3, tkJ, Con.start, go_sem, ↓reduceIte, reduceCtorEq, Nat.reduceLT, Nat.reduceSub, Nat.reduceAdd, Nat.reduceMul, Nat.reduceEqDiff, Nat.reduceBEq, Nat.reduceBNe, Nat.reduceLeDiff, Nat.reduceDiv, Nat.reduceMod, Nat.reducePow, List.reduceReplicate, UInt8.reduceOfNat, UInt32.reduceOfNat, UInt64.reduceOfNat, Int.reduceLE, Int.reduceLT, Int.reduceNeg, Int.reduceToNat, Int.reduceAdd, Int.reduceSub, Int.reduceMul, Int.reduceEq, UInt64.reduceToNat, UInt8.reduceToNat, UInt32.reduceToNat]; rfl) | rfl) ?_
      repeat (first | ((first | refine Tri.seq (Tri.regT (cfgKE1_ok.pins _) ?_) | refine Tri.rgnT (cfgKE1_ok.pins _) ?_); (repeat (first | refine RunT.one (by first | exact wantedA_none rfl | (simp only [go_sem, Bool.true_beq, Bool.false_beq]; done) | (simp only [go_sem, Bool.true_beq, Bool.false_beq]; with_reducible rfl)) (by simp (maxSteps := 2000000) (disch := first | decide | omega | (simp only [List.length_append, List.length_cons, List.length_nil, List.length_take, List.length_drop]; omega)) only [h3', k1', k2', k3', hfd, htk, tk3, tkJ, go_sem, ↓reduceIte, reduceCtorEq, Nat.reduceLT, Nat.reduceSub, Nat.reduceAdd, Nat.reduceMul, Nat.reduceEqDiff, Nat.reduceBEq, Nat.reduceBNe, Nat.reduceLeDiff, Nat.reduceDiv, Nat.reduceMod, Nat.reducePow, List.reduceReplicate, UInt8.reduceOfNat, UInt32.reduceOfNat, UInt64.reduceOfNat, Int.reduceLE, Int.reduceLT, Int.reduceNeg, Int.reduceToNat, Int.reduceAdd, Int.reduceSub, Int.reduceMul, Int.reduceEq, UInt64.reduceToNat, UInt8.reduceToNat, UInt32.reduceToNat]; rfl) (by simp only [go_sem, Nat.reduceBEq, Nat.reduceEqDiff, Nat.reduceAdd, ↓reduceIte, reduceCtorEq, List.reduceReplicate, List.replicate]; rfl) (by first | exact True.intro | (simp only [Obs, and_true, true_and]; omega) | (simp [Obs, AV.sizeL, AV.size, Kd.sz]; done) | (simp [Obs, AV.sizeL, AV.size, Kd.sz]; omega) | (simp only [Obs, and_true, true_and]; (repeat' apply And.intro) <;> first | omega | assumption)) ?_ | refine RunT.not (by first | (simp only [go_sem, Bool.true_beq, Bool.false_beq]; done) | (simp only [go_sem, Bool.true_beq, Bool.false_beq]; with_reducible rfl)) (by simp only [go_sem, Nat.reduceBEq, Nat.reduceEqDiff, Nat.reduceAdd, ↓reduceIte, reduceCtorEq, List.reduceReplicate, List.replicate]; rfl) ?_)); refine RunT.nil ?_; try simp only [InBlock, Then]) | ((first | refine Tri.seq (Tri.drwT (mixed) (cfgKE1_ok.pins _) ?_) | refine Tri.drnT (mixed) (cfgKE1_ok.pins _) ?_); (repeat (first | refine RunD.one (by first | exact wantedA_none rfl | (simp only [go_sem, Bool.true_beq, Bool.false_beq]; done) | (simp only [go_sem, Bool.true_beq, Bool.false_beq]; with_reducible rfl)) (by simp (maxSteps := 2000000) (disch := first | decide | omega | (simp only [List.length_append, List.length_cons, List.length_nil, List.length_take, List.length_drop]; omega)) only [h3', k1', k2', k3', hfd, htk, tk3, tkJ, go_sem, ↓reduceIte, reduceCtorEq, Nat.reduceLT, Nat.reduceSub, Nat.reduceAdd, Nat.reduceMul, Nat.reduceEqDiff, Nat.reduceBEq, Nat.reduceBNe, Nat.reduceLeDiff, Nat.reduceDiv, Nat.reduceMod, Nat.reducePow, List.reduceReplicate, UInt8.reduceOfNat, UInt32.reduceOfNat, UInt64.reduceOfNat, Int.reduceLE, Int.reduceLT, Int.reduceNeg, Int.reduceToNat, Int.reduceAdd, Int.reduceSub, Int.reduceMul, Int.reduceEq, UInt64.reduceToNat, UInt8.reduceToNat, UInt32.reduceToNat]; rfl) (by simp only [go_sem, Nat.reduceBEq, Nat.reduceEqDiff, Nat.reduceAdd, ↓reduceIte, reduceCtorEq, List.reduceReplicate, List.replicate]; rfl) (by first | exact True.intro | (simp only [Obs, and_true, true_and]; omega) | (simp [Obs, AV.sizeL, AV.size, Kd.sz]; done) | (simp [Obs, AV.sizeL, AV.size, Kd.sz]; omega) | (simp only [Obs, and_true, true_and]; (repeat' apply And.intro) <;> first | omega | assumption)) ?_ | refine RunD.not (by first | (simp only [go_sem, Bool.true_beq, Bool.false_beq]; done) | (simp only [go_sem, Bool.true_beq, Bool.false_beq]; with_reducible rfl)) (by simp only [go_sem, Nat.reduceBEq, Nat.reduceEqDiff, Nat.reduceAdd, ↓reduceIte, reduceCtorEq, List.reduceReplicate, List.replicate]; rfl) ?_)); refine RunD.nil ?_; refine ⟨by kernel_rfl, ?_⟩; try simp only [InBlock, Then]) | refine Tri.cF (by first | (simp only [AS.ev, h3', k1', k2', k3', hfd, htk, tk3, tkJ, go_sem, ↓reduceIte, reduceCtorEq, Nat.reduceLT, Nat.reduceSub, Nat.reduceAdd, Nat.reduceMul, Nat.reduceEqDiff, Nat.reduceBEq, Nat.reduceBNe, Nat.reduceLeDiff, Nat.reduceDiv, Nat.reduceMod, Nat.reducePow, List.reduceReplicate, UInt8.reduceOfNat, UInt32.reduceOfNat, UInt64.reduceOfNat, Int.reduceLE, Int.reduceLT, Int.reduceNeg, Int.reduceToNat, Int.reduceAdd, Int.reduceSub, Int.reduceMul, Int.reduceEq, UInt64.reduceToNat, UInt8.reduceToNat, UInt32.reduceToNat]; done) | fail) ?_ | refine Tri.cT (by first | (simp only [AS.ev, h3', k1', k2', k3', hfd, htk, tk3, tkJ, go_sem, ↓reduceIte, reduceCtorEq, Nat.reduceLT, Nat.reduceSub, Nat.reduceAdd, Nat.reduceMul, Nat.reduceEqDiff, Nat.reduceBEq, Nat.reduceBNe, Nat.reduceLeDiff, Nat.reduceDiv, Nat.reduceMod, Nat.reducePow, List.reduceReplicate, UInt8.reduceOfNat, UInt32.reduceOfNat, UInt64.reduceOfNat, Int.reduceLE, Int.reduceLT, Int.reduceNeg, Int.reduceToNat, Int.reduceAdd, Int.reduceSub, Int.reduceMul, Int.reduceEq, UInt64.reduceToNat, UInt8.reduceToNat, UInt32.reduceToNat]; done) | fail) ?_ | (refine Tri.skip ?_; try simp only [InBlock, Then]) | (refine Tri.exit ?_; simp only [Then, InBlock, if_true, if_false, ↓reduceIte, Nat.reduceEqDiff]) | refine Tri.seq (Tri.block ?_) | refine Tri.block ?_ | refine Tri.seq ?_ | (refine Tri.ret ?_; refine Con.fin (.inl rfl) (by simp only [Tryd.f56, cfgKE1, resA, resA1, go_sem, ↓reduceIte, reduceCtorEq, Nat.reduceLT, Nat.reduceSub, Nat.reduceAdd, Nat.reduceMul, Nat.reduceEqDiff, Nat.reduceBEq, Nat.reduceBNe, Nat.reduceLeDiff, Nat.reduceDiv, Nat.reduceMod, Nat.reducePow, List.reduceReplicate, UInt8.reduceOfNat, UInt32.reduceOfNat, UInt64.reduceOfNat, Int.reduceLE, Int.reduceLT, Int.reduceNeg, Int.reduceToNat, Int.reduceAdd, Int.reduceSub, Int.reduceMul, Int.reduceEq, UInt64.reduceToNat, UInt8.reduceToNat, UInt32.reduceToNat]; rfl) (by simp only [Obs, and_true, true_and]) (by first | (simp only [kJnK, Con.of, Con.ofO, resV, h3', k1', k2', k3', hfd, htk, tk3, tkJ, go_sem, ↓reduceIte, reduceCtorEq, Nat.reduceLT, Nat.reduceSub, Nat.reduceAdd, Nat.reduceMul, Nat.reduceEqDiff, Nat.reduceBEq, Nat.reduceBNe, Nat.reduceLeDiff, Nat.reduceDiv, Nat.reduceMod, Nat.reducePow, List.reduceReplicate, UInt8.reduceOfNat, UInt32.reduceOfNat, UInt64.reduceOfNat, Int.reduceLE, Int.reduceLT, Int.reduceNeg, Int.reduceToNat, Int.reduceAdd, Int.reduceSub, Int.reduceMul, Int.reduceEq, UInt64.reduceToNat, UInt8.reduceToNat, UInt32.reduceToNat]; done) | fail) trivial rfl rfl))
      refine ⟨i + 1, (by omega), (by omega), Wk.of ?_ ?_ rfl rfl⟩
      · simp only [lessTs, List.reduceReplicate, List.cons_append, List.nil_append, hjl2] <;> ((repeat' apply And.intro) <;> first | with_reducible rfl | exact True.intro | exact congrArg (fun z : Int => some (AV.int IntKind.i64 z)) (show (_ : Int) = _ by omega) | exact congrArg (fun z : Nat => some (AV.tsl _ _ _ _ _ z)) (show (_ : Nat) = _ by omega) | exact arrEq (by omega) (by with_reducible rfl))
      · exact ⟨arrEq hjl2.symm hjt2.symm, trivial⟩
    · have h3' : decide ((i : Int) < (fs.length : Int)) = false := decide_eq_false (by omega)
      rw [List.take_of_length_le (by omega)]
      have htk : List.take (jnK fs).length (jnK fs) = jnK fs := List.take_length
      refine Tri.at (by first | (simp only [h3', htk, Con.start, go_sem, ↓reduceIte, reduceCtorEq, Nat.reduceLT, Nat.reduceSub, Nat.reduceAdd, Nat.reduceMul, Nat.reduceEqDiff, Nat.reduceBEq, Nat.reduceBNe, Nat.reduceLeDiff, Nat.reduceDiv, Nat.reduceMod, Nat.reducePow, List.reduceReplicate, UInt8.reduceOfNat, UInt32.reduceOfNat, UInt64.reduceOfNat, Int.reduceLE, Int.reduceLT, Int.reduceNeg, Int.reduceToNat, Int.reduceAdd, Int.reduceSub, Int.reduceMul, Int.reduceEq, UInt64.reduceToNat, UInt8.reduceToNat, UInt32.reduceToNat]; rfl) | rfl) ?_
      repeat (first | ((first | refine Tri.seq (Tri.regT (cfgKE1_ok.pins _) ?_) | refine Tri.rgnT (cfgKE1_ok.pins _) ?_); (repeat (first | refine RunT.one (by first | exact wantedA_none rfl | (simp only [go_sem, Bool.true_beq, Bool.false_beq]; done) | (simp only [go_sem, Bool.true_beq, Bool.false_beq]; with_reducible rfl)) (by simp (maxSteps := 2000000) (disch := first | decide | omega | (simp only [List.length_append, List.length_cons, List.length_nil, List.length_take, List.length_drop]; omega)) only [h3', htk, go_sem, ↓reduceIte, reduceCtorEq, Nat.reduceLT, Nat.reduceSub, Nat.reduceAdd, Nat.reduceMul, Nat.reduceEqDiff, Nat.reduceBEq, Nat.reduceBNe, Nat.reduceLeDiff, Nat.reduceDiv, Nat.reduceMod, Nat.reducePow, List.reduceReplicate, UInt8.reduceOfNat, UInt32.reduceOfNat, UInt64.reduceOfNat, Int.reduceLE, Int.reduceLT, Int.reduceNeg, Int.reduceToNat, Int.reduceAdd, Int.reduceSub, Int.reduceMul, Int.reduceEq, UInt64.reduceToNat, UInt8.reduceToNat, UInt32.reduceToNat]; rfl) (by simp only [go_sem, Nat.reduceBEq, Nat.reduceEqDiff, Nat.reduceAdd, ↓reduceIte, reduceCtorEq, List.reduceReplicate, List.replicate]; rfl) (by first | exact True.intro | (simp only [Obs, and_true, true_and]; omega) | (simp [Obs, AV.sizeL, AV.size, Kd.sz]; done) | (simp [Obs, AV.sizeL, AV.size, Kd.sz]; omega) | (simp only [Obs, and_true, true_and]; (repeat' apply And.intro) <;> first | omega | assumption)) ?_ | refine RunT.not (by first | (simp only [go_sem, Bool.true_beq, Bool.false_beq]; done) | (simp only [go_sem, Bool.true_beq, Bool.false_beq]; with_reducible rfl)) (by simp only [go_sem, Nat.reduceBEq, Nat.reduceEqDiff, Nat.reduceAdd, ↓reduceIte, reduceCtorEq, List.reduceReplicate, List.replicate]; rfl) ?_)); refine RunT.nil ?_; try simp only [InBlock, Then]) | refine Tri.cF (by first | (simp only [AS.ev, h3', htk, go_sem, ↓reduceIte, reduceCtorEq, Nat.reduceLT, Nat.reduceSub, Nat.reduceAdd, Nat.reduceMul, Nat.reduceEqDiff, Nat.reduceBEq, Nat.reduceBNe, Nat.reduceLeDiff, Nat.reduceDiv, Nat.reduceMod, Nat.reducePow, List.reduceReplicate, UInt8.reduceOfNat, UInt32.reduceOfNat, UInt64.reduceOfNat, Int.reduceLE, Int.reduceLT, Int.reduceNeg, Int.reduceToNat, Int.reduceAdd, Int.reduceSub, Int.reduceMul, Int.reduceEq, UInt64.reduceToNat, UInt8.reduceToNat, UInt32.reduceToNat]; done) | fail) ?_ | refine Tri.cT (by first | (simp only [AS.ev, h3', htk, go_sem, ↓reduceIte, reduceCtorEq, Nat.reduceLT, Nat.reduceSub, Nat.reduceAdd, Nat.reduceMul, Nat.reduceEqDiff, Nat.reduceBEq, Nat.reduceBNe, Nat.reduceLeDiff, Nat.reduceDiv, Nat.reduceMod, Nat.reducePow, List.reduceReplicate, UInt8.reduceOfNat, UInt32.reduceOfNat, UInt64.reduceOfNat, Int.reduceLE, Int.reduceLT, Int.reduceNeg, Int.reduceToNat, Int.reduceAdd, Int.reduceSub, Int.reduceMul, Int.reduceEq, UInt64.reduceToNat, UInt8.reduceToNat, UInt32.reduceToNat]; done) | fail) ?_ | (refine Tri.skip ?_; try simp only [InBlock, Then]) | (refine Tri.exit ?_; simp only [Then, InBlock, if_true, if_false, ↓reduceIte, Nat.reduceEqDiff]) | refine Tri.seq (Tri.block ?_) | refine Tri.block ?_ | refine Tri.seq ?_ | (refine Tri.ret ?_; refine Con.fin (.inl rfl) (by simp only [Tryd.f56, cfgKE1, resA, resA1, go_sem, ↓reduceIte, reduceCtorEq, Nat.reduceLT, Nat.reduceSub, Nat.reduceAdd, Nat.reduceMul, Nat.reduceEqDiff, Nat.reduceBEq, Nat.reduceBNe, Nat.reduceLeDiff, Nat.reduceDiv, Nat.reduceMod, Nat.reducePow, List.reduceReplicate, UInt8.reduceOfNat, UInt32.reduceOfNat, UInt64.reduceOfNat, Int.reduceLE, Int.reduceLT, Int.reduceNeg, Int.reduceToNat, Int.reduceAdd, Int.reduceSub, Int.reduceMul, Int.reduceEq, UInt64.reduceToNat, UInt8.reduceToNat, UInt32.reduceToNat]; rfl) (by simp only [Obs, and_true, true_and]) (by first | (simp only [kJnK, Con.of, Con.ofO, resV, h3', htk, go_sem, ↓reduceIte, reduceCtorEq, Nat.reduceLT, Nat.reduceSub, Nat.reduceAdd, Nat.reduceMul, Nat.reduceEqDiff, Nat.reduceBEq, Nat.reduceBNe, Nat.reduceLeDiff, Nat.reduceDiv, Nat.reduceMod, Nat.reducePow, List.reduceReplicate, UInt8.reduceOfNat, UInt32.reduceOfNat, UInt64.reduceOfNat, Int.reduceLE, Int.reduceLT, Int.reduceNeg, Int.reduceToNat, Int.reduceAdd, Int.reduceSub, Int.reduceMul, Int.reduceEq, UInt64.reduceToNat, UInt8.reduceToNat, UInt32.reduceToNat]; done) | fail) trivial rfl rfl))
      refine Tri.rel true 0 rfl ?_ rfl rfl ?_
      · simp only [AS.blk, go_sem, ↓reduceIte, reduceCtorEq, Nat.reduceLT, Nat.reduceSub, Nat.reduceAdd, Nat.reduceMul, Nat.reduceEqDiff, Nat.reduceBEq, Nat.reduceBNe, Nat.reduceLeDiff, Nat.reduceDiv, Nat.reduceMod, Nat.reducePow, List.reduceReplicate, UInt8.reduceOfNat, UInt32.reduceOfNat, UInt64.reduceOfNat, Int.reduceLE, Int.reduceLT, Int.reduceNeg, Int.reduceToNat, Int.reduceAdd, Int.reduceSub, Int.reduceMul, Int.reduceEq, UInt64.reduceToNat, UInt8.reduceToNat, UInt32.reduceToNat]
        repeat' constructor
      refine Tri.at (by first | (simp only [h3', htk, Con.start, go_sem, ↓reduceIte, reduceCtorEq, Nat.reduceLT, Nat.reduceSub, Nat.reduceAdd, Nat.reduceMul, Nat.reduceEqDiff, Nat.reduceBEq, Nat.reduceBNe, Nat.reduceLeDiff, Nat.reduceDiv, Nat.reduceMod, Nat.reducePow, List.reduceReplicate, UInt8.reduceOfNat, UInt32.reduceOfNat, UInt64.reduceOfNat, Int.reduceLE, Int.reduceLT, Int.reduceNeg, Int.reduceToNat, Int.reduceAdd, Int.reduceSub, Int.reduceMul, Int.reduceEq, UInt64.reduceToNat, UInt8.reduceToNat, UInt32.reduceToNat]; rfl) | rfl) ?_
      refine Tri.ret ?_
      refine Con.fin (.inl rfl) (by simp only [Tryd.f56, cfgKE1, resA, resA1, go_sem, ↓reduceIte, reduceCtorEq, Nat.reduceLT, Nat.reduceSub, Nat.reduceAdd, Nat.reduceMul, Nat.reduceEqDiff, Nat.reduceBEq, Nat.reduceBNe, Nat.reduceLeDiff, Nat.reduceDiv, Nat.reduceMod, Nat.reducePow, List.reduceReplicate, UInt8.reduceOfNat, UInt32.reduceOfNat, UInt64.reduceOfNat, Int.reduceLE, Int.reduceLT, Int.reduceNeg, Int.reduceToNat, Int.reduceAdd, Int.reduceSub, Int.reduceMul, Int.reduceEq, UInt64.reduceToNat, UInt8.reduceToNat, UInt32.reduceToNat]; rfl) (by simp only [Obs, and_true, true_and]) ?_ ?_ rfl rfl
      · rfl
      · exact True.intro
theorem tjk_sum : FSumOK Tryd.prog cfgKE1.G 56 kJnK.sum := Con.sumOK cfgKE1_ok kJnK Tryd.func56 rfl rfl (Con.of_inv _ _ _) tjk_body
end
end Go.Proofs.YtjdeaphfamenaaaDoor

namespace Go.Proofs.YtjdeaphfamenaaaDoor
open Go.Vc Go.Proofs
set_option linter.unusedSimpArgs false
set_option linter.unusedVariables false
set_option maxRecDepth 10000
set_option maxHeartbeats 4000000
-- SEM VcZn
-- LITE
-- ASM
/-! A message's fields. -/
def fdS (m : krK.T) : krK.T → List flK.T → List Int → Option (List flK.T × krK.T)
  | bare, fs, [] => some (fs, bare)
  | bare, fs, t :: r => if vaO m t = true then fdS m (stM bare t (vaB m t)) (fs ++ [((t, vaB m t, ()) : flK.T)]) r else none
def fd0 (k : Int) : krK.T := (k, [], [], (0 : UInt64), (0 : Int), (0 : Int), [], [], (0 : Int), ())
def fdV (m : krK.T) : AV := match fdS m (fd0 m.1) [(((31 : Int), numS (UInt64.ofInt m.1), ()) : flK.T)] (hasK m.1) with
  | none => .tuple [.nilsl, .bool false]
  | some q => .tuple [.pure (.slice true flK) q.1, .bool (decide ((0 : Int) < (((hasK m.1).length : Nat) : Int)) && smM q.2 m)]
theorem hasK_len (k : Int) : (hasK k).length ≤ 6 := by
  unfold hasK
  repeat' (split; · decide)
  decide
def krOK (m : krK.T) : List Prop := [List.length (α := UInt8) m.2.1 ≤ 1000000000, List.length (α := UInt8) m.2.2.1 ≤ 1000000000, List.length (α := UInt8) m.2.2.2.2.2.2.1 ≤ 1000000000, List.length (α := UInt8) m.2.2.2.2.2.2.2.1 ≤ 1000000000]
theorem vaB_len {kd : Int} {cl sv : List UInt8} {no : UInt64} {en fl : Int} {ti se : List UInt8} {co : Int} {u1 : Unit} (h1 : cl.length ≤ 1000000000) (h2 : sv.length ≤ 1000000000) (h3 : ti.length ≤ 1000000000) (h4 : se.length ≤ 1000000000) (t : Int) : (vaB (kd, cl, sv, no, en, fl, ti, se, co, u1) t).length ≤ 1000000000 := by
  have hn : ∀ n, (numS n).length ≤ 1000000000 := fun n => Nat.le_trans (numS_len n) (by decide)
  unfold vaB
  split
  · exact h1
  · split
    · exact h2
    · split
      · exact hn _
      · split
        · exact hn _
        · split
          · exact hn _
          · split
            · exact h3
            · split
              · exact h4
              · exact hn _
def kFd : Con := Con.of [.v krK] (fun x => [List.length (α := UInt8) x.1.2.1 ≤ 1000000000, List.length (α := UInt8) x.1.2.2.1 ≤ 1000000000, List.length (α := UInt8) x.1.2.2.2.2.2.2.1 ≤ 1000000000, List.length (α := UInt8) x.1.2.2.2.2.2.2.2.1 ≤ 1000000000]) (fun x => ⟨fdV x.1, []⟩)
def cfgKF1 : Cfg2 := { ty := tyTabM, fn := fun | 87 => some kHas.sum | 60 => some kNumP.sum | 88 => some kVal.sum | 73 => some kSet.sum | 89 => some kSmM.sum | _ => none, G := gNone, pin := [], eq := fun _ => none }
theorem cfgKF1_ok : CfgOK Tryd.prog cfgKF1 := ⟨tyTabM_ok, (fun f s h => by
  simp only [cfgKF1] at h
  split at h
  · injection h with h; subst h; exact .inl has_sum
  · injection h with h; subst h; exact .inl numP_sum
  · injection h with h; subst h; exact .inl val_sum
  · injection h with h; subst h; exact .inl set_sum
  · injection h with h; subst h; exact .inl smm_sum
  · cases h), (fun t d h => by cases h)⟩
section
attribute [local go_sem] Tryd.f55 kFd kHas kNumP kVal kSet kSmM cfgKF1 tyTabM tyTabK tyTab
theorem fds_body (p : kFd.Par) (hp : ∀ q ∈ kFd.pre p, q) : BodyOK Tryd.prog cfgKF1 Tryd.f55 (Tryd.f55.body.get rfl) kFd p := by
  obtain ⟨⟨(kd : Int), (cl : List UInt8), (sv : List UInt8), (no : UInt64), (en : Int), (fl : Int), (ti : List UInt8), (se : List UInt8), (co : Int), u1⟩, u⟩ := p
  obtain ⟨h0, h1, h2, h3, _⟩ := Obs.of hp
  replace h0 : cl.length ≤ 1000000000 := h0
  replace h1 : sv.length ≤ 1000000000 := h1
  replace h2 : ti.length ≤ 1000000000 := h2
  replace h3 : se.length ≤ 1000000000 := h3
  have hvl := vaB_len (kd := kd) (no := no) (en := en) (fl := fl) (co := co) (u1 := u1) h0 h1 h2 h3
  have htl := hasK_len kd
  have hV : fdV (kd, cl, sv, no, en, fl, ti, se, co, u1) = (match fdS (kd, cl, sv, no, en, fl, ti, se, co, u1) (fd0 kd) [(((31 : Int), numS (UInt64.ofInt kd), ()) : flK.T)] (hasK kd) with
    | none => .tuple [.nilsl, .bool false]
    | some q => .tuple [.pure (.slice true flK) q.1, .bool (decide ((0 : Int) < (((hasK kd).length : Nat) : Int)) && smM q.2 (kd, cl, sv, no, en, fl, ti, se, co, u1))]) := rfl
  refine ⟨?_, Nat.zero_le _, (by show (fdV (kd, cl, sv, no, en, fl, ti, se, co, u1)).strict = true; rw [hV]; split <;> rfl), rfl⟩
  show Tri _ _ _ (Code.seq _ (Code.seq _ (Code.seq _ (Code.seq (Code.seq _ (Code.block _ (Code.loop (Code.seq _ (Code.seq (Code.cond _ _ _) (Code.seq (Code.block _ (Code.seq _ (Code.seq _ (Code.seq (Code.seq _ (Code.cond _ (Code.seq _ _) _)) (Code.seq _ _))))) _)))))) (Code.seq _ _))))) _
  generalize hT : hasK kd = tags at htl hV
  have t31 : List.take 1 [(((31 : Int), numS (UInt64.ofInt kd), ()) : flK.T)] = [((31 : Int), numS (UInt64.ofInt kd), ())] := rfl
  refine Tri.at (by first | (simp only [hT, t31, Con.start, go_sem, ↓reduceIte, reduceCtorEq, Nat.reduceLT, Nat.reduceSub, Nat.reduceAdd, Nat.reduceMul, Nat.reduceEqDiff, Nat.reduceBEq, Nat.reduceBNe, Nat.reduceLeDiff, Nat.reduceDiv, Nat.reduceMod, Nat.reducePow, List.reduceReplicate, UInt8.reduceOfNat, UInt32.reduceOfNat, UInt64.reduceOfNat, Int.reduceLE, Int.reduceLT, Int.reduceNeg, Int.reduceToNat, Int.reduceAdd, Int.reduceSub, Int.reduceMul, Int.reduceEq, UInt64.reduceToNat, UInt8.reduceToNat, UInt32.reduceToNat]; rfl) | rfl) ?_
  repeat (first | ((first | refine Tri.seq (Tri.regT (cfgKF1_ok.pins _) ?_) | refine Tri.rgnT (cfgKF1_ok.pins _) ?_); (repeat (first | refine RunT.one (by first | exact wantedA_none rfl | (simp only [go_sem, Bool.true_beq, Bool.false_beq]; done) | (simp only [go_sem, Bool.true_beq, Bool.false_beq]; with_reducible rfl)) (by simp (maxSteps := 2000000) (disch := first | decide | omega | (simp only [List.length_append, List.length_cons, List.length_nil, List.length_take, List.length_drop]; omega)) only [hT, t31, go_sem, ↓reduceIte, reduceCtorEq, Nat.reduceLT, Nat.reduceSub, Nat.reduceAdd, Nat.reduceMul, Nat.reduceEqDiff, Nat.reduceBEq, Nat.reduceBNe, Nat.reduceLeDiff, Nat.reduceDiv, Nat.reduceMod, Nat.reducePow, List.reduceReplicate, UInt8.reduceOfNat, UInt32.reduceOfNat, UInt64.reduceOfNat, Int.reduceLE, Int.reduceLT, Int.reduceNeg, Int.reduceToNat, Int.reduceAdd, Int.reduceSub, Int.reduceMul, Int.reduceEq, UInt64.reduceToNat, UInt8.reduceToNat, UInt32.reduceToNat]; rfl) (by simp only [go_sem, Nat.reduceBEq, Nat.reduceEqDiff, Nat.reduceAdd, ↓reduceIte, reduceCtorEq, List.reduceReplicate, List.replicate]; rfl) (by first | exact True.intro | (simp only [Obs, and_true, true_and]; omega) | (simp [Obs, AV.sizeL, AV.size, Kd.sz]; done) | (simp [Obs, AV.sizeL, AV.size, Kd.sz]; omega) | (simp only [Obs, and_true, true_and]; (repeat' apply And.intro) <;> first | omega | assumption)) ?_ | refine RunT.not (by first | (simp only [go_sem, Bool.true_beq, Bool.false_beq]; done) | (simp only [go_sem, Bool.true_beq, Bool.false_beq]; with_reducible rfl)) (by simp only [go_sem, Nat.reduceBEq, Nat.reduceEqDiff, Nat.reduceAdd, ↓reduceIte, reduceCtorEq, List.reduceReplicate, List.replicate]; rfl) ?_)); refine RunT.nil ?_; try simp only [InBlock, Then]) | ((first | refine Tri.seq (Tri.drwT (mixed) (cfgKF1_ok.pins _) ?_) | refine Tri.drnT (mixed) (cfgKF1_ok.pins _) ?_); (repeat (first | refine RunD.one (by first | exact wantedA_none rfl | (simp only [go_sem, Bool.true_beq, Bool.false_beq]; done) | (simp only [go_sem, Bool.true_beq, Bool.false_beq]; with_reducible rfl)) (by simp (maxSteps := 2000000) (disch := first | decide | omega | (simp only [List.length_append, List.length_cons, List.length_nil, List.length_take, List.length_drop]; omega)) only [hT, t31, go_sem, ↓reduceIte, reduceCtorEq, Nat.reduceLT, Nat.reduceSub, Nat.reduceAdd, Nat.reduceMul, Nat.reduceEqDiff, Nat.reduceBEq, Nat.reduceBNe, Nat.reduceLeDiff, Nat.reduceDiv, Nat.reduceMod, Nat.reducePow, List.reduceReplicate, UInt8.reduceOfNat, UInt32.reduceOfNat, UInt64.reduceOfNat, Int.reduceLE, Int.reduceLT, Int.reduceNeg, Int.reduceToNat, Int.reduceAdd, Int.reduceSub, Int.reduceMul, Int.reduceEq, UInt64.reduceToNat, UInt8.reduceToNat, UInt32.reduceToNat]; rfl) (by simp only [go_sem, Nat.reduceBEq, Nat.reduceEqDiff, Nat.reduceAdd, ↓reduceIte, reduceCtorEq, List.reduceReplicate, List.replicate]; rfl) (by first | exact True.intro | (simp only [Obs, and_true, true_and]; omega) | (simp [Obs, AV.sizeL, AV.size, Kd.sz]; done) | (simp [Obs, AV.sizeL, AV.size, Kd.sz]; omega) | (simp only [Obs, and_true, true_and]; (repeat' apply And.intro) <;> first | omega | assumption)) ?_ | refine RunD.not (by first | (simp only [go_sem, Bool.true_beq, Bool.false_beq]; done) | (simp only [go_sem, Bool.true_beq, Bool.false_beq]; with_reducible rfl)) (by simp only [go_sem, Nat.reduceBEq, Nat.reduceEqDiff, Nat.reduceAdd, ↓reduceIte, reduceCtorEq, List.reduceReplicate, List.replicate]; rfl) ?_)); refine RunD.nil ?_; refine ⟨by kernel_rfl, ?_⟩; try simp only [InBlock, Then]) | refine Tri.cF (by first | (simp only [AS.ev, hT, t31, go_sem, ↓reduceIte, reduceCtorEq, Nat.reduceLT, Nat.reduceSub, Nat.reduceAdd, Nat.reduceMul, Nat.reduceEqDiff, Nat.reduceBEq, Nat.reduceBNe, Nat.reduceLeDiff, Nat.reduceDiv, Nat.reduceMod, Nat.reducePow, List.reduceReplicate, UInt8.reduceOfNat, UInt32.reduceOfNat, UInt64.reduceOfNat, Int.reduceLE, Int.reduceLT, Int.reduceNeg, Int.reduceToNat, Int.reduceAdd, Int.reduceSub, Int.reduceMul, Int.reduceEq, UInt64.reduceToNat, UInt8.reduceToNat, UInt32.reduceToNat]; done) | fail) ?_ | refine Tri.cT (by first | (simp only [AS.ev, hT, t31, go_sem, ↓reduceIte, reduceCtorEq, Nat.reduceLT, Nat.reduceSub, Nat.reduceAdd, Nat.reduceMul, Nat.reduceEqDiff, Nat.reduceBEq, Nat.reduceBNe, Nat.reduceLeDiff, Nat.reduceDiv, Nat.reduceMod, Nat.reducePow, List.reduceReplicate, UInt8.reduceOfNat, UInt32.reduceOfNat, UInt64.reduceOfNat, Int.reduceLE, Int.reduceLT, Int.reduceNeg, Int.reduceToNat, Int.reduceAdd, Int.reduceSub, Int.reduceMul, Int.reduceEq, UInt64.reduceToNat, UInt8.reduceToNat, UInt32.reduceToNat]; done) | fail) ?_ | (refine Tri.skip ?_; try simp only [InBlock, Then]) | (refine Tri.exit ?_; simp only [Then, InBlock, if_true, if_false, ↓reduceIte, Nat.reduceEqDiff]) | refine Tri.seq (Tri.block ?_) | refine Tri.block ?_ | refine Tri.seq ?_ | (refine Tri.ret ?_; refine Con.fin (.inl rfl) (by simp only [Tryd.f55, cfgKF1, resA, resA1, go_sem, ↓reduceIte, reduceCtorEq, Nat.reduceLT, Nat.reduceSub, Nat.reduceAdd, Nat.reduceMul, Nat.reduceEqDiff, Nat.reduceBEq, Nat.reduceBNe, Nat.reduceLeDiff, Nat.reduceDiv, Nat.reduceMod, Nat.reducePow, List.reduceReplicate, UInt8.reduceOfNat, UInt32.reduceOfNat, UInt64.reduceOfNat, Int.reduceLE, Int.reduceLT, Int.reduceNeg, Int.reduceToNat, Int.reduceAdd, Int.reduceSub, Int.reduceMul, Int.reduceEq, UInt64.reduceToNat, UInt8.reduceToNat, UInt32.reduceToNat]; rfl) (by simp only [Obs, and_true, true_and]) (by first | (simp only [kFd, Con.of, Con.ofO, resV, hT, t31, go_sem, ↓reduceIte, reduceCtorEq, Nat.reduceLT, Nat.reduceSub, Nat.reduceAdd, Nat.reduceMul, Nat.reduceEqDiff, Nat.reduceBEq, Nat.reduceBNe, Nat.reduceLeDiff, Nat.reduceDiv, Nat.reduceMod, Nat.reducePow, List.reduceReplicate, UInt8.reduceOfNat, UInt32.reduceOfNat, UInt64.reduceOfNat, Int.reduceLE, Int.reduceLT, Int.reduceNeg, Int.reduceToNat, Int.reduceAdd, Int.reduceSub, Int.reduceMul, Int.reduceEq, UInt64.reduceToNat, UInt8.reduceToNat, UInt32.reduceToNat]; done) | fail) trivial rfl rfl))
  refine Tri.loop (fun v : Nat × krK.T × List flK.T => (⟨[none, some (.ptr 0 [] 0), some (.tsl 3 [] 0 0 2 v.2.2.length), some (.bool false), some (.pure (.slice true (.int .i64)) tags), some (.ptr 1 [] 0), none, none, none, none, none, none, none, none, none, none, none, none, none, none, none, none, none, none, some (.pure (.slice true (.int .i64)) tags), some (.int .i64 (tags.length : Int)), some (.int .i64 (v.1 : Int))] ++ List.replicate 29 none, [.live (.pure krK (kd, cl, sv, no, en, fl, ti, se, co, u1)), .live (.pure krK v.2.1), .live (.pure (.arr 1 flK) [((31 : Int), numS (UInt64.ofInt kd), ())]), .live (.pure (.arr v.2.2.length flK) v.2.2)]⟩ : AS))
    (fun v => v.1 ≤ tags.length ∧ v.2.2.length ≤ v.1 + 1 ∧ fdS (kd, cl, sv, no, en, fl, ti, se, co, u1) (fd0 kd) [(((31 : Int), numS (UInt64.ofInt kd), ()) : flK.T)] tags = fdS (kd, cl, sv, no, en, fl, ti, se, co, u1) v.2.1 v.2.2 (tags.drop v.1)) (fun v => tags.length - v.1) (0, fd0 kd, [((31 : Int), numS (UInt64.ofInt kd), ())]) ?_ ⟨Nat.zero_le _, Nat.le_refl _, rfl⟩ ?_
  · refine Wk.of ?_ ?_ rfl rfl
    · simp only [lessTs, List.reduceReplicate, List.cons_append, List.nil_append, fd0, List.length_cons, List.length_nil] <;> ((repeat' apply And.intro) <;> first | with_reducible rfl | exact True.intro | exact congrArg (fun z : Int => some (AV.int IntKind.i64 z)) (show (_ : Int) = _ by omega) | exact congrArg (fun z : Nat => some (AV.tsl _ _ _ _ _ z)) (show (_ : Nat) = _ by omega) | exact arrEq (by omega) (by with_reducible rfl))
    exact ⟨rfl, rfl, rfl, rfl, trivial⟩
  · intro ⟨i, bare, fs⟩ ⟨hi, hfl, hfd⟩
    replace hi : i ≤ tags.length := hi
    replace hfl : fs.length ≤ i + 1 := hfl
    replace hfd : fdS (kd, cl, sv, no, en, fl, ti, se, co, u1) (fd0 kd) [(((31 : Int), numS (UInt64.ofInt kd), ()) : flK.T)] tags = fdS (kd, cl, sv, no, en, fl, ti, se, co, u1) bare fs (tags.drop i) := hfd
    have htq : List.take fs.length fs = fs := List.take_length
    by_cases hc : i < tags.length
    · have hc' : decide ((i : Int) < (tags.length : Int)) = true := decide_eq_true (by omega)
      have hdr : tags.drop i = tags.getD i 0 :: tags.drop (i + 1) := by
        rw [List.drop_eq_getElem_cons hc, List.getD_eq_getElem?_getD, List.getElem?_eq_getElem hc]; rfl
      have hbl := hvl (tags.getD i 0)
      rw [hdr, fdS] at hfd
      generalize hg : tags.getD i 0 = t at *
      have hbl2 : (vaB (kd, cl, sv, no, en, fl, ti, se, co, u1) t).length ≤ 140737488355328 := by omega
      cases ho : vaO (kd, cl, sv, no, en, fl, ti, se, co, u1) t with
      | false =>
        rw [ho] at hfd
        replace hfd : fdS (kd, cl, sv, no, en, fl, ti, se, co, u1) (fd0 kd) [(((31 : Int), numS (UInt64.ofInt kd), ()) : flK.T)] tags = none := hfd
        rw [hfd] at hV
        replace hV : fdV (kd, cl, sv, no, en, fl, ti, se, co, u1) = .tuple [.nilsl, .bool false] := hV
        refine Tri.at (by first | (simp only [hc', ho, hg, Con.start, go_sem, ↓reduceIte, reduceCtorEq, Nat.reduceLT, Nat.reduceSub, Nat.reduceAdd, Nat.reduceMul, Nat.reduceEqDiff, Nat.reduceBEq, Nat.reduceBNe, Nat.reduceLeDiff, Nat.reduceDiv, Nat.reduceMod, Nat.reducePow, List.reduceReplicate, UInt8.reduceOfNat, UInt32.reduceOfNat, UInt64.reduceOfNat, Int.reduceLE, Int.reduceLT, Int.reduceNeg, Int.reduceToNat, Int.reduceAdd, Int.reduceSub, Int.reduceMul, Int.reduceEq, UInt64.reduceToNat, UInt8.reduceToNat, UInt32.reduceToNat]; rfl) | rfl) ?_
        repeat (first | ((first | refine Tri.seq (Tri.regT (cfgKF1_ok.pins _) ?_) | refine Tri.rgnT (cfgKF1_ok.pins _) ?_); (repeat (first | refine RunT.one (by first | exact wantedA_none rfl | (simp only [go_sem, Bool.true_beq, Bool.false_beq]; done) | (simp only [go_sem, Bool.true_beq, Bool.false_beq]; with_reducible rfl)) (by simp (maxSteps := 2000000) (disch := first | decide | omega | (simp only [List.length_append, List.length_cons, List.length_nil, List.length_take, List.length_drop]; omega)) only [hc', ho, hg, go_sem, ↓reduceIte, reduceCtorEq, Nat.reduceLT, Nat.reduceSub, Nat.reduceAdd, Nat.reduceMul, Nat.reduceEqDiff, Nat.reduceBEq, Nat.reduceBNe, Nat.reduceLeDiff, Nat.reduceDiv, Nat.reduceMod, Nat.reducePow, List.reduceReplicate, UInt8.reduceOfNat, UInt32.reduceOfNat, UInt64.reduceOfNat, Int.reduceLE, Int.reduceLT, Int.reduceNeg, Int.reduceToNat, Int.reduceAdd, Int.reduceSub, Int.reduceMul, Int.reduceEq, UInt64.reduceToNat, UInt8.reduceToNat, UInt32.reduceToNat]; rfl) (by simp only [go_sem, Nat.reduceBEq, Nat.reduceEqDiff, Nat.reduceAdd, ↓reduceIte, reduceCtorEq, List.reduceReplicate, List.replicate]; rfl) (by first | exact True.intro | (simp only [Obs, and_true, true_and]; omega) | (simp [Obs, AV.sizeL, AV.size, Kd.sz]; done) | (simp [Obs, AV.sizeL, AV.size, Kd.sz]; omega) | (simp only [Obs, and_true, true_and]; (repeat' apply And.intro) <;> first | omega | assumption)) ?_ | refine RunT.not (by first | (simp only [go_sem, Bool.true_beq, Bool.false_beq]; done) | (simp only [go_sem, Bool.true_beq, Bool.false_beq]; with_reducible rfl)) (by simp only [go_sem, Nat.reduceBEq, Nat.reduceEqDiff, Nat.reduceAdd, ↓reduceIte, reduceCtorEq, List.reduceReplicate, List.replicate]; rfl) ?_)); refine RunT.nil ?_; try simp only [InBlock, Then]) | refine Tri.cF (by first | (simp only [AS.ev, hc', ho, hg, go_sem, ↓reduceIte, reduceCtorEq, Nat.reduceLT, Nat.reduceSub, Nat.reduceAdd, Nat.reduceMul, Nat.reduceEqDiff, Nat.reduceBEq, Nat.reduceBNe, Nat.reduceLeDiff, Nat.reduceDiv, Nat.reduceMod, Nat.reducePow, List.reduceReplicate, UInt8.reduceOfNat, UInt32.reduceOfNat, UInt64.reduceOfNat, Int.reduceLE, Int.reduceLT, Int.reduceNeg, Int.reduceToNat, Int.reduceAdd, Int.reduceSub, Int.reduceMul, Int.reduceEq, UInt64.reduceToNat, UInt8.reduceToNat, UInt32.reduceToNat]; done) | fail) ?_ | refine Tri.cT (by first | (simp only [AS.ev, hc', ho, hg, go_sem, ↓reduceIte, reduceCtorEq, Nat.reduceLT, Nat.reduceSub, Nat.reduceAdd, Nat.reduceMul, Nat.reduceEqDiff, Nat.reduceBEq, Nat.reduceBNe, Nat.reduceLeDiff, Nat.reduceDiv, Nat.reduceMod, Nat.reducePow, List.reduceReplicate, UInt8.reduceOfNat, UInt32.reduceOfNat, UInt64.reduceOfNat, Int.reduceLE, Int.reduceLT, Int.reduceNeg, Int.reduceToNat, Int.reduceAdd, Int.reduceSub, Int.reduceMul, Int.reduceEq, UInt64.reduceToNat, UInt8.reduceToNat, UInt32.reduceToNat]; done) | fail) ?_ | (refine Tri.skip ?_; try simp only [InBlock, Then]) | (refine Tri.exit ?_; simp only [Then, InBlock, if_true, if_false, ↓reduceIte, Nat.reduceEqDiff]) | refine Tri.seq (Tri.block ?_) | refine Tri.block ?_ | refine Tri.seq ?_ | (refine Tri.ret ?_; refine Con.fin (.inl rfl) (by simp only [Tryd.f55, cfgKF1, resA, resA1, go_sem, ↓reduceIte, reduceCtorEq, Nat.reduceLT, Nat.reduceSub, Nat.reduceAdd, Nat.reduceMul, Nat.reduceEqDiff, Nat.reduceBEq, Nat.reduceBNe, Nat.reduceLeDiff, Nat.reduceDiv, Nat.reduceMod, Nat.reducePow, List.reduceReplicate, UInt8.reduceOfNat, UInt32.reduceOfNat, UInt64.reduceOfNat, Int.reduceLE, Int.reduceLT, Int.reduceNeg, Int.reduceToNat, Int.reduceAdd, Int.reduceSub, Int.reduceMul, Int.reduceEq, UInt64.reduceToNat, UInt8.reduceToNat, UInt32.reduceToNat]; rfl) (by simp only [Obs, and_true, true_and]) (by first | (simp only [kFd, Con.of, Con.ofO, resV, hc', ho, hg, go_sem, ↓reduceIte, reduceCtorEq, Nat.reduceLT, Nat.reduceSub, Nat.reduceAdd, Nat.reduceMul, Nat.reduceEqDiff, Nat.reduceBEq, Nat.reduceBNe, Nat.reduceLeDiff, Nat.reduceDiv, Nat.reduceMod, Nat.reducePow, List.reduceReplicate, UInt8.reduceOfNat, UInt32.reduceOfNat, UInt64.reduceOfNat, Int.reduceLE, Int.reduceLT, Int.reduceNeg, Int.reduceToNat, Int.reduceAdd, Int.reduceSub, Int.reduceMul, Int.reduceEq, UInt64.reduceToNat, UInt8.reduceToNat, UInt32.reduceToNat]; done) | fail) trivial rfl rfl))
        refine Tri.ret ?_
        refine Con.fin (.inl rfl) (by simp only [Tryd.f55, cfgKF1, resA, resA1, go_sem, ↓reduceIte, reduceCtorEq, Nat.reduceLT, Nat.reduceSub, Nat.reduceAdd, Nat.reduceMul, Nat.reduceEqDiff, Nat.reduceBEq, Nat.reduceBNe, Nat.reduceLeDiff, Nat.reduceDiv, Nat.reduceMod, Nat.reducePow, List.reduceReplicate, UInt8.reduceOfNat, UInt32.reduceOfNat, UInt64.reduceOfNat, Int.reduceLE, Int.reduceLT, Int.reduceNeg, Int.reduceToNat, Int.reduceAdd, Int.reduceSub, Int.reduceMul, Int.reduceEq, UInt64.reduceToNat, UInt8.reduceToNat, UInt32.reduceToNat]; rfl) (by simp only [Obs, and_true, true_and]) ?_ ?_ ?_ rfl
        · exact hV.symm
        · exact True.intro
        · show (AS.mk [some (fdV (kd, cl, sv, no, en, fl, ti, se, co, u1))] []).closed = true
          rw [hV]; rfl
      | true =>
        rw [ho, if_pos rfl] at hfd
        refine Tri.at (by first | (simp only [hc', ho, htq, hg, Con.start, go_sem, ↓reduceIte, reduceCtorEq, Nat.reduceLT, Nat.reduceSub, Nat.reduceAdd, Nat.reduceMul, Nat.reduceEqDiff, Nat.reduceBEq, Nat.reduceBNe, Nat.reduceLeDiff, Nat.reduceDiv, Nat.reduceMod, Nat.reducePow, List.reduceReplicate, UInt8.reduceOfNat, UInt32.reduceOfNat, UInt64.reduceOfNat, Int.reduceLE, Int.reduceLT, Int.reduceNeg, Int.reduceToNat, Int.reduceAdd, Int.reduceSub, Int.reduceMul, Int.reduceEq, UInt64.reduceToNat, UInt8.reduceToNat, UInt32.reduceToNat]; rfl) | rfl) ?_
        repeat (first | ((first | refine Tri.seq (Tri.regT (cfgKF1_ok.pins _) ?_) | refine Tri.rgnT (cfgKF1_ok.pins _) ?_); (repeat (first | refine RunT.one (by first | exact wantedA_none rfl | (simp only [go_sem, Bool.true_beq, Bool.false_beq]; done) | (simp only [go_sem, Bool.true_beq, Bool.false_beq]; with_reducible rfl)) (by simp (maxSteps := 2000000) (disch := first | decide | omega | (simp only [List.length_append, List.length_cons, List.length_nil, List.length_take, List.length_drop]; omega)) only [hc', ho, htq, hg, go_sem, ↓reduceIte, reduceCtorEq, Nat.reduceLT, Nat.reduceSub, Nat.reduceAdd, Nat.reduceMul, Nat.reduceEqDiff, Nat.reduceBEq, Nat.reduceBNe, Nat.reduceLeDiff, Nat.reduceDiv, Nat.reduceMod, Nat.reducePow, List.reduceReplicate, UInt8.reduceOfNat, UInt32.reduceOfNat, UInt64.reduceOfNat, Int.reduceLE, Int.reduceLT, Int.reduceNeg, Int.reduceToNat, Int.reduceAdd, Int.reduceSub, Int.reduceMul, Int.reduceEq, UInt64.reduceToNat, UInt8.reduceToNat, UInt32.reduceToNat]; rfl) (by simp only [go_sem, Nat.reduceBEq, Nat.reduceEqDiff, Nat.reduceAdd, ↓reduceIte, reduceCtorEq, List.reduceReplicate, List.replicate]; rfl) (by first | exact True.intro | (simp only [Obs, and_true, true_and]; omega) | (simp [Obs, AV.sizeL, AV.size, Kd.sz]; done) | (simp [Obs, AV.sizeL, AV.size, Kd.sz]; omega) | (simp only [Obs, and_true, true_and]; (repeat' apply And.intro) <;> first | omega | assumption)) ?_ | refine RunT.not (by first | (simp only [go_sem, Bool.true_beq, Bool.false_beq]; done) | (simp only [go_sem, Bool.true_beq, Bool.false_beq]; with_reducible rfl)) (by simp only [go_sem, Nat.reduceBEq, Nat.reduceEqDiff, Nat.reduceAdd, ↓reduceIte, reduceCtorEq, List.reduceReplicate, List.replicate]; rfl) ?_)); refine RunT.nil ?_; try simp only [InBlock, Then]) | ((first | refine Tri.seq (Tri.drwT (mixed) (cfgKF1_ok.pins _) ?_) | refine Tri.drnT (mixed) (cfgKF1_ok.pins _) ?_); (repeat (first | refine RunD.one (by first | exact wantedA_none rfl | (simp only [go_sem, Bool.true_beq, Bool.false_beq]; done) | (simp only [go_sem, Bool.true_beq, Bool.false_beq]; with_reducible rfl)) (by simp (maxSteps := 2000000) (disch := first | decide | omega | (simp only [List.length_append, List.length_cons, List.length_nil, List.length_take, List.length_drop]; omega)) only [hc', ho, htq, hg, go_sem, ↓reduceIte, reduceCtorEq, Nat.reduceLT, Nat.reduceSub, Nat.reduceAdd, Nat.reduceMul, Nat.reduceEqDiff, Nat.reduceBEq, Nat.reduceBNe, Nat.reduceLeDiff, Nat.reduceDiv, Nat.reduceMod, Nat.reducePow, List.reduceReplicate, UInt8.reduceOfNat, UInt32.reduceOfNat, UInt64.reduceOfNat, Int.reduceLE, Int.reduceLT, Int.reduceNeg, Int.reduceToNat, Int.reduceAdd, Int.reduceSub, Int.reduceMul, Int.reduceEq, UInt64.reduceToNat, UInt8.reduceToNat, UInt32.reduceToNat]; rfl) (by simp only [go_sem, Nat.reduceBEq, Nat.reduceEqDiff, Nat.reduceAdd, ↓reduceIte, reduceCtorEq, List.reduceReplicate, List.replicate]; rfl) (by first | exact True.intro | (simp only [Obs, and_true, true_and]; omega) | (simp [Obs, AV.sizeL, AV.size, Kd.sz]; done) | (simp [Obs, AV.sizeL, AV.size, Kd.sz]; omega) | (simp only [Obs, and_true, true_and]; (repeat' apply And.intro) <;> first | omega | assumption)) ?_ | refine RunD.not (by first | (simp only [go_sem, Bool.true_beq, Bool.false_beq]; done) | (simp only [go_sem, Bool.true_beq, Bool.false_beq]; with_reducible rfl)) (by simp only [go_sem, Nat.reduceBEq, Nat.reduceEqDiff, Nat.reduceAdd, ↓reduceIte, reduceCtorEq, List.reduceReplicate, List.replicate]; rfl) ?_)); refine RunD.nil ?_; refine ⟨by kernel_rfl, ?_⟩; try simp only [InBlock, Then]) | refine Tri.cF (by first | (simp only [AS.ev, hc', ho, htq, hg, go_sem, ↓reduceIte, reduceCtorEq, Nat.reduceLT, Nat.reduceSub, Nat.reduceAdd, Nat.reduceMul, Nat.reduceEqDiff, Nat.reduceBEq, Nat.reduceBNe, Nat.reduceLeDiff, Nat.reduceDiv, Nat.reduceMod, Nat.reducePow, List.reduceReplicate, UInt8.reduceOfNat, UInt32.reduceOfNat, UInt64.reduceOfNat, Int.reduceLE, Int.reduceLT, Int.reduceNeg, Int.reduceToNat, Int.reduceAdd, Int.reduceSub, Int.reduceMul, Int.reduceEq, UInt64.reduceToNat, UInt8.reduceToNat, UInt32.reduceToNat]; done) | fail) ?_ | refine Tri.cT (by first | (simp only [AS.ev, hc', ho, htq, hg, go_sem, ↓reduceIte, reduceCtorEq, Nat.reduceLT, Nat.reduceSub, Nat.reduceAdd, Nat.reduceMul, Nat.reduceEqDiff, Nat.reduceBEq, Nat.reduceBNe, Nat.reduceLeDiff, Nat.reduceDiv, Nat.reduceMod, Nat.reducePow, List.reduceReplicate, UInt8.reduceOfNat, UInt32.reduceOfNat, UInt64.reduceOfNat, Int.reduceLE, Int.reduceLT, Int.reduceNeg, Int.reduceToNat, Int.reduceAdd, Int.reduceSub, Int.reduceMul, Int.reduceEq, UInt64.reduceToNat, UInt8.reduceToNat, UInt32.reduceToNat]; done) | fail) ?_ | (refine Tri.skip ?_; try simp only [InBlock, Then]) | (refine Tri.exit ?_; simp only [Then, InBlock, if_true, if_false, ↓reduceIte, Nat.reduceEqDiff]) | refine Tri.seq (Tri.block ?_) | refine Tri.block ?_ | refine Tri.seq ?_ | (refine Tri.ret ?_; refine Con.fin (.inl rfl) (by simp only [Tryd.f55, cfgKF1, resA, resA1, go_sem, ↓reduceIte, reduceCtorEq, Nat.reduceLT, Nat.reduceSub, Nat.reduceAdd, Nat.reduceMul, Nat.reduceEqDiff, Nat.reduceBEq, Nat.reduceBNe, Nat.reduceLeDiff, Nat.reduceDiv, Nat.reduceMod, Nat.reducePow, List.reduceReplicate, UInt8.reduceOfNat, UInt32.reduceOfNat, UInt64.reduceOfNat, Int.reduceLE, Int.reduceLT, Int.reduceNeg, Int.reduceToNat, Int.reduceAdd, Int.reduceSub, Int.reduceMul, Int.reduceEq, UInt64.reduceToNat, UInt8.reduceToNat, UInt32.reduceToNat]; rfl) (by simp only [Obs, and_true, true_and]) (by first | (simp only [kFd, Con.of, Con.ofO, resV, hc', ho, htq, hg, go_sem, ↓reduceIte, reduceCtorEq, Nat.reduceLT, Nat.reduceSub, Nat.reduceAdd, Nat.reduceMul, Nat.reduceEqDiff, Nat.reduceBEq, Nat.reduceBNe, Nat.reduceLeDiff, Nat.reduceDiv, Nat.reduceMod, Nat.reducePow, List.reduceReplicate, UInt8.reduceOfNat, UInt32.reduceOfNat, UInt64.reduceOfNat, Int.reduceLE, Int.reduceLT, Int.reduceNeg, Int.reduceToNat, Int.reduceAdd, Int.reduceSub, Int.reduceMul, Int.reduceEq, UInt64.reduceToNat, UInt8.reduceToNat, UInt32.reduceToNat]; done) | fail) trivial rfl rfl))
        refine ⟨(i + 1, stM bare t (vaB (kd, cl, sv, no, en, fl, ti, se, co, u1) t), fs ++ [(t, vaB (kd, cl, sv, no, en, fl, ti, se, co, u1) t, ())]), ⟨(by show i + 1 ≤ tags.length; omega), (by show (fs ++ [((t, vaB (kd, cl, sv, no, en, fl, ti, se, co, u1) t, ()) : flK.T)]).length ≤ i + 1 + 1; rw [List.length_append]; exact Nat.add_le_add_right hfl 1), hfd⟩, (by show tags.length - (i + 1) < tags.length - i; omega), Wk.of ?_ ?_ rfl rfl⟩
        · simp only [lessTs, List.reduceReplicate, List.cons_append, List.nil_append, List.length_append, List.length_cons, List.length_nil] <;> ((repeat' apply And.intro) <;> first | with_reducible rfl | exact True.intro | exact congrArg (fun z : Int => some (AV.int IntKind.i64 z)) (show (_ : Int) = _ by omega) | exact congrArg (fun z : Nat => some (AV.tsl _ _ _ _ _ z)) (show (_ : Nat) = _ by omega) | exact arrEq (by omega) (by with_reducible rfl))
        · exact ⟨rfl, rfl, rfl, arrEq (by show fs.length + 1 = (fs ++ [((t, vaB (kd, cl, sv, no, en, fl, ti, se, co, u1) t, ()) : flK.T)]).length; rw [List.length_append]; rfl) rfl, trivial⟩
    · have hc' : decide ((i : Int) < (tags.length : Int)) = false := decide_eq_false (by omega)
      rw [List.drop_eq_nil_of_le (by omega), fdS] at hfd
      rw [hfd] at hV
      replace hV : fdV (kd, cl, sv, no, en, fl, ti, se, co, u1) = .tuple [.pure (.slice true flK) fs, .bool (decide ((0 : Int) < ((tags.length : Nat) : Int)) && smM bare (kd, cl, sv, no, en, fl, ti, se, co, u1))] := hV
      cases hz : decide ((0 : Int) < ((tags.length : Nat) : Int))
      all_goals
        rw [hz] at hV
        simp only [Bool.true_and, Bool.false_and] at hV
        refine Tri.at (by first | (simp only [hc', hz, Con.start, go_sem, ↓reduceIte, reduceCtorEq, Nat.reduceLT, Nat.reduceSub, Nat.reduceAdd, Nat.reduceMul, Nat.reduceEqDiff, Nat.reduceBEq, Nat.reduceBNe, Nat.reduceLeDiff, Nat.reduceDiv, Nat.reduceMod, Nat.reducePow, List.reduceReplicate, UInt8.reduceOfNat, UInt32.reduceOfNat, UInt64.reduceOfNat, Int.reduceLE, Int.reduceLT, Int.reduceNeg, Int.reduceToNat, Int.reduceAdd, Int.reduceSub, Int.reduceMul, Int.reduceEq, UInt64.reduceToNat, UInt8.reduceToNat, UInt32.reduceToNat]; rfl) | rfl) ?_
        repeat (first | ((first | refine Tri.seq (Tri.regT (cfgKF1_ok.pins _) ?_) | refine Tri.rgnT (cfgKF1_ok.pins _) ?_); (repeat (first | refine RunT.one (by first | exact wantedA_none rfl | (simp only [go_sem, Bool.true_beq, Bool.false_beq]; done) | (simp only [go_sem, Bool.true_beq, Bool.false_beq]; with_reducible rfl)) (by simp (maxSteps := 2000000) (disch := first | decide | omega | (simp only [List.length_append, List.length_cons, List.length_nil, List.length_take, List.length_drop]; omega)) only [hc', hz, go_sem, ↓reduceIte, reduceCtorEq, Nat.reduceLT, Nat.reduceSub, Nat.reduceAdd, Nat.reduceMul, Nat.reduceEqDiff, Nat.reduceBEq, Nat.reduceBNe, Nat.reduceLeDiff, Nat.reduceDiv, Nat.reduceMod, Nat.reducePow, List.reduceReplicate, UInt8.reduceOfNat, UInt32.reduceOfNat, UInt64.reduceOfNat, Int.reduceLE, Int.reduceLT, Int.reduceNeg, Int.reduceToNat, Int.reduceAdd, Int.reduceSub, Int.reduceMul, Int.reduceEq, UInt64.reduceToNat, UInt8.reduceToNat, UInt32.reduceToNat]; rfl) (by simp only [go_sem, Nat.reduceBEq, Nat.reduceEqDiff, Nat.reduceAdd, ↓reduceIte, reduceCtorEq, List.reduceReplicate, List.replicate]; rfl) (by first | exact True.intro | (simp only [Obs, and_true, true_and]; omega) | (simp [Obs, AV.sizeL, AV.size, Kd.sz]; done) | (simp [Obs, AV.sizeL, AV.size, Kd.sz]; omega) | (simp only [Obs, and_true, true_and]; (repeat' apply And.intro) <;> first | omega | assumption)) ?_ | refine RunT.not (by first | (simp only [go_sem, Bool.true_beq, Bool.false_beq]; done) | (simp only [go_sem, Bool.true_beq, Bool.false_beq]; with_reducible rfl)) (by simp only [go_sem, Nat.reduceBEq, Nat.reduceEqDiff, Nat.reduceAdd, ↓reduceIte, reduceCtorEq, List.reduceReplicate, List.replicate]; rfl) ?_)); refine RunT.nil ?_; try simp only [InBlock, Then]) | refine Tri.cF (by first | (simp only [AS.ev, hc', hz, go_sem, ↓reduceIte, reduceCtorEq, Nat.reduceLT, Nat.reduceSub, Nat.reduceAdd, Nat.reduceMul, Nat.reduceEqDiff, Nat.reduceBEq, Nat.reduceBNe, Nat.reduceLeDiff, Nat.reduceDiv, Nat.reduceMod, Nat.reducePow, List.reduceReplicate, UInt8.reduceOfNat, UInt32.reduceOfNat, UInt64.reduceOfNat, Int.reduceLE, Int.reduceLT, Int.reduceNeg, Int.reduceToNat, Int.reduceAdd, Int.reduceSub, Int.reduceMul, Int.reduceEq, UInt64.reduceToNat, UInt8.reduceToNat, UInt32.reduceToNat]; done) | fail) ?_ | refine Tri.cT (by first | (simp only [AS.ev, hc', hz, go_sem, ↓reduceIte, reduceCtorEq, Nat.reduceLT, Nat.reduceSub, Nat.reduceAdd, Nat.reduceMul, Nat.reduceEqDiff, Nat.reduceBEq, Nat.reduceBNe, Nat.reduceLeDiff, Nat.reduceDiv, Nat.reduceMod, Nat.reducePow, List.reduceReplicate, UInt8.reduceOfNat, UInt32.reduceOfNat, UInt64.reduceOfNat, Int.reduceLE, Int.reduceLT, Int.reduceNeg, Int.reduceToNat, Int.reduceAdd, Int.reduceSub, Int.reduceMul, Int.reduceEq, UInt64.reduceToNat, UInt8.reduceToNat, UInt32.reduceToNat]; done) | fail) ?_ | (refine Tri.skip ?_; try simp only [InBlock, Then]) | (refine Tri.exit ?_; simp only [Then, InBlock, if_true, if_false, ↓reduceIte, Nat.reduceEqDiff]) | refine Tri.seq (Tri.block ?_) | refine Tri.block ?_ | refine Tri.seq ?_ | (refine Tri.ret ?_; refine Con.fin (.inl rfl) (by simp only [Tryd.f55, cfgKF1, resA, resA1, go_sem, ↓reduceIte, reduceCtorEq, Nat.reduceLT, Nat.reduceSub, Nat.reduceAdd, Nat.reduceMul, Nat.reduceEqDiff, Nat.reduceBEq, Nat.reduceBNe, Nat.reduceLeDiff, Nat.reduceDiv, Nat.reduceMod, Nat.reducePow, List.reduceReplicate, UInt8.reduceOfNat, UInt32.reduceOfNat, UInt64.reduceOfNat, Int.reduceLE, Int.reduceLT, Int.reduceNeg, Int.reduceToNat, Int.reduceAdd, Int.reduceSub, Int.reduceMul, Int.reduceEq, UInt64.reduceToNat, UInt8.reduceToNat, UInt32.reduceToNat]; rfl) (by simp only [Obs, and_true, true_and]) (by first | (simp only [kFd, Con.of, Con.ofO, resV, hc', hz, go_sem, ↓reduceIte, reduceCtorEq, Nat.reduceLT, Nat.reduceSub, Nat.reduceAdd, Nat.reduceMul, Nat.reduceEqDiff, Nat.reduceBEq, Nat.reduceBNe, Nat.reduceLeDiff, Nat.reduceDiv, Nat.reduceMod, Nat.reducePow, List.reduceReplicate, UInt8.reduceOfNat, UInt32.reduceOfNat, UInt64.reduceOfNat, Int.reduceLE, Int.reduceLT, Int.reduceNeg, Int.reduceToNat, Int.reduceAdd, Int.reduceSub, Int.reduceMul, Int.reduceEq, UInt64.reduceToNat, UInt8.reduceToNat, UInt32.reduceToNat]; done) | fail) trivial rfl rfl))
        refine Tri.rel true 3 rfl ?_ rfl rfl ?_
        · simp only [AS.blk, go_sem, ↓reduceIte, reduceCtorEq, Nat.reduceLT, Nat.reduceSub, Nat.reduceAdd, Nat.reduceMul, Nat.reduceEqDiff, Nat.reduceBEq, Nat.reduceBNe, Nat.reduceLeDiff, Nat.reduceDiv, Nat.reduceMod, Nat.reducePow, List.reduceReplicate, UInt8.reduceOfNat, UInt32.reduceOfNat, UInt64.reduceOfNat, Int.reduceLE, Int.reduceLT, Int.reduceNeg, Int.reduceToNat, Int.reduceAdd, Int.reduceSub, Int.reduceMul, Int.reduceEq, UInt64.reduceToNat, UInt8.reduceToNat, UInt32.reduceToNat]
          repeat' constructor
        refine Tri.at (by first | (simp only [htq, Con.start, go_sem, ↓reduceIte, reduceCtorEq, Nat.reduceLT, Nat.reduceSub, Nat.reduceAdd, Nat.reduceMul, Nat.reduceEqDiff, Nat.reduceBEq, Nat.reduceBNe, Nat.reduceLeDiff, Nat.reduceDiv, Nat.reduceMod, Nat.reducePow, List.reduceReplicate, UInt8.reduceOfNat, UInt32.reduceOfNat, UInt64.reduceOfNat, Int.reduceLE, Int.reduceLT, Int.reduceNeg, Int.reduceToNat, Int.reduceAdd, Int.reduceSub, Int.reduceMul, Int.reduceEq, UInt64.reduceToNat, UInt8.reduceToNat, UInt32.reduceToNat]; rfl) | rfl) ?_
        refine Tri.ret ?_
        refine Con.fin (.inl rfl) (by simp only [Tryd.f55, cfgKF1, resA, resA1, go_sem, ↓reduceIte, reduceCtorEq, Nat.reduceLT, Nat.reduceSub, Nat.reduceAdd, Nat.reduceMul, Nat.reduceEqDiff, Nat.reduceBEq, Nat.reduceBNe, Nat.reduceLeDiff, Nat.reduceDiv, Nat.reduceMod, Nat.reducePow, List.reduceReplicate, UInt8.reduceOfNat, UInt32.reduceOfNat, UInt64.reduceOfNat, Int.reduceLE, Int.reduceLT, Int.reduceNeg, Int.reduceToNat, Int.reduceAdd, Int.reduceSub, Int.reduceMul, Int.reduceEq, UInt64.reduceToNat, UInt8.reduceToNat, UInt32.reduceToNat]; rfl) (by simp only [Obs, and_true, true_and]) ?_ ?_ ?_ rfl
        · exact hV.symm
        · exact True.intro
        · show (AS.mk [some (fdV (kd, cl, sv, no, en, fl, ti, se, co, u1))] []).closed = true
          rw [hV]; rfl
theorem fds_sum : FSumOK Tryd.prog cfgKF1.G 55 kFd.sum := Con.sumOK cfgKF1_ok kFd Tryd.func55 rfl rfl (Con.of_inv _ _ _) fds_body
end
end Go.Proofs.YtjdeaphfamenaaaDoor

namespace Go.Proofs.YtjdeaphfamenaaaDoor
open Go.Vc Go.Proofs
set_option linter.unusedVariables false
set_option maxRecDepth 10000
set_option maxHeartbeats 4000000
-- SEM VcZn
-- LITE
-- ASM
/-! Messages are written, and looked at; the examples; the law of numbers. -/
theorem krw_len {s : List UInt8} (h : rgS (pwS s) = true) : s.length ≤ 70 := by
  rw [← tx_pw h]; exact tx_length h
theorem vaO_len {m : krK.T} {t : Int} (h : vaO m t = true) : (vaB m t).length ≤ 65535 := by
  have hn : ∀ n, (numS n).length ≤ 65535 := fun n => Nat.le_trans (numS_len n) (by decide)
  unfold vaO at h
  unfold vaB
  split
  · rename_i e; rw [if_pos e] at h; exact Nat.le_trans (krw_len h) (by decide)
  · rename_i e
    rw [if_neg e] at h
    split
    · rename_i e; rw [if_pos e] at h; exact Nat.le_trans (krw_len h) (by decide)
    · rename_i e
      rw [if_neg e] at h
      split
      · exact hn _
      · rename_i e
        rw [if_neg e] at h
        split
        · exact hn _
        · rename_i e
          rw [if_neg e] at h
          split
          · exact hn _
          · rename_i e
            rw [if_neg e] at h
            split
            · rename_i e; rw [if_pos e] at h
              rw [Bool.not_eq_true', decide_eq_false_iff_not] at h
              omega
            · rename_i e
              rw [if_neg e] at h
              split
              · rename_i e; rw [if_pos e] at h
                rw [Bool.not_eq_true', decide_eq_false_iff_not] at h
                omega
              · exact hn _
theorem fdS_ok (m : krK.T) : ∀ (tags : List Int) (bare : krK.T) (fs : List flK.T) (q : List flK.T × krK.T), fdS m bare fs tags = some q → (∀ t ∈ tags, 1 ≤ t ∧ t ≤ 255) → (∀ f ∈ fs, fkOK f) → q.1.length = fs.length + tags.length ∧ ∀ f ∈ q.1, fkOK f
  | [], bare, fs, q, h, _, hf => by
    simp only [fdS, Option.some.injEq] at h
    subst h
    exact ⟨rfl, hf⟩
  | t :: r, bare, fs, q, h, ht, hf => by
    rw [fdS] at h
    split at h
    · rename_i ho
      obtain ⟨h1, h2⟩ := fdS_ok m r _ _ q h (fun x hx => ht x (List.mem_cons_of_mem _ hx)) (fun f hff => by
        rcases List.mem_append.1 hff with hff | hff
        · exact hf f hff
        · rw [List.mem_singleton.1 hff]
          exact ⟨(ht t (List.mem_cons_self ..)).1, (ht t (List.mem_cons_self ..)).2, vaO_len ho⟩)
      refine ⟨?_, h2⟩
      rw [h1]
      simp only [List.length_append, List.length_cons, List.length_nil]
      omega
    · cases h
theorem hasK_mem (k : Int) : ∀ t ∈ hasK k, (32 : Int) ≤ t ∧ t ≤ 39 := by
  unfold hasK
  repeat' (split; · decide)
  decide
/-- The fields of a message that is right. -/
def fdR (m : krK.T) : Option (List flK.T) := match fdS m (fd0 m.1) [(((31 : Int), numS (UInt64.ofInt m.1), ()) : flK.T)] (hasK m.1) with
  | none => none
  | some q => if (decide ((0 : Int) < (((hasK m.1).length : Nat) : Int)) && smM q.2 m) = true then some q.1 else none
theorem fdR_ok {m : krK.T} {fs : List flK.T} (h : fdR m = some fs) : fs.length ≤ 7 ∧ ∀ f ∈ fs, fkOK f := by
  unfold fdR at h
  split at h
  · cases h
  · rename_i q hq
    split at h
    · injection h with h
      subst h
      have hk := hasK_mem m.1
      obtain ⟨h1, h2⟩ := fdS_ok m _ _ _ q hq (fun t ht => by have := hk t ht; omega) (fun f hf => by
        rw [List.mem_singleton.1 hf]
        exact ⟨(by show (1 : Int) ≤ 31; decide), (by show (31 : Int) ≤ 255; decide), Nat.le_trans (numS_len _) (by decide)⟩)
      refine ⟨?_, h2⟩
      have := hasK_len m.1
      rw [h1]
      show 1 + (hasK m.1).length ≤ 7
      omega
    · cases h
def wrV (m : krK.T) : AV := match fdR m with
  | some fs => .tuple [.pure (.slice true (.int .u8)) (jnK fs), .int .i64 (0 : Int)]
  | none => .tuple [.nilsl, .int .i64 (1 : Int)]
def chV (m : krK.T) : Int := match fdR m with | some _ => 0 | none => 1
def kWr : Con := Con.of [.v krK] (fun x => [List.length (α := UInt8) x.1.2.1 ≤ 1000000000, List.length (α := UInt8) x.1.2.2.1 ≤ 1000000000, List.length (α := UInt8) x.1.2.2.2.2.2.2.1 ≤ 1000000000, List.length (α := UInt8) x.1.2.2.2.2.2.2.2.1 ≤ 1000000000]) (fun x => ⟨wrV x.1, []⟩)
def kCh : Con := Con.of [.v krK] (fun x => [List.length (α := UInt8) x.1.2.1 ≤ 1000000000, List.length (α := UInt8) x.1.2.2.1 ≤ 1000000000, List.length (α := UInt8) x.1.2.2.2.2.2.2.1 ≤ 1000000000, List.length (α := UInt8) x.1.2.2.2.2.2.2.2.1 ≤ 1000000000]) (fun x => ⟨.int .i64 (chV x.1), []⟩)
def cfgKG1 : Cfg2 := { ty := tyTabM, fn := fun | 55 => some kFd.sum | 56 => some kJnK.sum | _ => none, G := gNone, pin := [], eq := fun _ => none }
theorem cfgKG1_ok : CfgOK Tryd.prog cfgKG1 := ⟨tyTabM_ok, (fun f s h => by
  simp only [cfgKG1] at h
  split at h
  · injection h with h; subst h; exact .inl fds_sum
  · injection h with h; subst h; exact .inl tjk_sum
  · cases h), (fun t d h => by cases h)⟩
section
attribute [local go_sem] Tryd.f32 kWr kFd kJnK cfgKG1 tyTabM tyTabK tyTab
theorem wr_body (p : kWr.Par) (hp : ∀ q ∈ kWr.pre p, q) : BodyOK Tryd.prog cfgKG1 Tryd.f32 (Tryd.f32.body.get rfl) kWr p := by
  obtain ⟨(m : krK.T), u⟩ := p
  obtain ⟨h0, h1, h2, h3, _⟩ := Obs.of hp
  replace h0 : List.length (α := UInt8) m.2.1 ≤ 1000000000 := h0
  replace h1 : List.length (α := UInt8) m.2.2.1 ≤ 1000000000 := h1
  replace h2 : List.length (α := UInt8) m.2.2.2.2.2.2.1 ≤ 1000000000 := h2
  replace h3 : List.length (α := UInt8) m.2.2.2.2.2.2.2.1 ≤ 1000000000 := h3
  refine ⟨?_, Nat.zero_le _, (by show (wrV m).strict = true; unfold wrV; split <;> rfl), rfl⟩
  show Tri _ _ _ (Code.seq _ (Code.seq _ (Code.seq (Code.seq _ (Code.cond _ (Code.seq _ _) _)) (Code.seq _ _)))) _
  cases hq : fdS m (fd0 m.1) [(((31 : Int), numS (UInt64.ofInt m.1), ()) : flK.T)] (hasK m.1) with
  | none =>
    have e1 : fdV m = .tuple [.nilsl, .bool false] := by rw [fdV, hq]
    have e2 : fdR m = none := by rw [fdR, hq]
    have e3 : wrV m = .tuple [.nilsl, .int .i64 (1 : Int)] := by rw [wrV, e2]
    refine Tri.at (by first | (simp only [Con.start, go_sem, Nat.reduceSub, List.reduceReplicate]; rfl) | rfl) ?_
    repeat (first | ((first | refine Tri.seq (Tri.regT (cfgKG1_ok.pins _) ?_) | refine Tri.rgnT (cfgKG1_ok.pins _) ?_); (repeat (first | refine RunT.one (by first | exact wantedA_none rfl | (simp only [go_sem]; done) | (simp only [go_sem]; with_reducible rfl)) (by simp (maxSteps := 2000000) (disch := first | decide | omega | (simp only [List.length_append, List.length_cons, List.length_nil, List.length_take, List.length_drop]; omega)) only [e1, go_sem, ↓reduceIte, Nat.reduceSub, Nat.reduceAdd]; rfl) (by simp only [go_sem]; rfl) (by first | exact True.intro | (simp only [Obs, and_true]; omega) | (simp [Obs]; done) | (simp [Obs, AV.sizeL, AV.size, Kd.sz]; omega) | (simp only [Obs, and_true, true_and]; (repeat' apply And.intro) <;> first | omega | assumption)) ?_ | refine RunT.not (by first | (simp only [go_sem]; done) | (simp only [go_sem]; with_reducible rfl)) (by simp only [go_sem, Nat.reduceBEq, Nat.reduceEqDiff, Nat.reduceAdd, ↓reduceIte, reduceCtorEq, List.reduceReplicate, List.replicate]; rfl) ?_)); refine RunT.nil ?_; try simp only [InBlock, Then]) | refine Tri.cF (by first | (simp only [AS.ev, go_sem]; done) | fail) ?_ | refine Tri.cT (by first | (simp only [AS.ev, go_sem]; done) | fail) ?_ | (refine Tri.skip ?_; try simp only [InBlock, Then]) | (refine Tri.exit ?_; simp only [Then, InBlock, if_true, if_false, ↓reduceIte, Nat.reduceEqDiff]) | refine Tri.seq (Tri.block ?_) | refine Tri.block ?_ | refine Tri.seq ?_ | (refine Tri.ret ?_; refine Con.fin (.inl rfl) (by simp only [Tryd.f32, cfgKG1, resA, resA1, go_sem]; rfl) (by simp only [Obs]) (by first | (simp only [kWr, Con.of, resV, go_sem]; done) | fail) trivial rfl rfl))
    refine Tri.ret ?_
    refine Con.fin (.inl rfl) (by simp only [Tryd.f32, cfgKG1, resA, resA1, go_sem]; rfl) (by simp only [Obs]) ?_ ?_ ?_ rfl
    · exact e3.symm
    · exact True.intro
    · show (AS.mk [some (wrV m)] []).closed = true
      rw [e3]; rfl
  | some q =>
    have e1 : fdV m = .tuple [.pure (.slice true flK) q.1, .bool (decide ((0 : Int) < (((hasK m.1).length : Nat) : Int)) && smM q.2 m)] := by rw [fdV, hq]
    cases hb : (decide ((0 : Int) < (((hasK m.1).length : Nat) : Int)) && smM q.2 m) with
    | false =>
      have e2 : fdR m = none := by
        rw [fdR, hq]
        show (if (decide ((0 : Int) < (((hasK m.1).length : Nat) : Int)) && smM q.2 m) = true then some q.1 else none) = none
        rw [hb]; rfl
      have e3 : wrV m = .tuple [.nilsl, .int .i64 (1 : Int)] := by rw [wrV, e2]
      rw [hb] at e1
      refine Tri.at (by first | (simp only [Con.start, go_sem, Nat.reduceSub, List.reduceReplicate]; rfl) | rfl) ?_
      repeat (first | ((first | refine Tri.seq (Tri.regT (cfgKG1_ok.pins _) ?_) | refine Tri.rgnT (cfgKG1_ok.pins _) ?_); (repeat (first | refine RunT.one (by first | exact wantedA_none rfl | (simp only [go_sem]; done) | (simp only [go_sem]; with_reducible rfl)) (by simp (maxSteps := 2000000) (disch := first | decide | omega | (simp only [List.length_append, List.length_cons, List.length_nil, List.length_take, List.length_drop]; omega)) only [e1, go_sem, ↓reduceIte, Nat.reduceSub, Nat.reduceAdd]; rfl) (by simp only [go_sem]; rfl) (by first | exact True.intro | (simp only [Obs, and_true]; omega) | (simp [Obs]; done) | (simp [Obs, AV.sizeL, AV.size, Kd.sz]; omega) | (simp only [Obs, and_true, true_and]; (repeat' apply And.intro) <;> first | omega | assumption)) ?_ | refine RunT.not (by first | (simp only [go_sem]; done) | (simp only [go_sem]; with_reducible rfl)) (by simp only [go_sem, Nat.reduceBEq, Nat.reduceEqDiff, Nat.reduceAdd, ↓reduceIte, reduceCtorEq, List.reduceReplicate, List.replicate]; rfl) ?_)); refine RunT.nil ?_; try simp only [InBlock, Then]) | refine Tri.cF (by first | (simp only [AS.ev, go_sem]; done) | fail) ?_ | refine Tri.cT (by first | (simp only [AS.ev, go_sem]; done) | fail) ?_ | (refine Tri.skip ?_; try simp only [InBlock, Then]) | (refine Tri.exit ?_; simp only [Then, InBlock, if_true, if_false, ↓reduceIte, Nat.reduceEqDiff]) | refine Tri.seq (Tri.block ?_) | refine Tri.block ?_ | refine Tri.seq ?_ | (refine Tri.ret ?_; refine Con.fin (.inl rfl) (by simp only [Tryd.f32, cfgKG1, resA, resA1, go_sem]; rfl) (by simp only [Obs]) (by first | (simp only [kWr, Con.of, resV, go_sem]; done) | fail) trivial rfl rfl))
      refine Tri.ret ?_
      refine Con.fin (.inl rfl) (by simp only [Tryd.f32, cfgKG1, resA, resA1, go_sem]; rfl) (by simp only [Obs]) ?_ ?_ ?_ rfl
      · exact e3.symm
      · exact True.intro
      · show (AS.mk [some (wrV m)] []).closed = true
        rw [e3]; rfl
    | true =>
      have e2 : fdR m = some q.1 := by
        rw [fdR, hq]
        show (if (decide ((0 : Int) < (((hasK m.1).length : Nat) : Int)) && smM q.2 m) = true then some q.1 else none) = some q.1
        rw [hb]; rfl
      have e3 : wrV m = .tuple [.pure (.slice true (.int .u8)) (jnK q.1), .int .i64 (0 : Int)] := by rw [wrV, e2]
      obtain ⟨g1, g2⟩ := fdR_ok e2
      rw [hb] at e1
      generalize q.1 = fs at *
      have g3 : fs.length ≤ 1000 := by omega
      refine Tri.at (by first | (simp only [Con.start, go_sem, Nat.reduceSub, List.reduceReplicate]; rfl) | rfl) ?_
      repeat (first | ((first | refine Tri.seq (Tri.regT (cfgKG1_ok.pins _) ?_) | refine Tri.rgnT (cfgKG1_ok.pins _) ?_); (repeat (first | refine RunT.one (by first | exact wantedA_none rfl | (simp only [go_sem]; done) | (simp only [go_sem]; with_reducible rfl)) (by simp (maxSteps := 2000000) (disch := first | decide | omega | (simp only [List.length_append, List.length_cons, List.length_nil, List.length_take, List.length_drop]; omega)) only [e1, go_sem, ↓reduceIte, Nat.reduceSub, Nat.reduceAdd]; rfl) (by simp only [go_sem]; rfl) (by first | exact True.intro | (simp only [Obs, and_true]; omega) | (simp [Obs]; done) | (simp [Obs]; omega) | (simp only [Obs, and_true]; (repeat' apply And.intro) <;> first | omega | assumption)) ?_ | refine RunT.not (by first | (simp only [go_sem]; done) | (simp only [go_sem]; with_reducible rfl)) (by simp only [go_sem, Nat.reduceBEq, Nat.reduceEqDiff, Nat.reduceAdd, ↓reduceIte, reduceCtorEq, List.reduceReplicate, List.replicate]; rfl) ?_)); refine RunT.nil ?_; try simp only [InBlock, Then]) | refine Tri.cF (by first | (simp only [AS.ev, go_sem]; done) | fail) ?_ | refine Tri.cT (by first | (simp only [AS.ev, go_sem]; done) | fail) ?_ | (refine Tri.skip ?_; try simp only [Then]) | (refine Tri.exit ?_; simp only [Then, InBlock, if_true, if_false, ↓reduceIte, Nat.reduceEqDiff]) | refine Tri.seq (Tri.block ?_) | refine Tri.block ?_ | refine Tri.seq ?_ | (refine Tri.ret ?_; refine Con.fin (.inl rfl) (by simp only [Tryd.f32, cfgKG1, resA, resA1, go_sem]; rfl) (by simp only [Obs]) (by first | (simp only [kWr, Con.of, resV, go_sem]; done) | fail) trivial rfl rfl))
      refine Tri.ret ?_
      refine Con.fin (.inl rfl) (by simp only [Tryd.f32, cfgKG1, resA, resA1, go_sem]; rfl) (by simp only [Obs]) ?_ ?_ ?_ rfl
      · exact e3.symm
      · exact True.intro
      · show (AS.mk [some (wrV m)] []).closed = true
        rw [e3]; rfl
theorem wr_sum : FSumOK Tryd.prog cfgKG1.G 32 kWr.sum := Con.sumOK cfgKG1_ok kWr Tryd.func32 rfl rfl (Con.of_inv _ _ _) wr_body
end
section
attribute [local go_sem] Tryd.f34 kCh kFd kJnK cfgKG1 tyTabM tyTabK tyTab
theorem chk_body (p : kCh.Par) (hp : ∀ q ∈ kCh.pre p, q) : BodyOK Tryd.prog cfgKG1 Tryd.f34 (Tryd.f34.body.get rfl) kCh p := by
  obtain ⟨(m : krK.T), u⟩ := p
  obtain ⟨h0, h1, h2, h3, _⟩ := Obs.of hp
  replace h0 : List.length (α := UInt8) m.2.1 ≤ 1000000000 := h0
  replace h1 : List.length (α := UInt8) m.2.2.1 ≤ 1000000000 := h1
  replace h2 : List.length (α := UInt8) m.2.2.2.2.2.2.1 ≤ 1000000000 := h2
  replace h3 : List.length (α := UInt8) m.2.2.2.2.2.2.2.1 ≤ 1000000000 := h3
  refine ⟨?_, Nat.zero_le _, rfl, rfl⟩
  show Tri _ _ _ (Code.seq _ (Code.seq (Code.seq _ (Code.seq _ (Code.cond _ (Code.seq _ _) _))) (Code.seq _ _))) _
  cases hq : fdS m (fd0 m.1) [(((31 : Int), numS (UInt64.ofInt m.1), ()) : flK.T)] (hasK m.1) with
  | none =>
    have e1 : fdV m = .tuple [.nilsl, .bool false] := by rw [fdV, hq]
    have e2 : fdR m = none := by rw [fdR, hq]
    have e3 : chV m = 1 := by rw [chV, e2]
    refine Tri.at (by first | (simp only [Con.start, go_sem, Nat.reduceSub, List.reduceReplicate]; rfl) | rfl) ?_
    repeat (first | ((first | refine Tri.seq (Tri.regT (cfgKG1_ok.pins _) ?_) | refine Tri.rgnT (cfgKG1_ok.pins _) ?_); (repeat (first | refine RunT.one (by first | exact wantedA_none rfl | (simp only [go_sem]; done) | (simp only [go_sem]; with_reducible rfl)) (by simp (maxSteps := 2000000) (disch := first | decide | omega | (simp only [List.length_append, List.length_cons, List.length_nil, List.length_take, List.length_drop]; omega)) only [e1, go_sem, ↓reduceIte, Nat.reduceSub, Nat.reduceAdd]; rfl) (by simp only [go_sem]; rfl) (by first | exact True.intro | (simp only [Obs, and_true]; omega) | (simp [Obs]; done) | (simp [Obs, AV.sizeL, AV.size, Kd.sz]; omega) | (simp only [Obs, and_true, true_and]; (repeat' apply And.intro) <;> first | omega | assumption)) ?_ | refine RunT.not (by first | (simp only [go_sem]; done) | (simp only [go_sem]; with_reducible rfl)) (by simp only [go_sem, Nat.reduceBEq, Nat.reduceEqDiff, Nat.reduceAdd, ↓reduceIte, reduceCtorEq, List.reduceReplicate, List.replicate]; rfl) ?_)); refine RunT.nil ?_; try simp only [InBlock, Then]) | refine Tri.cF (by first | (simp only [AS.ev, go_sem]; done) | fail) ?_ | refine Tri.cT (by first | (simp only [AS.ev, go_sem]; done) | fail) ?_ | (refine Tri.skip ?_; try simp only [InBlock, Then]) | (refine Tri.exit ?_; simp only [Then, InBlock, if_true, if_false, ↓reduceIte, Nat.reduceEqDiff]) | refine Tri.seq (Tri.block ?_) | refine Tri.block ?_ | refine Tri.seq ?_ | (refine Tri.ret ?_; refine Con.fin (.inl rfl) (by simp only [Tryd.f34, cfgKG1, resA, resA1, go_sem]; rfl) (by simp only [Obs]) (by first | (simp only [kCh, Con.of, resV, e3, go_sem]; done) | fail) trivial rfl rfl))
  | some q =>
    have e1 : fdV m = .tuple [.pure (.slice true flK) q.1, .bool (decide ((0 : Int) < (((hasK m.1).length : Nat) : Int)) && smM q.2 m)] := by rw [fdV, hq]
    cases hb : (decide ((0 : Int) < (((hasK m.1).length : Nat) : Int)) && smM q.2 m) with
    | false =>
      have e2 : fdR m = none := by
        rw [fdR, hq]
        show (if (decide ((0 : Int) < (((hasK m.1).length : Nat) : Int)) && smM q.2 m) = true then some q.1 else none) = none
        rw [hb]; rfl
      have e3 : chV m = 1 := by rw [chV, e2]
      rw [hb] at e1
      refine Tri.at (by first | (simp only [Con.start, go_sem, Nat.reduceSub, List.reduceReplicate]; rfl) | rfl) ?_
      repeat (first | ((first | refine Tri.seq (Tri.regT (cfgKG1_ok.pins _) ?_) | refine Tri.rgnT (cfgKG1_ok.pins _) ?_); (repeat (first | refine RunT.one (by first | exact wantedA_none rfl | (simp only [go_sem]; done) | (simp only [go_sem]; with_reducible rfl)) (by simp (maxSteps := 2000000) (disch := first | decide | omega | (simp only [List.length_append, List.length_cons, List.length_nil, List.length_take, List.length_drop]; omega)) only [e1, go_sem, ↓reduceIte, Nat.reduceSub, Nat.reduceAdd]; rfl) (by simp only [go_sem]; rfl) (by first | exact True.intro | (simp only [Obs, and_true]; omega) | (simp [Obs]; done) | (simp [Obs, AV.sizeL, AV.size, Kd.sz]; omega) | (simp only [Obs, and_true, true_and]; (repeat' apply And.intro) <;> first | omega | assumption)) ?_ | refine RunT.not (by first | (simp only [go_sem]; done) | (simp only [go_sem]; with_reducible rfl)) (by simp only [go_sem, Nat.reduceBEq, Nat.reduceEqDiff, Nat.reduceAdd, ↓reduceIte, reduceCtorEq, List.reduceReplicate, List.replicate]; rfl) ?_)); refine RunT.nil ?_; try simp only [InBlock, Then]) | refine Tri.cF (by first | (simp only [AS.ev, go_sem]; done) | fail) ?_ | refine Tri.cT (by first | (simp only [AS.ev, go_sem]; done) | fail) ?_ | (refine Tri.skip ?_; try simp only [InBlock, Then]) | (refine Tri.exit ?_; simp only [Then, InBlock, if_true, if_false, ↓reduceIte, Nat.reduceEqDiff]) | refine Tri.seq (Tri.block ?_) | refine Tri.block ?_ | refine Tri.seq ?_ | (refine Tri.ret ?_; refine Con.fin (.inl rfl) (by simp only [Tryd.f34, cfgKG1, resA, resA1, go_sem]; rfl) (by simp only [Obs]) (by first | (simp only [kCh, Con.of, resV, e3, go_sem]; done) | fail) trivial rfl rfl))
    | true =>
      have e2 : fdR m = some q.1 := by
        rw [fdR, hq]
        show (if (decide ((0 : Int) < (((hasK m.1).length : Nat) : Int)) && smM q.2 m) = true then some q.1 else none) = some q.1
        rw [hb]; rfl
      have e3 : chV m = 0 := by rw [chV, e2]
      rw [hb] at e1
      refine Tri.at (by first | (simp only [Con.start, go_sem, Nat.reduceSub, List.reduceReplicate]; rfl) | rfl) ?_
      repeat (first | ((first | refine Tri.seq (Tri.regT (cfgKG1_ok.pins _) ?_) | refine Tri.rgnT (cfgKG1_ok.pins _) ?_); (repeat (first | refine RunT.one (by first | exact wantedA_none rfl | (simp only [go_sem]; done) | (simp only [go_sem]; with_reducible rfl)) (by simp (maxSteps := 2000000) (disch := first | decide | omega | (simp only [List.length_append, List.length_cons, List.length_nil, List.length_take, List.length_drop]; omega)) only [e1, go_sem, ↓reduceIte, Nat.reduceSub, Nat.reduceAdd]; rfl) (by simp only [go_sem]; rfl) (by first | exact True.intro | (simp only [Obs, and_true]; omega) | (simp [Obs]; done) | (simp [Obs, AV.sizeL, AV.size, Kd.sz]; omega) | (simp only [Obs, and_true, true_and]; (repeat' apply And.intro) <;> first | omega | assumption)) ?_ | refine RunT.not (by first | (simp only [go_sem]; done) | (simp only [go_sem]; with_reducible rfl)) (by simp only [go_sem, Nat.reduceBEq, Nat.reduceEqDiff, Nat.reduceAdd, ↓reduceIte, reduceCtorEq, List.reduceReplicate, List.replicate]; rfl) ?_)); refine RunT.nil ?_; try simp only [InBlock, Then]) | refine Tri.cF (by first | (simp only [AS.ev, go_sem]; done) | fail) ?_ | refine Tri.cT (by first | (simp only [AS.ev, go_sem]; done) | fail) ?_ | (refine Tri.skip ?_; try simp only [Then]) | (refine Tri.exit ?_; simp only [Then, InBlock, if_true, if_false, ↓reduceIte, Nat.reduceEqDiff]) | refine Tri.seq (Tri.block ?_) | refine Tri.block ?_ | refine Tri.seq ?_ | (refine Tri.ret ?_; refine Con.fin (.inl rfl) (by simp only [Tryd.f34, cfgKG1, resA, resA1, go_sem]; rfl) (by simp only [Obs]) (by first | (simp only [kCh, Con.of, resV, e3, go_sem]; done) | fail) trivial rfl rfl))
theorem chk_sum : FSumOK Tryd.prog cfgKG1.G 34 kCh.sum := Con.sumOK cfgKG1_ok kCh Tryd.func34 rfl rfl (Con.of_inv _ _ _) chk_body
end
def kKs : Con := Con.of [] (fun _ => []) (fun _ => ⟨.bool true, []⟩)
theorem ks_1 : fdR ((7 : Int), [], [], (5 : UInt64), (0 : Int), (0 : Int), [], [], (66 : Int), ()) = some [((31 : Int), [7], ()), ((34 : Int), [5], ()), ((39 : Int), [66], ())] := by decide +kernel
theorem ks_2 : jnK [((31 : Int), [7], ()), ((34 : Int), [5], ()), ((39 : Int), [66], ())] = [31, 0, 1, 7, 34, 0, 1, 5, 39, 0, 1, 66] := by decide +kernel
theorem ks_3 : wrV ((7 : Int), [], [], (5 : UInt64), (0 : Int), (0 : Int), [], [], (66 : Int), ()) = .tuple [.pure (.slice true (.int .u8)) [31, 0, 1, 7, 34, 0, 1, 5, 39, 0, 1, 66], .int .i64 (0 : Int)] := by
  rw [wrV, ks_1]
  show AV.tuple [.pure (.slice true (.int .u8)) (jnK [((31 : Int), [7], ()), ((34 : Int), [5], ()), ((39 : Int), [66], ())]), .int .i64 (0 : Int)] = _
  rw [ks_2]
def km0 : krK.T := ((7 : Int), [], [], (5 : UInt64), (0 : Int), (0 : Int), [], [], (66 : Int), ())
theorem ks_4 : wrV km0 = .tuple [.pure (.slice true (.int .u8)) [31, 0, 1, 7, 34, 0, 1, 5, 39, 0, 1, 66], .int .i64 (0 : Int)] := ks_3
theorem ks_5 : List.length (α := UInt8) km0.2.1 = 0 ∧ List.length (α := UInt8) km0.2.2.1 = 0 ∧ List.length (α := UInt8) km0.2.2.2.2.2.2.1 = 0 ∧ List.length (α := UInt8) km0.2.2.2.2.2.2.2.1 = 0 := ⟨rfl, rfl, rfl, rfl⟩
def cfgKG2 : Cfg2 := { ty := tyTabM, fn := fun | 32 => some kWr.sum | _ => none, G := gNone, pin := [], eq := fun _ => none }
theorem cfgKG2_ok : CfgOK Tryd.prog cfgKG2 := ⟨tyTabM_ok, (fun f s h => by
  simp only [cfgKG2] at h
  split at h
  · injection h with h; subst h; exact .inl wr_sum
  · cases h), (fun t d h => by cases h)⟩
section
attribute [local go_sem] Tryd.f30 kKs kWr cfgKG2 tyTabM tyTabK tyTab
theorem ksp_body (p : kKs.Par) (hp : ∀ q ∈ kKs.pre p, q) : BodyOK Tryd.prog cfgKG2 Tryd.f30 (Tryd.f30.body.get rfl) kKs p := by
  obtain ⟨⟩ := p
  refine ⟨?_, Nat.zero_le _, rfl, rfl⟩
  show Tri _ _ _ (Code.seq _ (Code.seq _ (Code.seq _ _))) _
  have z1 : decide ((0 : Int) = 0) = true := rfl
  have z2 : strEq [31, 0, 1, 7, 34, 0, 1, 5, 39, 0, 1, 66] [31, 0, 1, 7, 34, 0, 1, 5, 39, 0, 1, 66] = true := rfl
  obtain ⟨l1, l2, l3, l4⟩ := ks_5
  refine Tri.at (by first | (simp only [go_sem, Con.start, go_sem, Nat.reduceSub, List.reduceReplicate]; rfl) | rfl) ?_
  refine Tri.seq (Tri.regT (cfgKG2_ok.pins _) ?_)
  repeat (first | refine RunT.one (by first | exact wantedA_none rfl | (simp only [go_sem]; done) | (simp only [go_sem]; with_reducible rfl)) (by simp (maxSteps := 2000000) (disch := first | decide | omega | (simp only [List.length_append, List.length_cons, List.length_nil, List.length_take, List.length_drop]; omega)) only [go_sem, go_sem]; rfl) (by simp only [go_sem]; rfl) (by first | exact True.intro | (simp only [Obs, and_true, true_and]; omega) | (simp [Obs, AV.sizeL, AV.size, Kd.sz]; done) | (simp [Obs, AV.sizeL, AV.size, Kd.sz]; omega) | (simp only [Obs, and_true, true_and]; (repeat' apply And.intro) <;> first | omega | assumption)) ?_ | refine RunT.not (by first | (simp only [go_sem]; done) | (simp only [go_sem]; with_reducible rfl)) (by simp only [go_sem, Nat.reduceBEq, Nat.reduceEqDiff, Nat.reduceAdd, ↓reduceIte, reduceCtorEq, List.reduceReplicate, List.replicate]; rfl) ?_)
  refine RunT.nil ?_
  refine Tri.seq (Tri.regT (cfgKG2_ok.pins _) ?_)
  refine RunT.one (by exact wantedA_none rfl) (by simp (maxSteps := 2000000) (disch := first | decide | omega | (simp only [List.length_append, List.length_cons, List.length_nil, List.length_take, List.length_drop]; omega)) only [go_sem, ↓reduceIte, Nat.reduceAdd, UInt64.reduceOfNat]; rfl) (by simp only [go_sem]; rfl) (by first | exact True.intro | (simp only [Obs, and_true, true_and]; omega)) ?_
  change RunT _ _ _ ⟨[some (.bool false), none, none, none, some (.pure krK km0), none, none, none, none, none, none, none, none, none, none], []⟩ _
  repeat (first | refine RunT.one (by first | exact wantedA_none rfl | (simp only [go_sem]; done) | (simp only [go_sem]; with_reducible rfl)) (by simp (maxSteps := 2000000) (disch := first | decide | omega | (simp only [List.length_append, List.length_cons, List.length_nil, List.length_take, List.length_drop]; omega)) only [ks_4, go_sem, ↓reduceIte, Nat.reduceSub]; rfl) (by simp only [go_sem]; rfl) (by first | exact True.intro | (simp only [Obs, and_true]; omega)) ?_)
  refine RunT.nil ?_
  try simp only [InBlock, Then]
  refine Tri.at (by first | (simp only [z1, z2, Con.start, go_sem, ↓reduceIte, reduceCtorEq, Nat.reduceLT, Nat.reduceSub, Nat.reduceAdd, Nat.reduceMul, Nat.reduceEqDiff, Nat.reduceBEq, Nat.reduceBNe, Nat.reduceLeDiff, Nat.reduceDiv, Nat.reduceMod, Nat.reducePow, List.reduceReplicate, UInt8.reduceOfNat, UInt32.reduceOfNat, UInt64.reduceOfNat, Int.reduceLE, Int.reduceLT, Int.reduceNeg, Int.reduceToNat, Int.reduceAdd, Int.reduceSub, Int.reduceMul, Int.reduceEq, UInt64.reduceToNat, UInt8.reduceToNat, UInt32.reduceToNat]; rfl) | rfl) ?_
  repeat (first | ((first | refine Tri.seq (Tri.regT (cfgKG2_ok.pins _) ?_) | refine Tri.rgnT (cfgKG2_ok.pins _) ?_); (repeat (first | refine RunT.one (by first | exact wantedA_none rfl | (simp only [go_sem, Bool.true_beq]; done) | (simp only [go_sem]; with_reducible rfl)) (by simp (maxSteps := 2000000) (disch := first | decide | omega | (simp only [List.length_append, List.length_cons, List.length_nil, List.length_take, List.length_drop]; omega)) only [z2, go_sem, ↓reduceIte, Nat.reduceEqDiff]; rfl) (by simp only [go_sem]; rfl) (by first | exact True.intro | (simp only [Obs, and_true, true_and]; omega) | (simp [Obs, AV.sizeL, AV.size, Kd.sz]; done) | (simp [Obs, AV.sizeL, AV.size, Kd.sz]; omega) | (simp only [Obs, and_true, true_and]; (repeat' apply And.intro) <;> first | omega | assumption)) ?_ | refine RunT.not (by first | (simp only [go_sem]; done) | (simp only [go_sem]; with_reducible rfl)) (by simp only [go_sem, Nat.reduceBEq, Nat.reduceEqDiff, Nat.reduceAdd, ↓reduceIte, reduceCtorEq, List.reduceReplicate, List.replicate]; rfl) ?_)); refine RunT.nil ?_; try simp only [InBlock, Then]) | refine Tri.cF (by first | (simp only [AS.ev, go_sem]; done) | fail) ?_ | refine Tri.cT (by first | (simp only [AS.ev, go_sem]; done) | fail) ?_ | (refine Tri.skip ?_; try simp only [InBlock, Then]) | (refine Tri.exit ?_; simp only [Then, InBlock, if_true, if_false, ↓reduceIte, Nat.reduceEqDiff]) | refine Tri.seq (Tri.block ?_) | refine Tri.block ?_ | refine Tri.seq ?_ | (refine Tri.ret ?_; refine Con.fin (.inl rfl) (by simp only [Tryd.f30, cfgKG2, resA, resA1, go_sem]; rfl) (by simp only [Obs]) (by first | (simp only [kKs, Con.of, resV, go_sem]; done) | fail) trivial rfl rfl))
theorem ksp_sum : FSumOK Tryd.prog cfgKG2.G 30 kKs.sum := Con.sumOK cfgKG2_ok kKs Tryd.func30 rfl rfl (Con.of_inv _ _ _) ksp_body
end
def cfgKG3 : Cfg2 := { ty := tyTabM, fn := fun | 30 => some kKs.sum | _ => none, G := gNone, pin := [], eq := fun _ => none }
theorem cfgKG3_ok : CfgOK Tryd.prog cfgKG3 := ⟨tyTabM_ok, (fun f s h => by
  simp only [cfgKG3] at h
  split at h
  · injection h with h; subst h; exact .inl ksp_sum
  · cases h), (fun t d h => by cases h)⟩
section
attribute [local go_sem] Tryd.f10 kKs cfgKG3 tyTabM tyTabK tyTab
theorem kns_body (p : kKs.Par) (hp : ∀ q ∈ kKs.pre p, q) : BodyOK Tryd.prog cfgKG3 Tryd.f10 (Tryd.f10.body.get rfl) kKs p := by
  obtain ⟨⟩ := p
  refine ⟨?_, Nat.zero_le _, rfl, rfl⟩
  show Tri _ _ _ (Code.seq _ (Code.seq (Code.seq _ (Code.cond _ (Code.seq _ _) _)) (Code.seq _ (Code.seq _ (Code.seq _ _))))) _
  refine Tri.at (by first | (simp only [go_sem, Con.start, go_sem, Nat.reduceSub, List.reduceReplicate]; rfl) | rfl) ?_
  repeat (first | ((first | refine Tri.seq (Tri.regT (cfgKG3_ok.pins _) ?_) | refine Tri.rgnT (cfgKG3_ok.pins _) ?_); (repeat (first | refine RunT.one (by first | exact wantedA_none rfl | (simp only [go_sem, Bool.true_beq]; done) | (simp only [go_sem]; with_reducible rfl)) (by simp (maxSteps := 2000000) (disch := first | decide | omega | (simp only [List.length_append, List.length_cons, List.length_nil, List.length_take, List.length_drop]; omega)) only [go_sem, go_sem, ↓reduceIte, Nat.reduceSub]; rfl) (by simp only [go_sem]; rfl) (by first | exact True.intro | (simp only [Obs, and_true, true_and]; omega) | (simp [Obs, AV.sizeL, AV.size, Kd.sz]; done) | (simp [Obs, AV.sizeL, AV.size, Kd.sz]; omega) | (simp only [Obs, and_true, true_and]; (repeat' apply And.intro) <;> first | omega | assumption)) ?_ | refine RunT.not (by first | (simp only [go_sem]; done) | (simp only [go_sem]; with_reducible rfl)) (by simp only [go_sem, Nat.reduceBEq, Nat.reduceEqDiff, Nat.reduceAdd, ↓reduceIte, reduceCtorEq, List.reduceReplicate, List.replicate]; rfl) ?_)); refine RunT.nil ?_; try simp only [InBlock, Then]) | refine Tri.cF (by first | (simp only [AS.ev, go_sem, go_sem]; done) | fail) ?_ | refine Tri.cT (by first | (simp only [AS.ev, go_sem, go_sem]; done) | fail) ?_ | (refine Tri.skip ?_; try simp only [Then]) | (refine Tri.exit ?_; simp only [Then, InBlock, if_true, if_false, ↓reduceIte, Nat.reduceEqDiff]) | refine Tri.seq (Tri.block ?_) | refine Tri.block ?_ | refine Tri.seq ?_ | (refine Tri.ret ?_; refine Con.fin (.inl rfl) (by simp only [Tryd.f10, cfgKG3, resA, resA1, go_sem]; rfl) (by simp only [Obs]) (by first | (simp only [kKs, Con.of, resV, go_sem, go_sem]; done) | fail) trivial rfl rfl))
theorem kns_sum : FSumOK Tryd.prog cfgKG3.G 10 kKs.sum := Con.sumOK cfgKG3_ok kKs Tryd.func10 rfl rfl (Con.of_inv _ _ _) kns_body
end
end Go.Proofs.YtjdeaphfamenaaaDoor

namespace Go.Proofs.YtjdeaphfamenaaaDoor
open Go.Vc Go.Proofs
set_option linter.unusedSimpArgs false
set_option linter.unusedVariables false
/-! Plain laws: numbers there and back. -/
/-- A number out of bytes, the first the greatest. -/
def bvN (b : List UInt8) : Nat → Nat
  | 0 => 0
  | i + 1 => bvN b i * 256 + (b.getD i 0).toNat
theorem bvN_lt (b : List UInt8) : ∀ i, bvN b i < 256 ^ i
  | 0 => by simp [bvN]
  | i + 1 => by
    have h := bvN_lt b i
    have h2 := UInt8.toNat_lt (b.getD i 0)
    rw [bvN, Nat.pow_succ]
    omega
theorem rdI_bvN (b : List UInt8) : ∀ i, i ≤ 8 → (rdI b i).toNat = bvN b i
  | 0, _ => rfl
  | i + 1, h => by
    have ih := rdI_bvN b i (by omega)
    have hl := bvN_lt b i
    have h256 : 256 ^ i ≤ 256 ^ 7 := Nat.pow_le_pow_right (by decide) (by omega)
    have h2 := UInt8.toNat_lt (b.getD i 0)
    have h7 : 256 ^ 7 * 256 = 2 ^ 64 := by decide
    rw [rdI, bvN, UInt64.toNat_or, UInt64.toNat_shiftLeft, ih]
    have e8 : (8 : UInt64).toNat % 64 = 8 := rfl
    rw [e8, Nat.shiftLeft_eq, Nat.mod_eq_of_lt (by omega), UInt8.toNat_toUInt64]
    have h3 := Nat.two_pow_add_eq_or_of_lt (i := 8) (b := (b.getD i 0).toNat) (by omega) (bvN b i)
    rw [Nat.mul_comm (bvN b i) (2 ^ 8), ← h3]
    try omega
theorem bvN_foldl (b : List UInt8) : ∀ i, i ≤ b.length → bvN b i = (b.take i).foldl (fun a x => a * 256 + UInt8.toNat x) 0
  | 0, _ => rfl
  | i + 1, h => by
    rw [bvN, bvN_foldl b i (by omega), List.take_add_one, List.getElem?_eq_getElem (by omega), List.foldl_append, List.getD_eq_getElem?_getD, List.getElem?_eq_getElem (by omega)]
    rfl
/-- A number out of bytes, the first the least. -/
def lvN : List UInt8 → Nat
  | [] => 0
  | b :: r => lvN r * 256 + b.toNat
theorem bvN_rev (l : List UInt8) : bvN l.reverse l.length = lvN l := by
  have h := bvN_foldl l.reverse l.length (by rw [List.length_reverse]; exact Nat.le_refl _)
  rw [h, List.take_of_length_le (by rw [List.length_reverse]; exact Nat.le_refl _), List.foldl_reverse]
  induction l with
  | nil => rfl
  | cons b r ih =>
    rw [List.foldr_cons, lvN]
    have : List.foldr (fun x y => y * 256 + UInt8.toNat x) 0 r = lvN r := by
      have h2 := bvN_foldl r.reverse r.length (by rw [List.length_reverse]; exact Nat.le_refl _)
      exact ih (by rw [h2, List.take_of_length_le (by rw [List.length_reverse]; exact Nat.le_refl _), List.foldl_reverse])
    rw [this]
theorem shr8_nat (n : UInt64) : (n >>> 8).toNat = n.toNat / 256 := by
  rw [UInt64.toNat_shiftRight]; simp [Nat.shiftRight_eq_div_pow]
theorem lvN_leN : ∀ (k : Nat) (n : UInt64), n.toNat < 256 ^ k → lvN (leN k n) = n.toNat
  | 0, n, h => by
    have : n.toNat = 0 := by simpa using h
    rw [leN, this]; rfl
  | k + 1, n, h => by
    unfold leN
    split
    · rename_i e; rw [e]; rfl
    · have h1 := shr8_nat n
      have ih := lvN_leN k (n >>> 8) (shr8_lt h)
      rw [lvN, ih, h1, UInt64.toNat_toUInt8]
      have := Nat.div_add_mod n.toNat 256
      have e : (2 : Nat) ^ 8 = 256 := rfl
      rw [e]
      omega
theorem leN_last : ∀ (k : Nat) (n : UInt64), n.toNat < 256 ^ k → ∀ h : leN k n ≠ [], (leN k n).getLast h ≠ 0
  | 0, n, _, h => absurd rfl h
  | k + 1, n, hn, h => by
    have hz : n ≠ 0 := fun e => h (by unfold leN; rw [if_pos e])
    have e : leN (k + 1) n = n.toUInt8 :: leN k (n >>> 8) := by
      conv => lhs; unfold leN
      rw [if_neg hz]
    simp only [e]
    by_cases h0 : leN k (n >>> 8) = []
    · have h1 := lvN_leN k (n >>> 8) (shr8_lt hn)
      rw [h0, shr8_nat] at h1
      have h2 : n.toNat / 256 = 0 := h1.symm
      have h3 : n.toNat < 256 := by omega
      simp only [h0, List.getLast_singleton]
      intro hb
      have h4 : n.toUInt8.toNat = 0 := by rw [hb]; rfl
      rw [UInt64.toNat_toUInt8] at h4
      have h5 : n.toNat = 0 := by
        have e8 : (2 : Nat) ^ 8 = 256 := rfl
        rw [e8] at h4
        omega
      exact hz (UInt64.toNat_inj.1 h5)
    · rw [List.getLast_cons h0]
      exact leN_last k (n >>> 8) (shr8_lt hn) h0
theorem rd_num (n : UInt64) : rdB (numS n) = true ∧ rdU (numS n) = n := by
  have hn : n.toNat < 256 ^ 8 := UInt64.toNat_lt n
  have hl := numS_len n
  have hb : rdB (numS n) = true := by
    rw [rdB, decide_eq_false (by omega : ¬ (8 : Int) < ((numS n).length : Int)), Bool.false_or]
    cases hd : decide ((0 : Int) < ((numS n).length : Int)) with
    | false => rfl
    | true =>
      have hp : 0 < (numS n).length := by have := of_decide_eq_true hd; omega
      have hne : leN 8 n ≠ [] := fun e => by rw [numS, e] at hp; simp at hp
      have hla := leN_last 8 n hn hne
      have hg : (numS n).getD 0 0 = (leN 8 n).getLast hne := by
        rw [numS, List.getD_eq_getElem?_getD, ← List.head?_eq_getElem?, List.head?_reverse, List.getLast?_eq_some_getLast hne]
        rfl
      rw [hg, decide_eq_false hla]; rfl
  refine ⟨hb, ?_⟩
  rw [rdU, if_pos hb]
  refine UInt64.toNat_inj.1 ?_
  rw [rdI_bvN _ _ hl]
  have h1 := bvN_rev (leN 8 n)
  have h2 : (numS n).length = (leN 8 n).length := by rw [numS, List.length_reverse]
  rw [h2]
  show bvN (leN 8 n).reverse (leN 8 n).length = _
  rw [h1, lvN_leN 8 n hn]
theorem sm_num (x : Int) (h0 : 0 ≤ x) (h1 : x ≤ 1099511627776) : smN (rdU (numS (UInt64.ofInt x))) = x := by
  rw [(rd_num _).2, smN]
  have hx : (UInt64.ofInt x).toNat = x.toNat := by
    rw [UInt64.ofInt, UInt64.toNat_ofNat']
    omega
  have hd : decide ((1099511627777 : UInt64) < UInt64.ofInt x) = false := decide_eq_false fun h => by
    rw [UInt64.lt_iff_toNat_lt, hx] at h
    have : (1099511627777 : UInt64).toNat = 1099511627777 := rfl
    omega
  rw [hd, cond_false]
  show IntKind.i64.wrap (((UInt64.ofInt x).toNat : Nat) : Int) = x
  rw [hx, wrap_i64_id _ (by omega) (by omega)]
  omega
end Go.Proofs.YtjdeaphfamenaaaDoor

namespace Go.Proofs.YtjdeaphfamenaaaDoor
open Go.Vc Go.Proofs
set_option linter.unusedSimpArgs false
set_option linter.unusedVariables false
set_option maxRecDepth 10000
set_option maxHeartbeats 1000000
/-! Plain laws: which messages are right. -/
theorem fdS_eq (m : krK.T) : ∀ (tags : List Int) (bare : krK.T) (fs : List flK.T), fdS m bare fs tags = if tags.all (vaO m) = true then some (fs ++ tags.map (fun t => ((t, vaB m t, ()) : flK.T)), tags.foldl (fun b t => stM b t (vaB m t)) bare) else none
  | [], bare, fs => by simp [fdS]
  | t :: r, bare, fs => by
    rw [fdS]
    cases h : vaO m t with
    | false => simp [h]
    | true =>
      rw [if_pos rfl, fdS_eq m r, List.all_cons, h, Bool.true_and]
      simp [List.append_assoc]
theorem fdR_isSome (m : krK.T) : (fdR m).isSome = ((hasK m.1).all (vaO m) && (decide ((0 : Int) < (((hasK m.1).length : Nat) : Int)) && smM ((hasK m.1).foldl (fun b t => stM b t (vaB m t)) (fd0 m.1)) m)) := by
  unfold fdR
  rw [fdS_eq]
  cases h : (hasK m.1).all (vaO m) with
  | false => rfl
  | true =>
    rw [if_pos rfl, Bool.true_and]
    show (if (decide ((0 : Int) < (((hasK m.1).length : Nat) : Int)) && smM ((hasK m.1).foldl (fun b t => stM b t (vaB m t)) (fd0 m.1)) m) = true then some _ else none : Option (List flK.T)).isSome = _
    split
    · rename_i e; rw [e]; rfl
    · rename_i e; rw [Bool.not_eq_true] at e; rw [e]; rfl
theorem str_self (l : List UInt8) : strEq l l = true := decide_eq_true rfl
theorem sm_b (x : Int) (h : (!decide (x < 0) && !decide ((1099511627776 : Int) < x)) = true) : decide (smN (UInt64.ofInt x) = x) = true := by
  rw [Bool.and_eq_true, Bool.not_eq_true', Bool.not_eq_true', decide_eq_false_iff_not, decide_eq_false_iff_not] at h
  have e := sm_num x (by omega) (by omega)
  rw [(rd_num _).2] at e
  exact decide_eq_true e
theorem sm_f (x : Int) (h : (!decide (x < 0) && !decide ((3 : Int) < x)) = true) : decide (smN (UInt64.ofInt x) = x) = true := by
  rw [Bool.and_eq_true, Bool.not_eq_true', Bool.not_eq_true', decide_eq_false_iff_not, decide_eq_false_iff_not] at h
  have e := sm_num x (by omega) (by omega)
  rw [(rd_num _).2] at e
  exact decide_eq_true e
theorem sm_c (x : Int) (h : (!decide (x < 1) && !decide ((999 : Int) < x)) = true) : decide (smN (UInt64.ofInt x) = x) = true := by
  rw [Bool.and_eq_true, Bool.not_eq_true', Bool.not_eq_true', decide_eq_false_iff_not, decide_eq_false_iff_not] at h
  have e := sm_num x (by omega) (by omega)
  rw [(rd_num _).2] at e
  exact decide_eq_true e
variable (cl sv : List UInt8) (no : UInt64) (en fl : Int) (ti se : List UInt8) (co : Int)
theorem fd_1 : (fdR ((1 : Int), cl, sv, no, en, fl, ti, se, co, ())).isSome = (rgS (pwS cl) && (rgS (pwS sv) && ((!decide (en < 0) && !decide ((1099511627776 : Int) < en)) && ((!decide (fl < 0) && !decide ((3 : Int) < fl)) && (strEq [] ti && (strEq [] se && (decide ((0 : Int) = co)))))))) := by
  rw [fdR_isSome]
  show (([(32 : Int), (33 : Int), (34 : Int), (35 : Int), (36 : Int)].all (vaO ((1 : Int), cl, sv, no, en, fl, ti, se, co, ()))) && (true && smM ((1 : Int), cl, sv, rdU (numS no), smN (rdU (numS (UInt64.ofInt en))), smN (rdU (numS (UInt64.ofInt fl))), [], [], 0, ()) ((1 : Int), cl, sv, no, en, fl, ti, se, co, ()))) = _
  rw [show smM ((1 : Int), cl, sv, rdU (numS no), smN (rdU (numS (UInt64.ofInt en))), smN (rdU (numS (UInt64.ofInt fl))), [], [], 0, ()) ((1 : Int), cl, sv, no, en, fl, ti, se, co, ()) = (decide ((1 : Int) = 1) && (strEq cl cl && (strEq sv sv && (decide ((rdU (numS no) : UInt64) = no) && (decide ((smN (rdU (numS (UInt64.ofInt en))) : Int) = en) && (decide ((smN (rdU (numS (UInt64.ofInt fl))) : Int) = fl) && (decide ((0 : Int) = co) && (strEq [] ti && (strEq [] se))))))))) from rfl]
  have v32 : vaO ((1 : Int), cl, sv, no, en, fl, ti, se, co, ()) 32 = rgS (pwS cl) := rfl
  have v33 : vaO ((1 : Int), cl, sv, no, en, fl, ti, se, co, ()) 33 = rgS (pwS sv) := rfl
  have v34 : vaO ((1 : Int), cl, sv, no, en, fl, ti, se, co, ()) 34 = true := rfl
  have v35 : vaO ((1 : Int), cl, sv, no, en, fl, ti, se, co, ()) 35 = (!decide (en < 0) && !decide ((1099511627776 : Int) < en)) := rfl
  have v36 : vaO ((1 : Int), cl, sv, no, en, fl, ti, se, co, ()) 36 = (!decide (fl < 0) && !decide ((3 : Int) < fl)) := rfl
  simp only [List.all_cons, List.all_nil, v32, v33, v34, v35, v36, str_self, (rd_num _).2, decide_true, Bool.true_and, Bool.and_true]
  cases b35 : (!decide (en < 0) && !decide ((1099511627776 : Int) < en))
  all_goals cases b36 : (!decide (fl < 0) && !decide ((3 : Int) < fl))
  all_goals first
    | (simp; done)
    | (have s35 := sm_b en b35; rw [s35]; have s36 := sm_f fl b36; rw [s36]; simp [Bool.and_comm, Bool.and_assoc, Bool.and_left_comm])
    | (simp [Bool.and_comm, Bool.and_assoc, Bool.and_left_comm])
theorem fd_2 : (fdR ((2 : Int), cl, sv, no, en, fl, ti, se, co, ())).isSome = (strEq [] cl && (rgS (pwS sv) && ((!decide (en < 0) && !decide ((1099511627776 : Int) < en)) && ((!decide (fl < 0) && !decide ((3 : Int) < fl)) && (!decide ((3000 : Int) < ((ti.length : Nat) : Int)) && (!decide ((3000 : Int) < ((se.length : Nat) : Int)) && (decide ((0 : Int) = co)))))))) := by
  rw [fdR_isSome]
  show (([(33 : Int), (34 : Int), (35 : Int), (36 : Int), (37 : Int), (38 : Int)].all (vaO ((2 : Int), cl, sv, no, en, fl, ti, se, co, ()))) && (true && smM ((2 : Int), [], sv, rdU (numS no), smN (rdU (numS (UInt64.ofInt en))), smN (rdU (numS (UInt64.ofInt fl))), ti, se, 0, ()) ((2 : Int), cl, sv, no, en, fl, ti, se, co, ()))) = _
  rw [show smM ((2 : Int), [], sv, rdU (numS no), smN (rdU (numS (UInt64.ofInt en))), smN (rdU (numS (UInt64.ofInt fl))), ti, se, 0, ()) ((2 : Int), cl, sv, no, en, fl, ti, se, co, ()) = (decide ((2 : Int) = 2) && (strEq [] cl && (strEq sv sv && (decide ((rdU (numS no) : UInt64) = no) && (decide ((smN (rdU (numS (UInt64.ofInt en))) : Int) = en) && (decide ((smN (rdU (numS (UInt64.ofInt fl))) : Int) = fl) && (decide ((0 : Int) = co) && (strEq ti ti && (strEq se se))))))))) from rfl]
  have v33 : vaO ((2 : Int), cl, sv, no, en, fl, ti, se, co, ()) 33 = rgS (pwS sv) := rfl
  have v34 : vaO ((2 : Int), cl, sv, no, en, fl, ti, se, co, ()) 34 = true := rfl
  have v35 : vaO ((2 : Int), cl, sv, no, en, fl, ti, se, co, ()) 35 = (!decide (en < 0) && !decide ((1099511627776 : Int) < en)) := rfl
  have v36 : vaO ((2 : Int), cl, sv, no, en, fl, ti, se, co, ()) 36 = (!decide (fl < 0) && !decide ((3 : Int) < fl)) := rfl
  have v37 : vaO ((2 : Int), cl, sv, no, en, fl, ti, se, co, ()) 37 = !decide ((3000 : Int) < ((ti.length : Nat) : Int)) := rfl
  have v38 : vaO ((2 : Int), cl, sv, no, en, fl, ti, se, co, ()) 38 = !decide ((3000 : Int) < ((se.length : Nat) : Int)) := rfl
  simp only [List.all_cons, List.all_nil, v33, v34, v35, v36, v37, v38, str_self, (rd_num _).2, decide_true, Bool.true_and, Bool.and_true]
  cases b35 : (!decide (en < 0) && !decide ((1099511627776 : Int) < en))
  all_goals cases b36 : (!decide (fl < 0) && !decide ((3 : Int) < fl))
  all_goals first
    | (simp; done)
    | (have s35 := sm_b en b35; rw [s35]; have s36 := sm_f fl b36; rw [s36]; simp [Bool.and_comm, Bool.and_assoc, Bool.and_left_comm])
    | (simp [Bool.and_comm, Bool.and_assoc, Bool.and_left_comm])
theorem fd_3 : (fdR ((3 : Int), cl, sv, no, en, fl, ti, se, co, ())).isSome = (strEq [] cl && (strEq [] sv && (decide ((0 : Int) = en) && (decide ((0 : Int) = fl) && (!decide ((3000 : Int) < ((ti.length : Nat) : Int)) && (!decide ((3000 : Int) < ((se.length : Nat) : Int)) && (decide ((0 : Int) = co)))))))) := by
  rw [fdR_isSome]
  show (([(34 : Int), (37 : Int), (38 : Int)].all (vaO ((3 : Int), cl, sv, no, en, fl, ti, se, co, ()))) && (true && smM ((3 : Int), [], [], rdU (numS no), 0, 0, ti, se, 0, ()) ((3 : Int), cl, sv, no, en, fl, ti, se, co, ()))) = _
  rw [show smM ((3 : Int), [], [], rdU (numS no), 0, 0, ti, se, 0, ()) ((3 : Int), cl, sv, no, en, fl, ti, se, co, ()) = (decide ((3 : Int) = 3) && (strEq [] cl && (strEq [] sv && (decide ((rdU (numS no) : UInt64) = no) && (decide ((0 : Int) = en) && (decide ((0 : Int) = fl) && (decide ((0 : Int) = co) && (strEq ti ti && (strEq se se))))))))) from rfl]
  have v34 : vaO ((3 : Int), cl, sv, no, en, fl, ti, se, co, ()) 34 = true := rfl
  have v37 : vaO ((3 : Int), cl, sv, no, en, fl, ti, se, co, ()) 37 = !decide ((3000 : Int) < ((ti.length : Nat) : Int)) := rfl
  have v38 : vaO ((3 : Int), cl, sv, no, en, fl, ti, se, co, ()) 38 = !decide ((3000 : Int) < ((se.length : Nat) : Int)) := rfl
  simp only [List.all_cons, List.all_nil, v34, v37, v38, str_self, (rd_num _).2, decide_true, Bool.true_and, Bool.and_true]
  simp [Bool.and_comm, Bool.and_assoc, Bool.and_left_comm]
theorem fd_4 : (fdR ((4 : Int), cl, sv, no, en, fl, ti, se, co, ())).isSome = (strEq [] cl && (strEq [] sv && (decide ((0 : Int) = en) && (decide ((0 : Int) = fl) && (!decide ((3000 : Int) < ((ti.length : Nat) : Int)) && (!decide ((3000 : Int) < ((se.length : Nat) : Int)) && (decide ((0 : Int) = co)))))))) := by
  rw [fdR_isSome]
  show (([(34 : Int), (37 : Int), (38 : Int)].all (vaO ((4 : Int), cl, sv, no, en, fl, ti, se, co, ()))) && (true && smM ((4 : Int), [], [], rdU (numS no), 0, 0, ti, se, 0, ()) ((4 : Int), cl, sv, no, en, fl, ti, se, co, ()))) = _
  rw [show smM ((4 : Int), [], [], rdU (numS no), 0, 0, ti, se, 0, ()) ((4 : Int), cl, sv, no, en, fl, ti, se, co, ()) = (decide ((4 : Int) = 4) && (strEq [] cl && (strEq [] sv && (decide ((rdU (numS no) : UInt64) = no) && (decide ((0 : Int) = en) && (decide ((0 : Int) = fl) && (decide ((0 : Int) = co) && (strEq ti ti && (strEq se se))))))))) from rfl]
  have v34 : vaO ((4 : Int), cl, sv, no, en, fl, ti, se, co, ()) 34 = true := rfl
  have v37 : vaO ((4 : Int), cl, sv, no, en, fl, ti, se, co, ()) 37 = !decide ((3000 : Int) < ((ti.length : Nat) : Int)) := rfl
  have v38 : vaO ((4 : Int), cl, sv, no, en, fl, ti, se, co, ()) 38 = !decide ((3000 : Int) < ((se.length : Nat) : Int)) := rfl
  simp only [List.all_cons, List.all_nil, v34, v37, v38, str_self, (rd_num _).2, decide_true, Bool.true_and, Bool.and_true]
  simp [Bool.and_comm, Bool.and_assoc, Bool.and_left_comm]
theorem fd_5 : (fdR ((5 : Int), cl, sv, no, en, fl, ti, se, co, ())).isSome = (strEq [] cl && (strEq [] sv && (decide ((0 : Int) = en) && (decide ((0 : Int) = fl) && (strEq [] ti && (!decide ((3000 : Int) < ((se.length : Nat) : Int)) && (decide ((0 : Int) = co)))))))) := by
  rw [fdR_isSome]
  show (([(34 : Int), (38 : Int)].all (vaO ((5 : Int), cl, sv, no, en, fl, ti, se, co, ()))) && (true && smM ((5 : Int), [], [], rdU (numS no), 0, 0, [], se, 0, ()) ((5 : Int), cl, sv, no, en, fl, ti, se, co, ()))) = _
  rw [show smM ((5 : Int), [], [], rdU (numS no), 0, 0, [], se, 0, ()) ((5 : Int), cl, sv, no, en, fl, ti, se, co, ()) = (decide ((5 : Int) = 5) && (strEq [] cl && (strEq [] sv && (decide ((rdU (numS no) : UInt64) = no) && (decide ((0 : Int) = en) && (decide ((0 : Int) = fl) && (decide ((0 : Int) = co) && (strEq [] ti && (strEq se se))))))))) from rfl]
  have v34 : vaO ((5 : Int), cl, sv, no, en, fl, ti, se, co, ()) 34 = true := rfl
  have v38 : vaO ((5 : Int), cl, sv, no, en, fl, ti, se, co, ()) 38 = !decide ((3000 : Int) < ((se.length : Nat) : Int)) := rfl
  simp only [List.all_cons, List.all_nil, v34, v38, str_self, (rd_num _).2, decide_true, Bool.true_and, Bool.and_true]
  simp [Bool.and_comm, Bool.and_assoc, Bool.and_left_comm]
theorem fd_6 : (fdR ((6 : Int), cl, sv, no, en, fl, ti, se, co, ())).isSome = (strEq [] cl && (strEq [] sv && (decide ((0 : Int) = en) && (decide ((0 : Int) = fl) && (strEq [] ti && (!decide ((3000 : Int) < ((se.length : Nat) : Int)) && (decide ((0 : Int) = co)))))))) := by
  rw [fdR_isSome]
  show (([(34 : Int), (38 : Int)].all (vaO ((6 : Int), cl, sv, no, en, fl, ti, se, co, ()))) && (true && smM ((6 : Int), [], [], rdU (numS no), 0, 0, [], se, 0, ()) ((6 : Int), cl, sv, no, en, fl, ti, se, co, ()))) = _
  rw [show smM ((6 : Int), [], [], rdU (numS no), 0, 0, [], se, 0, ()) ((6 : Int), cl, sv, no, en, fl, ti, se, co, ()) = (decide ((6 : Int) = 6) && (strEq [] cl && (strEq [] sv && (decide ((rdU (numS no) : UInt64) = no) && (decide ((0 : Int) = en) && (decide ((0 : Int) = fl) && (decide ((0 : Int) = co) && (strEq [] ti && (strEq se se))))))))) from rfl]
  have v34 : vaO ((6 : Int), cl, sv, no, en, fl, ti, se, co, ()) 34 = true := rfl
  have v38 : vaO ((6 : Int), cl, sv, no, en, fl, ti, se, co, ()) 38 = !decide ((3000 : Int) < ((se.length : Nat) : Int)) := rfl
  simp only [List.all_cons, List.all_nil, v34, v38, str_self, (rd_num _).2, decide_true, Bool.true_and, Bool.and_true]
  simp [Bool.and_comm, Bool.and_assoc, Bool.and_left_comm]
theorem fd_7 : (fdR ((7 : Int), cl, sv, no, en, fl, ti, se, co, ())).isSome = (strEq [] cl && (strEq [] sv && (decide ((0 : Int) = en) && (decide ((0 : Int) = fl) && (strEq [] ti && (strEq [] se && ((!decide (co < 1) && !decide ((999 : Int) < co))))))))) := by
  rw [fdR_isSome]
  show (([(34 : Int), (39 : Int)].all (vaO ((7 : Int), cl, sv, no, en, fl, ti, se, co, ()))) && (true && smM ((7 : Int), [], [], rdU (numS no), 0, 0, [], [], smN (rdU (numS (UInt64.ofInt co))), ()) ((7 : Int), cl, sv, no, en, fl, ti, se, co, ()))) = _
  rw [show smM ((7 : Int), [], [], rdU (numS no), 0, 0, [], [], smN (rdU (numS (UInt64.ofInt co))), ()) ((7 : Int), cl, sv, no, en, fl, ti, se, co, ()) = (decide ((7 : Int) = 7) && (strEq [] cl && (strEq [] sv && (decide ((rdU (numS no) : UInt64) = no) && (decide ((0 : Int) = en) && (decide ((0 : Int) = fl) && (decide ((smN (rdU (numS (UInt64.ofInt co))) : Int) = co) && (strEq [] ti && (strEq [] se))))))))) from rfl]
  have v34 : vaO ((7 : Int), cl, sv, no, en, fl, ti, se, co, ()) 34 = true := rfl
  have v39 : vaO ((7 : Int), cl, sv, no, en, fl, ti, se, co, ()) 39 = (!decide (co < 1) && !decide ((999 : Int) < co)) := rfl
  simp only [List.all_cons, List.all_nil, v34, v39, str_self, (rd_num _).2, decide_true, Bool.true_and, Bool.and_true]
  cases b39 : (!decide (co < 1) && !decide ((999 : Int) < co))
  all_goals first
    | (simp; done)
    | (have s39 := sm_c co b39; rw [s39]; simp [Bool.and_comm, Bool.and_assoc, Bool.and_left_comm])
    | (simp [Bool.and_comm, Bool.and_assoc, Bool.and_left_comm])
end Go.Proofs.YtjdeaphfamenaaaDoor

namespace Go.Proofs.YtjdeaphfamenaaaDoor
open Go.Vc Go.Proofs
set_option linter.unusedSimpArgs false
set_option linter.unusedVariables false
set_option maxRecDepth 10000
set_option maxHeartbeats 4000000
-- SEM VcZn
-- LITE
-- ASM
/-! The document's messages: great ones; which fields a kind has. -/
def grM (m : krK.T) : Bool := decide ((300 : Int) < ((List.length (α := UInt8) m.2.1 : Nat) : Int)) || (decide ((300 : Int) < ((List.length (α := UInt8) m.2.2.1 : Nat) : Int)) || (decide ((4000 : Int) < ((List.length (α := UInt8) m.2.2.2.2.2.2.1 : Nat) : Int)) || decide ((4000 : Int) < ((List.length (α := UInt8) m.2.2.2.2.2.2.2.1 : Nat) : Int))))
def kGrM : Con := Con.of [.v krK] (fun _ => []) (fun x => ⟨.bool (grM x.1), []⟩)
def cfgKJ1 : Cfg2 := { ty := tyTabM, fn := fun  | _ => none, G := gNone, pin := [], eq := fun _ => none }
theorem cfgKJ1_ok : CfgOK Tryd.prog cfgKJ1 := ⟨tyTabM_ok, (fun f s h => by cases h), (fun t d h => by cases h)⟩
section
attribute [local go_sem] Tryd.f31 kGrM cfgKJ1 tyTabM tyTabK tyTab
theorem grm_body (p : kGrM.Par) (hp : ∀ q ∈ kGrM.pre p, q) : BodyOK Tryd.prog cfgKJ1 Tryd.f31 (Tryd.f31.body.get rfl) kGrM p := by
  obtain ⟨⟨(kd : Int), (cl : List UInt8), (sv : List UInt8), (no : UInt64), (en : Int), (fl : Int), (ti : List UInt8), (se : List UInt8), (co : Int), u1⟩, u⟩ := p
  refine ⟨?_, Nat.zero_le _, rfl, rfl⟩
  show Tri _ _ _ (Code.seq _ (Code.seq _ _)) _
  have e : grM (kd, cl, sv, no, en, fl, ti, se, co, u1) = (decide ((300 : Int) < ((cl.length : Nat) : Int)) || (decide ((300 : Int) < ((sv.length : Nat) : Int)) || (decide ((4000 : Int) < ((ti.length : Nat) : Int)) || decide ((4000 : Int) < ((se.length : Nat) : Int))))) := rfl
  cases b1 : decide ((300 : Int) < ((cl.length : Nat) : Int))
  all_goals cases b2 : decide ((300 : Int) < ((sv.length : Nat) : Int))
  all_goals cases b3 : decide ((4000 : Int) < ((ti.length : Nat) : Int))
  all_goals
    rw [b1, b2, b3] at e
    simp only [Bool.true_or, Bool.false_or] at e
    refine Tri.at (by first | (simp only [b1, b2, b3, e, Con.start, go_sem, ↓reduceIte, reduceCtorEq, Nat.reduceLT, Nat.reduceSub, Nat.reduceAdd, Nat.reduceMul, Nat.reduceEqDiff, Nat.reduceBEq, Nat.reduceBNe, Nat.reduceLeDiff, Nat.reduceDiv, Nat.reduceMod, Nat.reducePow, List.reduceReplicate, UInt8.reduceOfNat, UInt32.reduceOfNat, UInt64.reduceOfNat, Int.reduceLE, Int.reduceLT, Int.reduceNeg, Int.reduceToNat, Int.reduceAdd, Int.reduceSub, Int.reduceMul, Int.reduceEq, UInt64.reduceToNat, UInt8.reduceToNat, UInt32.reduceToNat]; rfl) | rfl) ?_
    repeat (first | ((first | refine Tri.seq (Tri.regT (cfgKJ1_ok.pins _) ?_) | refine Tri.rgnT (cfgKJ1_ok.pins _) ?_); (repeat (first | refine RunT.one (by first | exact wantedA_none rfl | (simp only [go_sem, Bool.true_beq, Bool.false_beq]; done) | (simp only [go_sem, Bool.true_beq, Bool.false_beq]; with_reducible rfl)) (by simp (maxSteps := 2000000) (disch := first | decide | omega | (simp only [List.length_append, List.length_cons, List.length_nil, List.length_take, List.length_drop]; omega)) only [b1, b2, b3, e, go_sem, ↓reduceIte, reduceCtorEq, Nat.reduceLT, Nat.reduceSub, Nat.reduceAdd, Nat.reduceMul, Nat.reduceEqDiff, Nat.reduceBEq, Nat.reduceBNe, Nat.reduceLeDiff, Nat.reduceDiv, Nat.reduceMod, Nat.reducePow, List.reduceReplicate, UInt8.reduceOfNat, UInt32.reduceOfNat, UInt64.reduceOfNat, Int.reduceLE, Int.reduceLT, Int.reduceNeg, Int.reduceToNat, Int.reduceAdd, Int.reduceSub, Int.reduceMul, Int.reduceEq, UInt64.reduceToNat, UInt8.reduceToNat, UInt32.reduceToNat]; rfl) (by simp only [go_sem, Nat.reduceBEq, Nat.reduceEqDiff, Nat.reduceAdd, ↓reduceIte, reduceCtorEq, List.reduceReplicate, List.replicate]; rfl) (by first | exact True.intro | (simp only [Obs, and_true, true_and]; omega) | (simp [Obs, AV.sizeL, AV.size, Kd.sz]; done) | (simp [Obs, AV.sizeL, AV.size, Kd.sz]; omega) | (simp only [Obs, and_true, true_and]; (repeat' apply And.intro) <;> first | omega | assumption)) ?_ | refine RunT.not (by first | (simp only [go_sem, Bool.true_beq, Bool.false_beq]; done) | (simp only [go_sem, Bool.true_beq, Bool.false_beq]; with_reducible rfl)) (by simp only [go_sem, Nat.reduceBEq, Nat.reduceEqDiff, Nat.reduceAdd, ↓reduceIte, reduceCtorEq, List.reduceReplicate, List.replicate]; rfl) ?_)); refine RunT.nil ?_; try simp only [InBlock, Then]) | refine Tri.cF (by first | (simp only [AS.ev, b1, b2, b3, e, go_sem, ↓reduceIte, reduceCtorEq, Nat.reduceLT, Nat.reduceSub, Nat.reduceAdd, Nat.reduceMul, Nat.reduceEqDiff, Nat.reduceBEq, Nat.reduceBNe, Nat.reduceLeDiff, Nat.reduceDiv, Nat.reduceMod, Nat.reducePow, List.reduceReplicate, UInt8.reduceOfNat, UInt32.reduceOfNat, UInt64.reduceOfNat, Int.reduceLE, Int.reduceLT, Int.reduceNeg, Int.reduceToNat, Int.reduceAdd, Int.reduceSub, Int.reduceMul, Int.reduceEq, UInt64.reduceToNat, UInt8.reduceToNat, UInt32.reduceToNat]; done) | fail) ?_ | refine Tri.cT (by first | (simp only [AS.ev, b1, b2, b3, e, go_sem, ↓reduceIte, reduceCtorEq, Nat.reduceLT, Nat.reduceSub, Nat.reduceAdd, Nat.reduceMul, Nat.reduceEqDiff, Nat.reduceBEq, Nat.reduceBNe, Nat.reduceLeDiff, Nat.reduceDiv, Nat.reduceMod, Nat.reducePow, List.reduceReplicate, UInt8.reduceOfNat, UInt32.reduceOfNat, UInt64.reduceOfNat, Int.reduceLE, Int.reduceLT, Int.reduceNeg, Int.reduceToNat, Int.reduceAdd, Int.reduceSub, Int.reduceMul, Int.reduceEq, UInt64.reduceToNat, UInt8.reduceToNat, UInt32.reduceToNat]; done) | fail) ?_ | (refine Tri.skip ?_; try simp only [InBlock, Then]) | (refine Tri.exit ?_; simp only [Then, InBlock, if_true, if_false, ↓reduceIte, Nat.reduceEqDiff]) | refine Tri.seq (Tri.block ?_) | refine Tri.block ?_ | refine Tri.seq ?_ | (refine Tri.ret ?_; refine Con.fin (.inl rfl) (by simp only [Tryd.f31, cfgKJ1, resA, resA1, go_sem, ↓reduceIte, reduceCtorEq, Nat.reduceLT, Nat.reduceSub, Nat.reduceAdd, Nat.reduceMul, Nat.reduceEqDiff, Nat.reduceBEq, Nat.reduceBNe, Nat.reduceLeDiff, Nat.reduceDiv, Nat.reduceMod, Nat.reducePow, List.reduceReplicate, UInt8.reduceOfNat, UInt32.reduceOfNat, UInt64.reduceOfNat, Int.reduceLE, Int.reduceLT, Int.reduceNeg, Int.reduceToNat, Int.reduceAdd, Int.reduceSub, Int.reduceMul, Int.reduceEq, UInt64.reduceToNat, UInt8.reduceToNat, UInt32.reduceToNat]; rfl) (by simp only [Obs, and_true, true_and]) (by first | (simp only [kGrM, Con.of, Con.ofO, resV, b1, b2, b3, e, go_sem, ↓reduceIte, reduceCtorEq, Nat.reduceLT, Nat.reduceSub, Nat.reduceAdd, Nat.reduceMul, Nat.reduceEqDiff, Nat.reduceBEq, Nat.reduceBNe, Nat.reduceLeDiff, Nat.reduceDiv, Nat.reduceMod, Nat.reducePow, List.reduceReplicate, UInt8.reduceOfNat, UInt32.reduceOfNat, UInt64.reduceOfNat, Int.reduceLE, Int.reduceLT, Int.reduceNeg, Int.reduceToNat, Int.reduceAdd, Int.reduceSub, Int.reduceMul, Int.reduceEq, UInt64.reduceToNat, UInt8.reduceToNat, UInt32.reduceToNat]; done) | fail) trivial rfl rfl))
theorem grm_sum : FSumOK Tryd.prog cfgKJ1.G 31 kGrM.sum := Con.sumOK cfgKJ1_ok kGrM Tryd.func31 rfl rfl (Con.of_inv _ _ _) grm_body
end
def tyTabH : TypeId → Option TyI := fun t => if t = 86 then some (.kd1 (.arr 9 3) (.arr 9 (.int .i64)) 72) else if t = 87 then some (.kd1 (.arr 8 86) (.arr 8 (.arr 9 (.int .i64))) 576) else tyTab t
theorem tyTabH_ok : TysOK Tryd.prog tyTabH := by
  intro t i h
  unfold tyTabH at h
  split at h
  · rename_i e
    injection h with h
    subst h e
    exact TyOK.kd1 (td := .arr 9 3) Tryd.underlying86 (by kernel_rfl)
  · split at h
    · rename_i e
      injection h with h
      subst h e
      exact TyOK.kd1 (td := .arr 8 86) Tryd.underlying87 (by kernel_rfl)
    · exact tysOK t i h
def hsT : List (List Int) := [[0, 0, 0, 0, 0, 0, 0, 0, 0], [1, 1, 1, 1, 1, 1, 0, 0, 0], [1, 0, 1, 1, 1, 1, 1, 1, 0], [1, 0, 0, 1, 0, 0, 1, 1, 0], [1, 0, 0, 1, 0, 0, 1, 1, 0], [1, 0, 0, 1, 0, 0, 0, 1, 0], [1, 0, 0, 1, 0, 0, 0, 1, 0], [1, 0, 0, 1, 0, 0, 0, 0, 1]]
def hsM (k t : Int) : Bool := !decide (k < 1) && (!decide ((7 : Int) < k) && (!decide (t < 31) && (!decide ((39 : Int) < t) && decide (List.getD (List.getD hsT k.toNat (List.replicate 9 0)) (t - 31).toNat 0 = 1))))
def kHs : Con := Con.of [.v (.int .i64), .v (.int .i64)] (fun _ => []) (fun x => ⟨.bool (hsM (toI .i64 x.1) (toI .i64 x.2.1)), []⟩)
def cfgKJ2 : Cfg2 := { ty := tyTabH, fn := fun  | _ => none, G := gNone, pin := [], eq := fun _ => none }
theorem cfgKJ2_ok : CfgOK Tryd.prog cfgKJ2 := ⟨tyTabH_ok, (fun f s h => by cases h), (fun t d h => by cases h)⟩
section
attribute [local go_sem] Tryd.f35 kHs cfgKJ2 tyTabH tyTab
theorem hs_body (p : kHs.Par) (hp : ∀ q ∈ kHs.pre p, q) : BodyOK Tryd.prog cfgKJ2 Tryd.f35 (Tryd.f35.body.get rfl) kHs p := by
  obtain ⟨(k : Int), (t : Int), u⟩ := p
  refine ⟨?_, Nat.zero_le _, rfl, rfl⟩
  show Tri _ _ _ (Code.seq _ (Code.seq _ (Code.seq _ _))) _
  have e : hsM k t = (!decide (k < 1) && (!decide ((7 : Int) < k) && (!decide (t < 31) && (!decide ((39 : Int) < t) && decide (List.getD (List.getD hsT k.toNat (List.replicate 9 0)) (t - 31).toNat 0 = 1))))) := rfl
  cases b1 : decide (k < 1) with
  | true =>
    rw [b1] at e
    simp only [Bool.not_true, Bool.false_and] at e
    refine Tri.at (by first | (simp only [b1, e, Con.start, go_sem, ↓reduceIte, reduceCtorEq, Nat.reduceLT, Nat.reduceSub, Nat.reduceAdd, Nat.reduceMul, Nat.reduceEqDiff, Nat.reduceBEq, Nat.reduceBNe, Nat.reduceLeDiff, Nat.reduceDiv, Nat.reduceMod, Nat.reducePow, List.reduceReplicate, UInt8.reduceOfNat, UInt32.reduceOfNat, UInt64.reduceOfNat, Int.reduceLE, Int.reduceLT, Int.reduceNeg, Int.reduceToNat, Int.reduceAdd, Int.reduceSub, Int.reduceMul, Int.reduceEq, UInt64.reduceToNat, UInt8.reduceToNat, UInt32.reduceToNat]; rfl) | rfl) ?_
    repeat (first | ((first | refine Tri.seq (Tri.regT (cfgKJ2_ok.pins _) ?_) | refine Tri.rgnT (cfgKJ2_ok.pins _) ?_); (repeat (first | refine RunT.one (by first | exact wantedA_none rfl | (simp only [go_sem, Bool.true_beq, Bool.false_beq]; done) | (simp only [go_sem, Bool.true_beq, Bool.false_beq]; with_reducible rfl)) (by simp (maxSteps := 2000000) (disch := first | decide | omega | (simp only [List.length_append, List.length_cons, List.length_nil, List.length_take, List.length_drop]; omega)) only [b1, e, go_sem, ↓reduceIte, reduceCtorEq, Nat.reduceLT, Nat.reduceSub, Nat.reduceAdd, Nat.reduceMul, Nat.reduceEqDiff, Nat.reduceBEq, Nat.reduceBNe, Nat.reduceLeDiff, Nat.reduceDiv, Nat.reduceMod, Nat.reducePow, List.reduceReplicate, UInt8.reduceOfNat, UInt32.reduceOfNat, UInt64.reduceOfNat, Int.reduceLE, Int.reduceLT, Int.reduceNeg, Int.reduceToNat, Int.reduceAdd, Int.reduceSub, Int.reduceMul, Int.reduceEq, UInt64.reduceToNat, UInt8.reduceToNat, UInt32.reduceToNat]; rfl) (by simp only [go_sem, Nat.reduceBEq, Nat.reduceEqDiff, Nat.reduceAdd, ↓reduceIte, reduceCtorEq, List.reduceReplicate, List.replicate]; rfl) (by first | exact True.intro | (simp only [Obs, and_true, true_and]; omega) | (simp [Obs, AV.sizeL, AV.size, Kd.sz]; done) | (simp [Obs, AV.sizeL, AV.size, Kd.sz]; omega) | (simp only [Obs, and_true, true_and]; (repeat' apply And.intro) <;> first | omega | assumption)) ?_ | refine RunT.not (by first | (simp only [go_sem, Bool.true_beq, Bool.false_beq]; done) | (simp only [go_sem, Bool.true_beq, Bool.false_beq]; with_reducible rfl)) (by simp only [go_sem, Nat.reduceBEq, Nat.reduceEqDiff, Nat.reduceAdd, ↓reduceIte, reduceCtorEq, List.reduceReplicate, List.replicate]; rfl) ?_)); refine RunT.nil ?_; try simp only [InBlock, Then]) | refine Tri.cF (by first | (simp only [AS.ev, b1, e, go_sem, ↓reduceIte, reduceCtorEq, Nat.reduceLT, Nat.reduceSub, Nat.reduceAdd, Nat.reduceMul, Nat.reduceEqDiff, Nat.reduceBEq, Nat.reduceBNe, Nat.reduceLeDiff, Nat.reduceDiv, Nat.reduceMod, Nat.reducePow, List.reduceReplicate, UInt8.reduceOfNat, UInt32.reduceOfNat, UInt64.reduceOfNat, Int.reduceLE, Int.reduceLT, Int.reduceNeg, Int.reduceToNat, Int.reduceAdd, Int.reduceSub, Int.reduceMul, Int.reduceEq, UInt64.reduceToNat, UInt8.reduceToNat, UInt32.reduceToNat]; done) | fail) ?_ | refine Tri.cT (by first | (simp only [AS.ev, b1, e, go_sem, ↓reduceIte, reduceCtorEq, Nat.reduceLT, Nat.reduceSub, Nat.reduceAdd, Nat.reduceMul, Nat.reduceEqDiff, Nat.reduceBEq, Nat.reduceBNe, Nat.reduceLeDiff, Nat.reduceDiv, Nat.reduceMod, Nat.reducePow, List.reduceReplicate, UInt8.reduceOfNat, UInt32.reduceOfNat, UInt64.reduceOfNat, Int.reduceLE, Int.reduceLT, Int.reduceNeg, Int.reduceToNat, Int.reduceAdd, Int.reduceSub, Int.reduceMul, Int.reduceEq, UInt64.reduceToNat, UInt8.reduceToNat, UInt32.reduceToNat]; done) | fail) ?_ | (refine Tri.skip ?_; try simp only [InBlock, Then]) | (refine Tri.exit ?_; simp only [Then, InBlock, if_true, if_false, ↓reduceIte, Nat.reduceEqDiff]) | refine Tri.seq (Tri.block ?_) | refine Tri.block ?_ | refine Tri.seq ?_ | (refine Tri.ret ?_; refine Con.fin (.inl rfl) (by simp only [Tryd.f35, cfgKJ2, resA, resA1, go_sem, ↓reduceIte, reduceCtorEq, Nat.reduceLT, Nat.reduceSub, Nat.reduceAdd, Nat.reduceMul, Nat.reduceEqDiff, Nat.reduceBEq, Nat.reduceBNe, Nat.reduceLeDiff, Nat.reduceDiv, Nat.reduceMod, Nat.reducePow, List.reduceReplicate, UInt8.reduceOfNat, UInt32.reduceOfNat, UInt64.reduceOfNat, Int.reduceLE, Int.reduceLT, Int.reduceNeg, Int.reduceToNat, Int.reduceAdd, Int.reduceSub, Int.reduceMul, Int.reduceEq, UInt64.reduceToNat, UInt8.reduceToNat, UInt32.reduceToNat]; rfl) (by simp only [Obs, and_true, true_and]) (by first | (simp only [kHs, Con.of, Con.ofO, resV, b1, e, go_sem, ↓reduceIte, reduceCtorEq, Nat.reduceLT, Nat.reduceSub, Nat.reduceAdd, Nat.reduceMul, Nat.reduceEqDiff, Nat.reduceBEq, Nat.reduceBNe, Nat.reduceLeDiff, Nat.reduceDiv, Nat.reduceMod, Nat.reducePow, List.reduceReplicate, UInt8.reduceOfNat, UInt32.reduceOfNat, UInt64.reduceOfNat, Int.reduceLE, Int.reduceLT, Int.reduceNeg, Int.reduceToNat, Int.reduceAdd, Int.reduceSub, Int.reduceMul, Int.reduceEq, UInt64.reduceToNat, UInt8.reduceToNat, UInt32.reduceToNat]; done) | fail) trivial rfl rfl))
  | false =>
  cases b2 : decide ((7 : Int) < k) with
  | true =>
    rw [b1, b2] at e
    simp only [Bool.not_true, Bool.not_false, Bool.true_and, Bool.false_and] at e
    refine Tri.at (by first | (simp only [b1, b2, e, Con.start, go_sem, ↓reduceIte, reduceCtorEq, Nat.reduceLT, Nat.reduceSub, Nat.reduceAdd, Nat.reduceMul, Nat.reduceEqDiff, Nat.reduceBEq, Nat.reduceBNe, Nat.reduceLeDiff, Nat.reduceDiv, Nat.reduceMod, Nat.reducePow, List.reduceReplicate, UInt8.reduceOfNat, UInt32.reduceOfNat, UInt64.reduceOfNat, Int.reduceLE, Int.reduceLT, Int.reduceNeg, Int.reduceToNat, Int.reduceAdd, Int.reduceSub, Int.reduceMul, Int.reduceEq, UInt64.reduceToNat, UInt8.reduceToNat, UInt32.reduceToNat]; rfl) | rfl) ?_
    repeat (first | ((first | refine Tri.seq (Tri.regT (cfgKJ2_ok.pins _) ?_) | refine Tri.rgnT (cfgKJ2_ok.pins _) ?_); (repeat (first | refine RunT.one (by first | exact wantedA_none rfl | (simp only [go_sem, Bool.true_beq, Bool.false_beq]; done) | (simp only [go_sem, Bool.true_beq, Bool.false_beq]; with_reducible rfl)) (by simp (maxSteps := 2000000) (disch := first | decide | omega | (simp only [List.length_append, List.length_cons, List.length_nil, List.length_take, List.length_drop]; omega)) only [b1, b2, e, go_sem, ↓reduceIte, reduceCtorEq, Nat.reduceLT, Nat.reduceSub, Nat.reduceAdd, Nat.reduceMul, Nat.reduceEqDiff, Nat.reduceBEq, Nat.reduceBNe, Nat.reduceLeDiff, Nat.reduceDiv, Nat.reduceMod, Nat.reducePow, List.reduceReplicate, UInt8.reduceOfNat, UInt32.reduceOfNat, UInt64.reduceOfNat, Int.reduceLE, Int.reduceLT, Int.reduceNeg, Int.reduceToNat, Int.reduceAdd, Int.reduceSub, Int.reduceMul, Int.reduceEq, UInt64.reduceToNat, UInt8.reduceToNat, UInt32.reduceToNat]; rfl) (by simp only [go_sem, Nat.reduceBEq, Nat.reduceEqDiff, Nat.reduceAdd, ↓reduceIte, reduceCtorEq, List.reduceReplicate, List.replicate]; rfl) (by first | exact True.intro | (simp only [Obs, and_true, true_and]; omega) | (simp [Obs, AV.sizeL, AV.size, Kd.sz]; done) | (simp [Obs, AV.sizeL, AV.size, Kd.sz]; omega) | (simp only [Obs, and_true, true_and]; (repeat' apply And.intro) <;> first | omega | assumption)) ?_ | refine RunT.not (by first | (simp only [go_sem, Bool.true_beq, Bool.false_beq]; done) | (simp only [go_sem, Bool.true_beq, Bool.false_beq]; with_reducible rfl)) (by simp only [go_sem, Nat.reduceBEq, Nat.reduceEqDiff, Nat.reduceAdd, ↓reduceIte, reduceCtorEq, List.reduceReplicate, List.replicate]; rfl) ?_)); refine RunT.nil ?_; try simp only [InBlock, Then]) | refine Tri.cF (by first | (simp only [AS.ev, b1, b2, e, go_sem, ↓reduceIte, reduceCtorEq, Nat.reduceLT, Nat.reduceSub, Nat.reduceAdd, Nat.reduceMul, Nat.reduceEqDiff, Nat.reduceBEq, Nat.reduceBNe, Nat.reduceLeDiff, Nat.reduceDiv, Nat.reduceMod, Nat.reducePow, List.reduceReplicate, UInt8.reduceOfNat, UInt32.reduceOfNat, UInt64.reduceOfNat, Int.reduceLE, Int.reduceLT, Int.reduceNeg, Int.reduceToNat, Int.reduceAdd, Int.reduceSub, Int.reduceMul, Int.reduceEq, UInt64.reduceToNat, UInt8.reduceToNat, UInt32.reduceToNat]; done) | fail) ?_ | refine Tri.cT (by first | (simp only [AS.ev, b1, b2, e, go_sem, ↓reduceIte, reduceCtorEq, Nat.reduceLT, Nat.reduceSub, Nat.reduceAdd, Nat.reduceMul, Nat.reduceEqDiff, Nat.reduceBEq, Nat.reduceBNe, Nat.reduceLeDiff, Nat.reduceDiv, Nat.reduceMod, Nat.reducePow, List.reduceReplicate, UInt8.reduceOfNat, UInt32.reduceOfNat, UInt64.reduceOfNat, Int.reduceLE, Int.reduceLT, Int.reduceNeg, Int.reduceToNat, Int.reduceAdd, Int.reduceSub, Int.reduceMul, Int.reduceEq, UInt64.reduceToNat, UInt8.reduceToNat, UInt32.reduceToNat]; done) | fail) ?_ | (refine Tri.skip ?_; try simp only [InBlock, Then]) | (refine Tri.exit ?_; simp only [Then, InBlock, if_true, if_false, ↓reduceIte, Nat.reduceEqDiff]) | refine Tri.seq (Tri.block ?_) | refine Tri.block ?_ | refine Tri.seq ?_ | (refine Tri.ret ?_; refine Con.fin (.inl rfl) (by simp only [Tryd.f35, cfgKJ2, resA, resA1, go_sem, ↓reduceIte, reduceCtorEq, Nat.reduceLT, Nat.reduceSub, Nat.reduceAdd, Nat.reduceMul, Nat.reduceEqDiff, Nat.reduceBEq, Nat.reduceBNe, Nat.reduceLeDiff, Nat.reduceDiv, Nat.reduceMod, Nat.reducePow, List.reduceReplicate, UInt8.reduceOfNat, UInt32.reduceOfNat, UInt64.reduceOfNat, Int.reduceLE, Int.reduceLT, Int.reduceNeg, Int.reduceToNat, Int.reduceAdd, Int.reduceSub, Int.reduceMul, Int.reduceEq, UInt64.reduceToNat, UInt8.reduceToNat, UInt32.reduceToNat]; rfl) (by simp only [Obs, and_true, true_and]) (by first | (simp only [kHs, Con.of, Con.ofO, resV, b1, b2, e, go_sem, ↓reduceIte, reduceCtorEq, Nat.reduceLT, Nat.reduceSub, Nat.reduceAdd, Nat.reduceMul, Nat.reduceEqDiff, Nat.reduceBEq, Nat.reduceBNe, Nat.reduceLeDiff, Nat.reduceDiv, Nat.reduceMod, Nat.reducePow, List.reduceReplicate, UInt8.reduceOfNat, UInt32.reduceOfNat, UInt64.reduceOfNat, Int.reduceLE, Int.reduceLT, Int.reduceNeg, Int.reduceToNat, Int.reduceAdd, Int.reduceSub, Int.reduceMul, Int.reduceEq, UInt64.reduceToNat, UInt8.reduceToNat, UInt32.reduceToNat]; done) | fail) trivial rfl rfl))
  | false =>
  cases b3 : decide (t < 31) with
  | true =>
    rw [b1, b2, b3] at e
    simp only [Bool.not_true, Bool.not_false, Bool.true_and, Bool.false_and] at e
    refine Tri.at (by first | (simp only [b1, b2, b3, e, Con.start, go_sem, ↓reduceIte, reduceCtorEq, Nat.reduceLT, Nat.reduceSub, Nat.reduceAdd, Nat.reduceMul, Nat.reduceEqDiff, Nat.reduceBEq, Nat.reduceBNe, Nat.reduceLeDiff, Nat.reduceDiv, Nat.reduceMod, Nat.reducePow, List.reduceReplicate, UInt8.reduceOfNat, UInt32.reduceOfNat, UInt64.reduceOfNat, Int.reduceLE, Int.reduceLT, Int.reduceNeg, Int.reduceToNat, Int.reduceAdd, Int.reduceSub, Int.reduceMul, Int.reduceEq, UInt64.reduceToNat, UInt8.reduceToNat, UInt32.reduceToNat]; rfl) | rfl) ?_
    repeat (first | ((first | refine Tri.seq (Tri.regT (cfgKJ2_ok.pins _) ?_) | refine Tri.rgnT (cfgKJ2_ok.pins _) ?_); (repeat (first | refine RunT.one (by first | exact wantedA_none rfl | (simp only [go_sem, Bool.true_beq, Bool.false_beq]; done) | (simp only [go_sem, Bool.true_beq, Bool.false_beq]; with_reducible rfl)) (by simp (maxSteps := 2000000) (disch := first | decide | omega | (simp only [List.length_append, List.length_cons, List.length_nil, List.length_take, List.length_drop]; omega)) only [b1, b2, b3, e, go_sem, ↓reduceIte, reduceCtorEq, Nat.reduceLT, Nat.reduceSub, Nat.reduceAdd, Nat.reduceMul, Nat.reduceEqDiff, Nat.reduceBEq, Nat.reduceBNe, Nat.reduceLeDiff, Nat.reduceDiv, Nat.reduceMod, Nat.reducePow, List.reduceReplicate, UInt8.reduceOfNat, UInt32.reduceOfNat, UInt64.reduceOfNat, Int.reduceLE, Int.reduceLT, Int.reduceNeg, Int.reduceToNat, Int.reduceAdd, Int.reduceSub, Int.reduceMul, Int.reduceEq, UInt64.reduceToNat, UInt8.reduceToNat, UInt32.reduceToNat]; rfl) (by simp only [go_sem, Nat.reduceBEq, Nat.reduceEqDiff, Nat.reduceAdd, ↓reduceIte, reduceCtorEq, List.reduceReplicate, List.replicate]; rfl) (by first | exact True.intro | (simp only [Obs, and_true, true_and]; omega) | (simp [Obs, AV.sizeL, AV.size, Kd.sz]; done) | (simp [Obs, AV.sizeL, AV.size, Kd.sz]; omega) | (simp only [Obs, and_true, true_and]; (repeat' apply And.intro) <;> first | omega | assumption)) ?_ | refine RunT.not (by first | (simp only [go_sem, Bool.true_beq, Bool.false_beq]; done) | (simp only [go_sem, Bool.true_beq, Bool.false_beq]; with_reducible rfl)) (by simp only [go_sem, Nat.reduceBEq, Nat.reduceEqDiff, Nat.reduceAdd, ↓reduceIte, reduceCtorEq, List.reduceReplicate, List.replicate]; rfl) ?_)); refine RunT.nil ?_; try simp only [InBlock, Then]) | refine Tri.cF (by first | (simp only [AS.ev, b1, b2, b3, e, go_sem, ↓reduceIte, reduceCtorEq, Nat.reduceLT, Nat.reduceSub, Nat.reduceAdd, Nat.reduceMul, Nat.reduceEqDiff, Nat.reduceBEq, Nat.reduceBNe, Nat.reduceLeDiff, Nat.reduceDiv, Nat.reduceMod, Nat.reducePow, List.reduceReplicate, UInt8.reduceOfNat, UInt32.reduceOfNat, UInt64.reduceOfNat, Int.reduceLE, Int.reduceLT, Int.reduceNeg, Int.reduceToNat, Int.reduceAdd, Int.reduceSub, Int.reduceMul, Int.reduceEq, UInt64.reduceToNat, UInt8.reduceToNat, UInt32.reduceToNat]; done) | fail) ?_ | refine Tri.cT (by first | (simp only [AS.ev, b1, b2, b3, e, go_sem, ↓reduceIte, reduceCtorEq, Nat.reduceLT, Nat.reduceSub, Nat.reduceAdd, Nat.reduceMul, Nat.reduceEqDiff, Nat.reduceBEq, Nat.reduceBNe, Nat.reduceLeDiff, Nat.reduceDiv, Nat.reduceMod, Nat.reducePow, List.reduceReplicate, UInt8.reduceOfNat, UInt32.reduceOfNat, UInt64.reduceOfNat, Int.reduceLE, Int.reduceLT, Int.reduceNeg, Int.reduceToNat, Int.reduceAdd, Int.reduceSub, Int.reduceMul, Int.reduceEq, UInt64.reduceToNat, UInt8.reduceToNat, UInt32.reduceToNat]; done) | fail) ?_ | (refine Tri.skip ?_; try simp only [InBlock, Then]) | (refine Tri.exit ?_; simp only [Then, InBlock, if_true, if_false, ↓reduceIte, Nat.reduceEqDiff]) | refine Tri.seq (Tri.block ?_) | refine Tri.block ?_ | refine Tri.seq ?_ | (refine Tri.ret ?_; refine Con.fin (.inl rfl) (by simp only [Tryd.f35, cfgKJ2, resA, resA1, go_sem, ↓reduceIte, reduceCtorEq, Nat.reduceLT, Nat.reduceSub, Nat.reduceAdd, Nat.reduceMul, Nat.reduceEqDiff, Nat.reduceBEq, Nat.reduceBNe, Nat.reduceLeDiff, Nat.reduceDiv, Nat.reduceMod, Nat.reducePow, List.reduceReplicate, UInt8.reduceOfNat, UInt32.reduceOfNat, UInt64.reduceOfNat, Int.reduceLE, Int.reduceLT, Int.reduceNeg, Int.reduceToNat, Int.reduceAdd, Int.reduceSub, Int.reduceMul, Int.reduceEq, UInt64.reduceToNat, UInt8.reduceToNat, UInt32.reduceToNat]; rfl) (by simp only [Obs, and_true, true_and]) (by first | (simp only [kHs, Con.of, Con.ofO, resV, b1, b2, b3, e, go_sem, ↓reduceIte, reduceCtorEq, Nat.reduceLT, Nat.reduceSub, Nat.reduceAdd, Nat.reduceMul, Nat.reduceEqDiff, Nat.reduceBEq, Nat.reduceBNe, Nat.reduceLeDiff, Nat.reduceDiv, Nat.reduceMod, Nat.reducePow, List.reduceReplicate, UInt8.reduceOfNat, UInt32.reduceOfNat, UInt64.reduceOfNat, Int.reduceLE, Int.reduceLT, Int.reduceNeg, Int.reduceToNat, Int.reduceAdd, Int.reduceSub, Int.reduceMul, Int.reduceEq, UInt64.reduceToNat, UInt8.reduceToNat, UInt32.reduceToNat]; done) | fail) trivial rfl rfl))
  | false =>
  cases b4 : decide ((39 : Int) < t) with
  | true =>
    rw [b1, b2, b3, b4] at e
    simp only [Bool.not_true, Bool.not_false, Bool.true_and, Bool.false_and] at e
    refine Tri.at (by first | (simp only [b1, b2, b3, b4, e, Con.start, go_sem, ↓reduceIte, reduceCtorEq, Nat.reduceLT, Nat.reduceSub, Nat.reduceAdd, Nat.reduceMul, Nat.reduceEqDiff, Nat.reduceBEq, Nat.reduceBNe, Nat.reduceLeDiff, Nat.reduceDiv, Nat.reduceMod, Nat.reducePow, List.reduceReplicate, UInt8.reduceOfNat, UInt32.reduceOfNat, UInt64.reduceOfNat, Int.reduceLE, Int.reduceLT, Int.reduceNeg, Int.reduceToNat, Int.reduceAdd, Int.reduceSub, Int.reduceMul, Int.reduceEq, UInt64.reduceToNat, UInt8.reduceToNat, UInt32.reduceToNat]; rfl) | rfl) ?_
    repeat (first | ((first | refine Tri.seq (Tri.regT (cfgKJ2_ok.pins _) ?_) | refine Tri.rgnT (cfgKJ2_ok.pins _) ?_); (repeat (first | refine RunT.one (by first | exact wantedA_none rfl | (simp only [go_sem, Bool.true_beq, Bool.false_beq]; done) | (simp only [go_sem, Bool.true_beq, Bool.false_beq]; with_reducible rfl)) (by simp (maxSteps := 2000000) (disch := first | decide | omega | (simp only [List.length_append, List.length_cons, List.length_nil, List.length_take, List.length_drop]; omega)) only [b1, b2, b3, b4, e, go_sem, ↓reduceIte, reduceCtorEq, Nat.reduceLT, Nat.reduceSub, Nat.reduceAdd, Nat.reduceMul, Nat.reduceEqDiff, Nat.reduceBEq, Nat.reduceBNe, Nat.reduceLeDiff, Nat.reduceDiv, Nat.reduceMod, Nat.reducePow, List.reduceReplicate, UInt8.reduceOfNat, UInt32.reduceOfNat, UInt64.reduceOfNat, Int.reduceLE, Int.reduceLT, Int.reduceNeg, Int.reduceToNat, Int.reduceAdd, Int.reduceSub, Int.reduceMul, Int.reduceEq, UInt64.reduceToNat, UInt8.reduceToNat, UInt32.reduceToNat]; rfl) (by simp only [go_sem, Nat.reduceBEq, Nat.reduceEqDiff, Nat.reduceAdd, ↓reduceIte, reduceCtorEq, List.reduceReplicate, List.replicate]; rfl) (by first | exact True.intro | (simp only [Obs, and_true, true_and]; omega) | (simp [Obs, AV.sizeL, AV.size, Kd.sz]; done) | (simp [Obs, AV.sizeL, AV.size, Kd.sz]; omega) | (simp only [Obs, and_true, true_and]; (repeat' apply And.intro) <;> first | omega | assumption)) ?_ | refine RunT.not (by first | (simp only [go_sem, Bool.true_beq, Bool.false_beq]; done) | (simp only [go_sem, Bool.true_beq, Bool.false_beq]; with_reducible rfl)) (by simp only [go_sem, Nat.reduceBEq, Nat.reduceEqDiff, Nat.reduceAdd, ↓reduceIte, reduceCtorEq, List.reduceReplicate, List.replicate]; rfl) ?_)); refine RunT.nil ?_; try simp only [InBlock, Then]) | refine Tri.cF (by first | (simp only [AS.ev, b1, b2, b3, b4, e, go_sem, ↓reduceIte, reduceCtorEq, Nat.reduceLT, Nat.reduceSub, Nat.reduceAdd, Nat.reduceMul, Nat.reduceEqDiff, Nat.reduceBEq, Nat.reduceBNe, Nat.reduceLeDiff, Nat.reduceDiv, Nat.reduceMod, Nat.reducePow, List.reduceReplicate, UInt8.reduceOfNat, UInt32.reduceOfNat, UInt64.reduceOfNat, Int.reduceLE, Int.reduceLT, Int.reduceNeg, Int.reduceToNat, Int.reduceAdd, Int.reduceSub, Int.reduceMul, Int.reduceEq, UInt64.reduceToNat, UInt8.reduceToNat, UInt32.reduceToNat]; done) | fail) ?_ | refine Tri.cT (by first | (simp only [AS.ev, b1, b2, b3, b4, e, go_sem, ↓reduceIte, reduceCtorEq, Nat.reduceLT, Nat.reduceSub, Nat.reduceAdd, Nat.reduceMul, Nat.reduceEqDiff, Nat.reduceBEq, Nat.reduceBNe, Nat.reduceLeDiff, Nat.reduceDiv, Nat.reduceMod, Nat.reducePow, List.reduceReplicate, UInt8.reduceOfNat, UInt32.reduceOfNat, UInt64.reduceOfNat, Int.reduceLE, Int.reduceLT, Int.reduceNeg, Int.reduceToNat, Int.reduceAdd, Int.reduceSub, Int.reduceMul, Int.reduceEq, UInt64.reduceToNat, UInt8.reduceToNat, UInt32.reduceToNat]; done) | fail) ?_ | (refine Tri.skip ?_; try simp only [InBlock, Then]) | (refine Tri.exit ?_; simp only [Then, InBlock, if_true, if_false, ↓reduceIte, Nat.reduceEqDiff]) | refine Tri.seq (Tri.block ?_) | refine Tri.block ?_ | refine Tri.seq ?_ | (refine Tri.ret ?_; refine Con.fin (.inl rfl) (by simp only [Tryd.f35, cfgKJ2, resA, resA1, go_sem, ↓reduceIte, reduceCtorEq, Nat.reduceLT, Nat.reduceSub, Nat.reduceAdd, Nat.reduceMul, Nat.reduceEqDiff, Nat.reduceBEq, Nat.reduceBNe, Nat.reduceLeDiff, Nat.reduceDiv, Nat.reduceMod, Nat.reducePow, List.reduceReplicate, UInt8.reduceOfNat, UInt32.reduceOfNat, UInt64.reduceOfNat, Int.reduceLE, Int.reduceLT, Int.reduceNeg, Int.reduceToNat, Int.reduceAdd, Int.reduceSub, Int.reduceMul, Int.reduceEq, UInt64.reduceToNat, UInt8.reduceToNat, UInt32.reduceToNat]; rfl) (by simp only [Obs, and_true, true_and]) (by first | (simp only [kHs, Con.of, Con.ofO, resV, b1, b2, b3, b4, e, go_sem, ↓reduceIte, reduceCtorEq, Nat.reduceLT, Nat.reduceSub, Nat.reduceAdd, Nat.reduceMul, Nat.reduceEqDiff, Nat.reduceBEq, Nat.reduceBNe, Nat.reduceLeDiff, Nat.reduceDiv, Nat.reduceMod, Nat.reducePow, List.reduceReplicate, UInt8.reduceOfNat, UInt32.reduceOfNat, UInt64.reduceOfNat, Int.reduceLE, Int.reduceLT, Int.reduceNeg, Int.reduceToNat, Int.reduceAdd, Int.reduceSub, Int.reduceMul, Int.reduceEq, UInt64.reduceToNat, UInt8.reduceToNat, UInt32.reduceToNat]; done) | fail) trivial rfl rfl))
  | false =>
    have c1 := of_decide_eq_false b1
    have c2 := of_decide_eq_false b2
    have c3 := of_decide_eq_false b3
    have c4 := of_decide_eq_false b4
    obtain ⟨K, hK⟩ : ∃ K : Nat, k = (K : Int) := ⟨k.toNat, by omega⟩
    obtain ⟨T, hT⟩ : ∃ T : Nat, t - 31 = (T : Int) := ⟨(t - 31).toNat, by omega⟩
    subst hK
    rw [b1, b2, b3, b4, hT, Int.toNat_natCast, Int.toNat_natCast] at e
    simp only [Bool.not_true, Bool.not_false, Bool.true_and, Bool.false_and] at e
    refine Tri.at (by first | (simp only [b1, b2, b3, b4, hT, Con.start, go_sem, ↓reduceIte, reduceCtorEq, Nat.reduceLT, Nat.reduceSub, Nat.reduceAdd, Nat.reduceMul, Nat.reduceEqDiff, Nat.reduceBEq, Nat.reduceBNe, Nat.reduceLeDiff, Nat.reduceDiv, Nat.reduceMod, Nat.reducePow, List.reduceReplicate, UInt8.reduceOfNat, UInt32.reduceOfNat, UInt64.reduceOfNat, Int.reduceLE, Int.reduceLT, Int.reduceNeg, Int.reduceToNat, Int.reduceAdd, Int.reduceSub, Int.reduceMul, Int.reduceEq, UInt64.reduceToNat, UInt8.reduceToNat, UInt32.reduceToNat]; rfl) | rfl) ?_
    repeat (first | ((first | refine Tri.seq (Tri.regT (cfgKJ2_ok.pins _) ?_) | refine Tri.rgnT (cfgKJ2_ok.pins _) ?_); (repeat (first | refine RunT.one (by first | exact wantedA_none rfl | (simp only [go_sem, Bool.true_beq, Bool.false_beq]; done) | (simp only [go_sem, Bool.true_beq, Bool.false_beq]; with_reducible rfl)) (by simp (maxSteps := 2000000) (disch := first | decide | omega | (simp only [List.length_append, List.length_cons, List.length_nil, List.length_take, List.length_drop]; omega)) only [b1, b2, b3, b4, hT, go_sem, ↓reduceIte, reduceCtorEq, Nat.reduceLT, Nat.reduceSub, Nat.reduceAdd, Nat.reduceMul, Nat.reduceEqDiff, Nat.reduceBEq, Nat.reduceBNe, Nat.reduceLeDiff, Nat.reduceDiv, Nat.reduceMod, Nat.reducePow, List.reduceReplicate, UInt8.reduceOfNat, UInt32.reduceOfNat, UInt64.reduceOfNat, Int.reduceLE, Int.reduceLT, Int.reduceNeg, Int.reduceToNat, Int.reduceAdd, Int.reduceSub, Int.reduceMul, Int.reduceEq, UInt64.reduceToNat, UInt8.reduceToNat, UInt32.reduceToNat]; rfl) (by simp only [go_sem, Nat.reduceBEq, Nat.reduceEqDiff, Nat.reduceAdd, ↓reduceIte, reduceCtorEq, List.reduceReplicate, List.replicate]; rfl) (by first | exact True.intro | (simp only [Obs, and_true, true_and]; omega) | (simp [Obs, AV.sizeL, AV.size, Kd.sz]; done) | (simp [Obs, AV.sizeL, AV.size, Kd.sz]; omega) | (simp only [Obs, and_true, true_and]; (repeat' apply And.intro) <;> first | omega | assumption)) ?_ | refine RunT.not (by first | (simp only [go_sem, Bool.true_beq, Bool.false_beq]; done) | (simp only [go_sem, Bool.true_beq, Bool.false_beq]; with_reducible rfl)) (by simp only [go_sem, Nat.reduceBEq, Nat.reduceEqDiff, Nat.reduceAdd, ↓reduceIte, reduceCtorEq, List.reduceReplicate, List.replicate]; rfl) ?_)); refine RunT.nil ?_; try simp only [InBlock, Then]) | refine Tri.cF (by first | (simp only [AS.ev, b1, b2, b3, b4, hT, go_sem, ↓reduceIte, reduceCtorEq, Nat.reduceLT, Nat.reduceSub, Nat.reduceAdd, Nat.reduceMul, Nat.reduceEqDiff, Nat.reduceBEq, Nat.reduceBNe, Nat.reduceLeDiff, Nat.reduceDiv, Nat.reduceMod, Nat.reducePow, List.reduceReplicate, UInt8.reduceOfNat, UInt32.reduceOfNat, UInt64.reduceOfNat, Int.reduceLE, Int.reduceLT, Int.reduceNeg, Int.reduceToNat, Int.reduceAdd, Int.reduceSub, Int.reduceMul, Int.reduceEq, UInt64.reduceToNat, UInt8.reduceToNat, UInt32.reduceToNat]; done) | fail) ?_ | refine Tri.cT (by first | (simp only [AS.ev, b1, b2, b3, b4, hT, go_sem, ↓reduceIte, reduceCtorEq, Nat.reduceLT, Nat.reduceSub, Nat.reduceAdd, Nat.reduceMul, Nat.reduceEqDiff, Nat.reduceBEq, Nat.reduceBNe, Nat.reduceLeDiff, Nat.reduceDiv, Nat.reduceMod, Nat.reducePow, List.reduceReplicate, UInt8.reduceOfNat, UInt32.reduceOfNat, UInt64.reduceOfNat, Int.reduceLE, Int.reduceLT, Int.reduceNeg, Int.reduceToNat, Int.reduceAdd, Int.reduceSub, Int.reduceMul, Int.reduceEq, UInt64.reduceToNat, UInt8.reduceToNat, UInt32.reduceToNat]; done) | fail) ?_ | (refine Tri.skip ?_; try simp only [InBlock, Then]) | (refine Tri.exit ?_; simp only [Then, InBlock, if_true, if_false, ↓reduceIte, Nat.reduceEqDiff]) | refine Tri.seq (Tri.block ?_) | refine Tri.block ?_ | refine Tri.seq ?_ | (refine Tri.ret ?_; refine Con.fin (.inl rfl) (by simp only [Tryd.f35, cfgKJ2, resA, resA1, go_sem, ↓reduceIte, reduceCtorEq, Nat.reduceLT, Nat.reduceSub, Nat.reduceAdd, Nat.reduceMul, Nat.reduceEqDiff, Nat.reduceBEq, Nat.reduceBNe, Nat.reduceLeDiff, Nat.reduceDiv, Nat.reduceMod, Nat.reducePow, List.reduceReplicate, UInt8.reduceOfNat, UInt32.reduceOfNat, UInt64.reduceOfNat, Int.reduceLE, Int.reduceLT, Int.reduceNeg, Int.reduceToNat, Int.reduceAdd, Int.reduceSub, Int.reduceMul, Int.reduceEq, UInt64.reduceToNat, UInt8.reduceToNat, UInt32.reduceToNat]; rfl) (by simp only [Obs, and_true, true_and]) (by first | (simp only [kHs, Con.of, Con.ofO, resV, b1, b2, b3, b4, hT, go_sem, ↓reduceIte, reduceCtorEq, Nat.reduceLT, Nat.reduceSub, Nat.reduceAdd, Nat.reduceMul, Nat.reduceEqDiff, Nat.reduceBEq, Nat.reduceBNe, Nat.reduceLeDiff, Nat.reduceDiv, Nat.reduceMod, Nat.reducePow, List.reduceReplicate, UInt8.reduceOfNat, UInt32.reduceOfNat, UInt64.reduceOfNat, Int.reduceLE, Int.reduceLT, Int.reduceNeg, Int.reduceToNat, Int.reduceAdd, Int.reduceSub, Int.reduceMul, Int.reduceEq, UInt64.reduceToNat, UInt8.reduceToNat, UInt32.reduceToNat]; done) | fail) trivial rfl rfl))
    refine Tri.ret ?_
    refine Con.fin (.inl rfl) (by simp only [Tryd.f35, cfgKJ2, resA, resA1, go_sem, ↓reduceIte, reduceCtorEq, Nat.reduceLT, Nat.reduceSub, Nat.reduceAdd, Nat.reduceMul, Nat.reduceEqDiff, Nat.reduceBEq, Nat.reduceBNe, Nat.reduceLeDiff, Nat.reduceDiv, Nat.reduceMod, Nat.reducePow, List.reduceReplicate, UInt8.reduceOfNat, UInt32.reduceOfNat, UInt64.reduceOfNat, Int.reduceLE, Int.reduceLT, Int.reduceNeg, Int.reduceToNat, Int.reduceAdd, Int.reduceSub, Int.reduceMul, Int.reduceEq, UInt64.reduceToNat, UInt8.reduceToNat, UInt32.reduceToNat]; rfl) (by simp only [Obs, and_true, true_and]) ?_ ?_ rfl rfl
    · exact congrArg AV.bool e.symm
    · exact True.intro
theorem hs_sum : FSumOK Tryd.prog cfgKJ2.G 35 kHs.sum := Con.sumOK cfgKJ2_ok kHs Tryd.func35 rfl rfl (Con.of_inv _ _ _) hs_body
end
end Go.Proofs.YtjdeaphfamenaaaDoor

namespace Go.Proofs.YtjdeaphfamenaaaDoor
open Go.Vc Go.Proofs
set_option linter.unusedVariables false
set_option maxRecDepth 10000
set_option maxHeartbeats 4000000
-- SEM VcZn
-- LITE
-- ASM
/-! The document's: two messages are one. -/
def smR (a b : krK.T) : Bool := decide ((a.1 : Int) = b.1) && (strEq a.2.1 b.2.1 && (strEq a.2.2.1 b.2.2.1 && (decide ((a.2.2.2.1 : UInt64) = b.2.2.2.1) && (decide ((a.2.2.2.2.1 : Int) = b.2.2.2.2.1) && (decide ((a.2.2.2.2.2.1 : Int) = b.2.2.2.2.2.1) && (strEq a.2.2.2.2.2.2.1 b.2.2.2.2.2.2.1 && (strEq a.2.2.2.2.2.2.2.1 b.2.2.2.2.2.2.2.1 && (decide ((a.2.2.2.2.2.2.2.2.1 : Int) = b.2.2.2.2.2.2.2.2.1)))))))))
def kSmR : Con := Con.of [.v krK, .v krK] (fun _ => []) (fun x => ⟨.bool (smR x.1 x.2.1), []⟩)
def cfgKM1 : Cfg2 := { ty := tyTabM, fn := fun  | _ => none, G := gNone, pin := [], eq := fun _ => none }
theorem cfgKM1_ok : CfgOK Tryd.prog cfgKM1 := ⟨tyTabM_ok, (fun f s h => by cases h), (fun t d h => by cases h)⟩
section
attribute [local go_sem] Tryd.f33 kSmR cfgKM1 tyTabM tyTabK tyTab
theorem smr_body (p : kSmR.Par) (hp : ∀ q ∈ kSmR.pre p, q) : BodyOK Tryd.prog cfgKM1 Tryd.f33 (Tryd.f33.body.get rfl) kSmR p := by
  obtain ⟨⟨(akd : Int), (acl : List UInt8), (asv : List UInt8), (ano : UInt64), (aen : Int), (afl : Int), (ati : List UInt8), (ase : List UInt8), (aco : Int), u1⟩, ⟨(bkd : Int), (bcl : List UInt8), (bsv : List UInt8), (bno : UInt64), (ben : Int), (bfl : Int), (bti : List UInt8), (bse : List UInt8), (bco : Int), u2⟩, u⟩ := p
  refine ⟨?_, Nat.zero_le _, rfl, rfl⟩

  have e : smR (akd, acl, asv, ano, aen, afl, ati, ase, aco, u1) (bkd, bcl, bsv, bno, ben, bfl, bti, bse, bco, u2) = (decide ((akd : Int) = bkd) && (strEq acl bcl && (strEq asv bsv && (decide ((ano : UInt64) = bno) && (decide ((aen : Int) = ben) && (decide ((afl : Int) = bfl) && (strEq ati bti && (strEq ase bse && (decide ((aco : Int) = bco)))))))))) := rfl
  cases c0 : decide ((akd : Int) = bkd) with
  | false =>
    rw [c0] at e
    replace e : smR (akd, acl, asv, ano, aen, afl, ati, ase, aco, u1) (bkd, bcl, bsv, bno, ben, bfl, bti, bse, bco, u2) = false := e
    refine Tri.at (by first | (simp only [Con.start, go_sem, Nat.reduceSub, Nat.reduceAdd, List.reduceReplicate]; rfl) | rfl) ?_
    repeat (first | ((first | refine Tri.seq (Tri.regT (cfgKM1_ok.pins _) ?_) | refine Tri.rgnT (cfgKM1_ok.pins _) ?_); (repeat (first | refine RunT.one (by first | exact wantedA_none rfl | (simp only [go_sem, Bool.false_beq]; done) | (simp only [go_sem, Bool.false_beq]; with_reducible rfl)) (by simp (maxSteps := 2000000) (disch := first | decide | omega | (simp only [List.length_append, List.length_cons, List.length_nil, List.length_take, List.length_drop]; omega)) only [c0, go_sem, ↓reduceIte, reduceCtorEq, Nat.reduceAdd, Nat.reduceEqDiff]; rfl) (by simp only [go_sem]; rfl) (by first | exact True.intro | (simp only [Obs, and_true]; omega) | (simp [Obs]; done) | (simp [Obs, AV.sizeL, AV.size, Kd.sz]; omega) | (simp only [Obs, and_true, true_and]; (repeat' apply And.intro) <;> first | omega | assumption)) ?_ | refine RunT.not (by first | (simp only [go_sem, Bool.false_beq]; done) | (simp only [go_sem]; with_reducible rfl)) (by simp only [go_sem]; rfl) ?_)); refine RunT.nil ?_; try simp only [InBlock, Then]) | refine Tri.cF (by first | (simp only [AS.ev, go_sem]; done) | fail) ?_ | refine Tri.cT (by first | (simp only [AS.ev, go_sem]; done) | fail) ?_ | (refine Tri.skip ?_; try simp only [InBlock, Then]) | (refine Tri.exit ?_; simp only [Then, InBlock, if_true, if_false, ↓reduceIte, Nat.reduceEqDiff]) | refine Tri.seq (Tri.block ?_) | refine Tri.block ?_ | refine Tri.seq ?_ | (refine Tri.ret ?_; refine Con.fin (.inl rfl) (by simp only [Tryd.f33, cfgKM1, resA, resA1, go_sem]; rfl) (by simp only [Obs]) (by first | (simp only [kSmR, Con.of, resV, e, go_sem]; done) | fail) trivial rfl rfl))
  | true =>
  cases c1 : strEq acl bcl with
  | false =>
    rw [c0, c1] at e
    replace e : smR (akd, acl, asv, ano, aen, afl, ati, ase, aco, u1) (bkd, bcl, bsv, bno, ben, bfl, bti, bse, bco, u2) = false := e
    refine Tri.at (by first | (simp only [Con.start, go_sem, Nat.reduceSub, Nat.reduceAdd, List.reduceReplicate]; rfl) | rfl) ?_
    repeat (first | ((first | refine Tri.seq (Tri.regT (cfgKM1_ok.pins _) ?_) | refine Tri.rgnT (cfgKM1_ok.pins _) ?_); (repeat (first | refine RunT.one (by first | exact wantedA_none rfl | (simp only [go_sem, Bool.true_beq, Bool.false_beq]; done) | (simp only [go_sem, Bool.false_beq]; with_reducible rfl)) (by simp (maxSteps := 2000000) (disch := first | decide | omega | (simp only [List.length_append, List.length_cons, List.length_nil, List.length_take, List.length_drop]; omega)) only [c0, c1, go_sem, ↓reduceIte, reduceCtorEq, Nat.reduceAdd, Nat.reduceEqDiff]; rfl) (by simp only [go_sem]; rfl) (by first | exact True.intro | (simp only [Obs, and_true]; omega) | (simp [Obs]; done) | (simp [Obs, AV.sizeL, AV.size, Kd.sz]; omega) | (simp only [Obs, and_true, true_and]; (repeat' apply And.intro) <;> first | omega | assumption)) ?_ | refine RunT.not (by first | (simp only [go_sem, Bool.false_beq]; done) | (simp only [go_sem]; with_reducible rfl)) (by simp only [go_sem]; rfl) ?_)); refine RunT.nil ?_; try simp only [InBlock, Then]) | refine Tri.cF (by first | (simp only [AS.ev, go_sem]; done) | fail) ?_ | refine Tri.cT (by first | (simp only [AS.ev, go_sem]; done) | fail) ?_ | (refine Tri.skip ?_; try simp only [InBlock, Then]) | (refine Tri.exit ?_; simp only [Then, InBlock, if_true, if_false, ↓reduceIte, Nat.reduceEqDiff]) | refine Tri.seq (Tri.block ?_) | refine Tri.block ?_ | refine Tri.seq ?_ | (refine Tri.ret ?_; refine Con.fin (.inl rfl) (by simp only [Tryd.f33, cfgKM1, resA, resA1, go_sem]; rfl) (by simp only [Obs]) (by first | (simp only [kSmR, Con.of, resV, e, go_sem]; done) | fail) trivial rfl rfl))
  | true =>
  cases c2 : strEq asv bsv with
  | false =>
    rw [c0, c1, c2] at e
    replace e : smR (akd, acl, asv, ano, aen, afl, ati, ase, aco, u1) (bkd, bcl, bsv, bno, ben, bfl, bti, bse, bco, u2) = false := e
    refine Tri.at (by first | (simp only [Con.start, go_sem, Nat.reduceSub, Nat.reduceAdd, List.reduceReplicate]; rfl) | rfl) ?_
    repeat (first | ((first | refine Tri.seq (Tri.regT (cfgKM1_ok.pins _) ?_) | refine Tri.rgnT (cfgKM1_ok.pins _) ?_); (repeat (first | refine RunT.one (by first | exact wantedA_none rfl | (simp only [go_sem, Bool.true_beq, Bool.false_beq]; done) | (simp only [go_sem, Bool.false_beq]; with_reducible rfl)) (by simp (maxSteps := 2000000) (disch := first | decide | omega | (simp only [List.length_append, List.length_cons, List.length_nil, List.length_take, List.length_drop]; omega)) only [c0, c1, c2, go_sem, ↓reduceIte, reduceCtorEq, Nat.reduceAdd, Nat.reduceEqDiff]; rfl) (by simp only [go_sem]; rfl) (by first | exact True.intro | (simp only [Obs, and_true]; omega) | (simp [Obs]; done) | (simp [Obs, AV.sizeL, AV.size, Kd.sz]; omega) | (simp only [Obs, and_true, true_and]; (repeat' apply And.intro) <;> first | omega | assumption)) ?_ | refine RunT.not (by first | (simp only [go_sem, Bool.false_beq]; done) | (simp only [go_sem]; with_reducible rfl)) (by simp only [go_sem]; rfl) ?_)); refine RunT.nil ?_; try simp only [InBlock, Then]) | refine Tri.cF (by first | (simp only [AS.ev, go_sem]; done) | fail) ?_ | refine Tri.cT (by first | (simp only [AS.ev, go_sem]; done) | fail) ?_ | (refine Tri.skip ?_; try simp only [InBlock, Then]) | (refine Tri.exit ?_; simp only [Then, InBlock, if_true, if_false, ↓reduceIte, Nat.reduceEqDiff]) | refine Tri.seq (Tri.block ?_) | refine Tri.block ?_ | refine Tri.seq ?_ | (refine Tri.ret ?_; refine Con.fin (.inl rfl) (by simp only [Tryd.f33, cfgKM1, resA, resA1, go_sem]; rfl) (by simp only [Obs]) (by first | (simp only [kSmR, Con.of, resV, e, go_sem]; done) | fail) trivial rfl rfl))
  | true =>
  cases c3 : decide ((ano : UInt64) = bno) with
  | false =>
    rw [c0, c1, c2, c3] at e
    replace e : smR (akd, acl, asv, ano, aen, afl, ati, ase, aco, u1) (bkd, bcl, bsv, bno, ben, bfl, bti, bse, bco, u2) = false := e
    refine Tri.at (by first | (simp only [Con.start, go_sem, Nat.reduceSub, Nat.reduceAdd, List.reduceReplicate]; rfl) | rfl) ?_
    repeat (first | ((first | refine Tri.seq (Tri.regT (cfgKM1_ok.pins _) ?_) | refine Tri.rgnT (cfgKM1_ok.pins _) ?_); (repeat (first | refine RunT.one (by first | exact wantedA_none rfl | (simp only [go_sem, Bool.true_beq, Bool.false_beq]; done) | (simp only [go_sem, Bool.false_beq]; with_reducible rfl)) (by simp (maxSteps := 2000000) (disch := first | decide | omega | (simp only [List.length_append, List.length_cons, List.length_nil, List.length_take, List.length_drop]; omega)) only [c0, c1, c2, c3, go_sem, ↓reduceIte, reduceCtorEq, Nat.reduceAdd, Nat.reduceEqDiff]; rfl) (by simp only [go_sem]; rfl) (by first | exact True.intro | (simp only [Obs, and_true]; omega) | (simp [Obs]; done) | (simp [Obs, AV.sizeL, AV.size, Kd.sz]; omega) | (simp only [Obs, and_true, true_and]; (repeat' apply And.intro) <;> first | omega | assumption)) ?_ | refine RunT.not (by first | (simp only [go_sem, Bool.false_beq]; done) | (simp only [go_sem]; with_reducible rfl)) (by simp only [go_sem]; rfl) ?_)); refine RunT.nil ?_; try simp only [InBlock, Then]) | refine Tri.cF (by first | (simp only [AS.ev, go_sem]; done) | fail) ?_ | refine Tri.cT (by first | (simp only [AS.ev, go_sem]; done) | fail) ?_ | (refine Tri.skip ?_; try simp only [InBlock, Then]) | (refine Tri.exit ?_; simp only [Then, InBlock, if_true, if_false, ↓reduceIte, Nat.reduceEqDiff]) | refine Tri.seq (Tri.block ?_) | refine Tri.block ?_ | refine Tri.seq ?_ | (refine Tri.ret ?_; refine Con.fin (.inl rfl) (by simp only [Tryd.f33, cfgKM1, resA, resA1, go_sem]; rfl) (by simp only [Obs]) (by first | (simp only [kSmR, Con.of, resV, e, go_sem]; done) | fail) trivial rfl rfl))
  | true =>
  cases c4 : decide ((aen : Int) = ben) with
  | false =>
    rw [c0, c1, c2, c3, c4] at e
    replace e : smR (akd, acl, asv, ano, aen, afl, ati, ase, aco, u1) (bkd, bcl, bsv, bno, ben, bfl, bti, bse, bco, u2) = false := e
    refine Tri.at (by first | (simp only [Con.start, go_sem, Nat.reduceSub, Nat.reduceAdd, List.reduceReplicate]; rfl) | rfl) ?_
    repeat (first | ((first | refine Tri.seq (Tri.regT (cfgKM1_ok.pins _) ?_) | refine Tri.rgnT (cfgKM1_ok.pins _) ?_); (repeat (first | refine RunT.one (by first | exact wantedA_none rfl | (simp only [go_sem, Bool.true_beq, Bool.false_beq]; done) | (simp only [go_sem, Bool.false_beq]; with_reducible rfl)) (by simp (maxSteps := 2000000) (disch := first | decide | omega | (simp only [List.length_append, List.length_cons, List.length_nil, List.length_take, List.length_drop]; omega)) only [c0, c1, c2, c3, c4, go_sem, ↓reduceIte, reduceCtorEq, Nat.reduceAdd, Nat.reduceEqDiff]; rfl) (by simp only [go_sem]; rfl) (by first | exact True.intro | (simp only [Obs, and_true]; omega) | (simp [Obs]; done) | (simp [Obs, AV.sizeL, AV.size, Kd.sz]; omega) | (simp only [Obs, and_true, true_and]; (repeat' apply And.intro) <;> first | omega | assumption)) ?_ | refine RunT.not (by first | (simp only [go_sem, Bool.false_beq]; done) | (simp only [go_sem]; with_reducible rfl)) (by simp only [go_sem]; rfl) ?_)); refine RunT.nil ?_; try simp only [InBlock, Then]) | refine Tri.cF (by first | (simp only [AS.ev, go_sem]; done) | fail) ?_ | refine Tri.cT (by first | (simp only [AS.ev, go_sem]; done) | fail) ?_ | (refine Tri.skip ?_; try simp only [InBlock, Then]) | (refine Tri.exit ?_; simp only [Then, InBlock, if_true, if_false, ↓reduceIte, Nat.reduceEqDiff]) | refine Tri.seq (Tri.block ?_) | refine Tri.block ?_ | refine Tri.seq ?_ | (refine Tri.ret ?_; refine Con.fin (.inl rfl) (by simp only [Tryd.f33, cfgKM1, resA, resA1, go_sem]; rfl) (by simp only [Obs]) (by first | (simp only [kSmR, Con.of, resV, e, go_sem]; done) | fail) trivial rfl rfl))
  | true =>
  cases c5 : decide ((afl : Int) = bfl) with
  | false =>
    rw [c0, c1, c2, c3, c4, c5] at e
    replace e : smR (akd, acl, asv, ano, aen, afl, ati, ase, aco, u1) (bkd, bcl, bsv, bno, ben, bfl, bti, bse, bco, u2) = false := e
    refine Tri.at (by first | (simp only [Con.start, go_sem, Nat.reduceSub, Nat.reduceAdd, List.reduceReplicate]; rfl) | rfl) ?_
    repeat (first | ((first | refine Tri.seq (Tri.regT (cfgKM1_ok.pins _) ?_) | refine Tri.rgnT (cfgKM1_ok.pins _) ?_); (repeat (first | refine RunT.one (by first | exact wantedA_none rfl | (simp only [go_sem, Bool.true_beq, Bool.false_beq]; done) | (simp only [go_sem, Bool.false_beq]; with_reducible rfl)) (by simp (maxSteps := 2000000) (disch := first | decide | omega | (simp only [List.length_append, List.length_cons, List.length_nil, List.length_take, List.length_drop]; omega)) only [c0, c1, c2, c3, c4, c5, go_sem, ↓reduceIte, reduceCtorEq, Nat.reduceAdd, Nat.reduceEqDiff]; rfl) (by simp only [go_sem]; rfl) (by first | exact True.intro | (simp only [Obs, and_true]; omega) | (simp [Obs]; done) | (simp [Obs, AV.sizeL, AV.size, Kd.sz]; omega) | (simp only [Obs, and_true, true_and]; (repeat' apply And.intro) <;> first | omega | assumption)) ?_ | refine RunT.not (by first | (simp only [go_sem, Bool.false_beq]; done) | (simp only [go_sem]; with_reducible rfl)) (by simp only [go_sem]; rfl) ?_)); refine RunT.nil ?_; try simp only [InBlock, Then]) | refine Tri.cF (by first | (simp only [AS.ev, go_sem]; done) | fail) ?_ | refine Tri.cT (by first | (simp only [AS.ev, go_sem]; done) | fail) ?_ | (refine Tri.skip ?_; try simp only [InBlock, Then]) | (refine Tri.exit ?_; simp only [Then, InBlock, if_true, if_false, ↓reduceIte, Nat.reduceEqDiff]) | refine Tri.seq (Tri.block ?_) | refine Tri.block ?_ | refine Tri.seq ?_ | (refine Tri.ret ?_; refine Con.fin (.inl rfl) (by simp only [Tryd.f33, cfgKM1, resA, resA1, go_sem]; rfl) (by simp only [Obs]) (by first | (simp only [kSmR, Con.of, resV, e, go_sem]; done) | fail) trivial rfl rfl))
  | true =>
  cases c6 : strEq ati bti with
  | false =>
    rw [c0, c1, c2, c3, c4, c5, c6] at e
    replace e : smR (akd, acl, asv, ano, aen, afl, ati, ase, aco, u1) (bkd, bcl, bsv, bno, ben, bfl, bti, bse, bco, u2) = false := e
    refine Tri.at (by first | (simp only [Con.start, go_sem, Nat.reduceSub, Nat.reduceAdd, List.reduceReplicate]; rfl) | rfl) ?_
    repeat (first | ((first | refine Tri.seq (Tri.regT (cfgKM1_ok.pins _) ?_) | refine Tri.rgnT (cfgKM1_ok.pins _) ?_); (repeat (first | refine RunT.one (by first | exact wantedA_none rfl | (simp only [go_sem, Bool.true_beq, Bool.false_beq]; done) | (simp only [go_sem, Bool.false_beq]; with_reducible rfl)) (by simp (maxSteps := 2000000) (disch := first | decide | omega | (simp only [List.length_append, List.length_cons, List.length_nil, List.length_take, List.length_drop]; omega)) only [c0, c1, c2, c3, c4, c5, c6, go_sem, ↓reduceIte, reduceCtorEq, Nat.reduceAdd, Nat.reduceEqDiff]; rfl) (by simp only [go_sem]; rfl) (by first | exact True.intro | (simp only [Obs, and_true]; omega) | (simp [Obs]; done) | (simp [Obs, AV.sizeL, AV.size, Kd.sz]; omega) | (simp only [Obs, and_true, true_and]; (repeat' apply And.intro) <;> first | omega | assumption)) ?_ | refine RunT.not (by first | (simp only [go_sem, Bool.false_beq]; done) | (simp only [go_sem]; with_reducible rfl)) (by simp only [go_sem]; rfl) ?_)); refine RunT.nil ?_; try simp only [InBlock, Then]) | refine Tri.cF (by first | (simp only [AS.ev, go_sem]; done) | fail) ?_ | refine Tri.cT (by first | (simp only [AS.ev, go_sem]; done) | fail) ?_ | (refine Tri.skip ?_; try simp only [InBlock, Then]) | (refine Tri.exit ?_; simp only [Then, InBlock, if_true, if_false, ↓reduceIte, Nat.reduceEqDiff]) | refine Tri.seq (Tri.block ?_) | refine Tri.block ?_ | refine Tri.seq ?_ | (refine Tri.ret ?_; refine Con.fin (.inl rfl) (by simp only [Tryd.f33, cfgKM1, resA, resA1, go_sem]; rfl) (by simp only [Obs]) (by first | (simp only [kSmR, Con.of, resV, e, go_sem]; done) | fail) trivial rfl rfl))
  | true =>
  cases c7 : strEq ase bse with
  | false =>
    rw [c0, c1, c2, c3, c4, c5, c6, c7] at e
    replace e : smR (akd, acl, asv, ano, aen, afl, ati, ase, aco, u1) (bkd, bcl, bsv, bno, ben, bfl, bti, bse, bco, u2) = false := e
    refine Tri.at (by first | (simp only [Con.start, go_sem, Nat.reduceSub, Nat.reduceAdd, List.reduceReplicate]; rfl) | rfl) ?_
    repeat (first | ((first | refine Tri.seq (Tri.regT (cfgKM1_ok.pins _) ?_) | refine Tri.rgnT (cfgKM1_ok.pins _) ?_); (repeat (first | refine RunT.one (by first | exact wantedA_none rfl | (simp only [go_sem, Bool.true_beq, Bool.false_beq]; done) | (simp only [go_sem, Bool.false_beq]; with_reducible rfl)) (by simp (maxSteps := 2000000) (disch := first | decide | omega | (simp only [List.length_append, List.length_cons, List.length_nil, List.length_take, List.length_drop]; omega)) only [c0, c1, c2, c3, c4, c5, c6, c7, go_sem, ↓reduceIte, reduceCtorEq, Nat.reduceAdd, Nat.reduceEqDiff]; rfl) (by simp only [go_sem]; rfl) (by first | exact True.intro | (simp only [Obs, and_true]; omega) | (simp [Obs]; done) | (simp [Obs, AV.sizeL, AV.size, Kd.sz]; omega) | (simp only [Obs, and_true, true_and]; (repeat' apply And.intro) <;> first | omega | assumption)) ?_ | refine RunT.not (by first | (simp only [go_sem, Bool.false_beq]; done) | (simp only [go_sem]; with_reducible rfl)) (by simp only [go_sem]; rfl) ?_)); refine RunT.nil ?_; try simp only [InBlock, Then]) | refine Tri.cF (by first | (simp only [AS.ev, go_sem]; done) | fail) ?_ | refine Tri.cT (by first | (simp only [AS.ev, go_sem]; done) | fail) ?_ | (refine Tri.skip ?_; try simp only [InBlock, Then]) | (refine Tri.exit ?_; simp only [Then, InBlock, if_true, if_false, ↓reduceIte, Nat.reduceEqDiff]) | refine Tri.seq (Tri.block ?_) | refine Tri.block ?_ | refine Tri.seq ?_ | (refine Tri.ret ?_; refine Con.fin (.inl rfl) (by simp only [Tryd.f33, cfgKM1, resA, resA1, go_sem]; rfl) (by simp only [Obs]) (by first | (simp only [kSmR, Con.of, resV, e, go_sem]; done) | fail) trivial rfl rfl))
  | true =>
  cases c8 : decide ((aco : Int) = bco) with
  | false =>
    rw [c0, c1, c2, c3, c4, c5, c6, c7, c8] at e
    replace e : smR (akd, acl, asv, ano, aen, afl, ati, ase, aco, u1) (bkd, bcl, bsv, bno, ben, bfl, bti, bse, bco, u2) = false := e
    refine Tri.at (by first | (simp only [Con.start, go_sem, Nat.reduceSub, Nat.reduceAdd, List.reduceReplicate]; rfl) | rfl) ?_
    repeat (first | ((first | refine Tri.seq (Tri.regT (cfgKM1_ok.pins _) ?_) | refine Tri.rgnT (cfgKM1_ok.pins _) ?_); (repeat (first | refine RunT.one (by first | exact wantedA_none rfl | (simp only [go_sem, Bool.true_beq]; done) | (simp only [go_sem]; with_reducible rfl)) (by simp (maxSteps := 2000000) (disch := first | decide | omega | (simp only [List.length_append, List.length_cons, List.length_nil, List.length_take, List.length_drop]; omega)) only [c0, c1, c2, c3, c4, c5, c6, c7, c8, go_sem, ↓reduceIte, reduceCtorEq, Nat.reduceAdd, Nat.reduceEqDiff]; rfl) (by simp only [go_sem]; rfl) (by first | exact True.intro | (simp only [Obs, and_true]; omega) | (simp [Obs]; done) | (simp [Obs, AV.sizeL, AV.size, Kd.sz]; omega) | (simp only [Obs, and_true, true_and]; (repeat' apply And.intro) <;> first | omega | assumption)) ?_ | refine RunT.not (by first | (simp only [go_sem]; done) | (simp only [go_sem]; with_reducible rfl)) (by simp only [go_sem, Nat.reduceBEq, Nat.reduceEqDiff, Nat.reduceAdd, ↓reduceIte, reduceCtorEq, List.reduceReplicate, List.replicate]; rfl) ?_)); refine RunT.nil ?_; try simp only [InBlock, Then]) | refine Tri.cF (by first | (simp only [AS.ev, go_sem]; done) | fail) ?_ | refine Tri.cT (by first | (simp only [AS.ev, go_sem]; done) | fail) ?_ | (refine Tri.skip ?_; try simp only [InBlock, Then]) | (refine Tri.exit ?_; simp only [Then, InBlock, if_true, if_false, ↓reduceIte, Nat.reduceEqDiff]) | refine Tri.seq (Tri.block ?_) | refine Tri.block ?_ | refine Tri.seq ?_ | (refine Tri.ret ?_; refine Con.fin (.inl rfl) (by simp only [Tryd.f33, cfgKM1, resA, resA1, go_sem]; rfl) (by simp only [Obs]) (by first | (simp only [kSmR, Con.of, resV, e, go_sem]; done) | fail) trivial rfl rfl))
  | true =>
    rw [c0, c1, c2, c3, c4, c5, c6, c7, c8] at e
    replace e : smR (akd, acl, asv, ano, aen, afl, ati, ase, aco, u1) (bkd, bcl, bsv, bno, ben, bfl, bti, bse, bco, u2) = true := e
    refine Tri.at (by first | (simp only [Con.start, go_sem, Nat.reduceSub, Nat.reduceAdd, List.reduceReplicate]; rfl) | rfl) ?_
    repeat (first | ((first | refine Tri.seq (Tri.regT (cfgKM1_ok.pins _) ?_) | refine Tri.rgnT (cfgKM1_ok.pins _) ?_); (repeat (first | refine RunT.one (by first | exact wantedA_none rfl | (simp only [go_sem, Bool.true_beq]; done) | (simp only [go_sem]; with_reducible rfl)) (by simp (maxSteps := 2000000) (disch := first | decide | omega | (simp only [List.length_append, List.length_cons, List.length_nil, List.length_take, List.length_drop]; omega)) only [c0, c1, c2, c3, c4, c5, c6, c7, c8, go_sem, ↓reduceIte, reduceCtorEq, Nat.reduceAdd, Nat.reduceEqDiff]; rfl) (by simp only [go_sem]; rfl) (by first | exact True.intro | (simp only [Obs, and_true]; omega) | (simp [Obs]; done) | (simp [Obs, AV.sizeL, AV.size, Kd.sz]; omega) | (simp only [Obs, and_true, true_and]; (repeat' apply And.intro) <;> first | omega | assumption)) ?_ | refine RunT.not (by first | (simp only [go_sem]; done) | (simp only [go_sem]; with_reducible rfl)) (by simp only [go_sem, Nat.reduceBEq, Nat.reduceEqDiff, Nat.reduceAdd, ↓reduceIte, reduceCtorEq, List.reduceReplicate, List.replicate]; rfl) ?_)); refine RunT.nil ?_; try simp only [InBlock, Then]) | refine Tri.cF (by first | (simp only [AS.ev, go_sem]; done) | fail) ?_ | refine Tri.cT (by first | (simp only [AS.ev, go_sem]; done) | fail) ?_ | (refine Tri.skip ?_; try simp only [InBlock, Then]) | (refine Tri.exit ?_; simp only [Then, InBlock, if_true, if_false, ↓reduceIte, Nat.reduceEqDiff]) | refine Tri.seq (Tri.block ?_) | refine Tri.block ?_ | refine Tri.seq ?_ | (refine Tri.ret ?_; refine Con.fin (.inl rfl) (by simp only [Tryd.f33, cfgKM1, resA, resA1, go_sem]; rfl) (by simp only [Obs]) (by first | (simp only [kSmR, Con.of, resV, e, go_sem]; done) | fail) trivial rfl rfl))
theorem smr_sum : FSumOK Tryd.prog cfgKM1.G 33 kSmR.sum := Con.sumOK cfgKM1_ok kSmR Tryd.func33 rfl rfl (Con.of_inv _ _ _) smr_body
end
end Go.Proofs.YtjdeaphfamenaaaDoor

namespace Go.Proofs.YtjdeaphfamenaaaDoor
open Go.Vc Go.Proofs
set_option linter.unusedSimpArgs false
set_option linter.unusedVariables false
set_option maxRecDepth 10000
/-! Plain laws: unlike messages have unlike bytes. -/
theorem ofInt8 (x : Int) (h0 : 0 ≤ x) : (UInt8.ofInt x).toNat = x.toNat % 256 := by
  rw [UInt8.ofInt, UInt8.toNat_ofNat']
  omega
theorem shr8i (n : Nat) : (shrT .i64 ((n : Nat) : Int) 8 : Int) = ((n / 256 : Nat) : Int) := by
  have h := toI_shrT .i64 ((n : Nat) : Int) 8
  have e : toI .i64 (shrT .i64 ((n : Nat) : Int) 8) = (shrT .i64 ((n : Nat) : Int) 8 : Int) := rfl
  rw [← e, h]
  show Int.fdiv ((n : Nat) : Int) (2 ^ min 8 64) = _
  rw [Int.fdiv_eq_ediv_of_nonneg _ (by decide)]
  have : ((2 : Int) ^ min 8 64) = 256 := by decide
  rw [this]
  omega
theorem fl_head {f g : flK.T} {p q : List UInt8} (hf : fkOK f) (hg : fkOK g) (h : flBK f ++ p = flBK g ++ q) : f = g ∧ p = q := by
  obtain ⟨(t1 : Int), (v1 : List UInt8), u1⟩ := f
  obtain ⟨(t2 : Int), (v2 : List UInt8), u2⟩ := g
  obtain ⟨a1, a2, a3⟩ := hf
  obtain ⟨b1, b2, b3⟩ := hg
  replace a1 : 1 ≤ (t1 : Int) := a1
  replace a2 : (t1 : Int) ≤ 255 := a2
  replace a3 : List.length (α := UInt8) v1 ≤ 65535 := a3
  replace b1 : 1 ≤ (t2 : Int) := b1
  replace b2 : (t2 : Int) ≤ 255 := b2
  replace b3 : List.length (α := UInt8) v2 ≤ 65535 := b3
  have h' : UInt8.ofInt (t1 : Int) :: UInt8.ofInt (shrT .i64 ((List.length (α := UInt8) v1 : Nat) : Int) 8) :: UInt8.ofInt ((List.length (α := UInt8) v1 : Nat) : Int) :: (v1 ++ p) = UInt8.ofInt (t2 : Int) :: UInt8.ofInt (shrT .i64 ((List.length (α := UInt8) v2 : Nat) : Int) 8) :: UInt8.ofInt ((List.length (α := UInt8) v2 : Nat) : Int) :: (v2 ++ q) := h
  injection h' with e1 h'
  injection h' with e2 h'
  injection h' with e3 h'
  have c1 := congrArg UInt8.toNat e1
  have c2 := congrArg UInt8.toNat e2
  have c3 := congrArg UInt8.toNat e3
  rw [shr8i, shr8i] at c2
  rw [ofInt8 _ (by omega), ofInt8 _ (by omega)] at c1 c2 c3
  have ht : (t1 : Int) = t2 := by omega
  have hl : List.length (α := UInt8) v1 = List.length (α := UInt8) v2 := by omega
  obtain ⟨hv, hp⟩ := List.append_inj h' hl
  refine ⟨?_, hp⟩
  have hv' : v1 = v2 := hv
  have ht' : t1 = t2 := ht
  rw [hv', ht']
theorem jnK_inj : ∀ (fs gs : List flK.T), (∀ f ∈ fs, fkOK f) → (∀ g ∈ gs, fkOK g) → jnK fs = jnK gs → fs = gs
  | [], [], _, _, _ => rfl
  | [], g :: r, _, _, h => by
    have : (jnK (g :: r)).length = 0 := by rw [← h]; rfl
    have h2 : jnK (g :: r) = flBK g ++ jnK r := rfl
    rw [h2, List.length_append, flBK_len] at this
    omega
  | f :: r, [], _, _, h => by
    have : (jnK (f :: r)).length = 0 := by rw [h]; rfl
    have h2 : jnK (f :: r) = flBK f ++ jnK r := rfl
    rw [h2, List.length_append, flBK_len] at this
    omega
  | f :: r, g :: s, hf, hg, h => by
    obtain ⟨e1, e2⟩ := fl_head (p := jnK r) (q := jnK s) (hf f (List.mem_cons_self ..)) (hg g (List.mem_cons_self ..)) h
    rw [e1, jnK_inj r s (fun x hx => hf x (List.mem_cons_of_mem _ hx)) (fun x hx => hg x (List.mem_cons_of_mem _ hx)) e2]
theorem smM_eq {a b : krK.T} (h : smM a b = true) : a = b := by
  unfold smM at h
  simp only [Bool.and_eq_true, decide_eq_true_eq] at h
  obtain ⟨h1, h2, h3, h4, h5, h6, h7, h8, h9⟩ := h
  obtain ⟨a1, a2, a3, a4, a5, a6, a7, a8, a9, a10⟩ := a
  obtain ⟨b1, b2, b3, b4, b5, b6, b7, b8, b9, b10⟩ := b
  have e2 : a2 = b2 := of_decide_eq_true h2
  have e3 : a3 = b3 := of_decide_eq_true h3
  have e8 : a7 = b7 := of_decide_eq_true h8
  have e9 : a8 = b8 := of_decide_eq_true h9
  have e1 : a1 = b1 := h1
  have e4 : a4 = b4 := h4
  have e5 : a5 = b5 := h5
  have e6 : a6 = b6 := h6
  have e7 : a9 = b9 := h7
  rw [e1, e2, e3, e4, e5, e6, e7, e8, e9]
/-- A message out of its fields. -/
def dcK (fs : List flK.T) (k : Int) : krK.T := fs.tail.foldl (fun b f => stM b f.1 f.2.1) (fd0 k)
theorem fd_dec {m : krK.T} {fs : List flK.T} (h : fdR m = some fs) : fs.head? = some ((31 : Int), numS (UInt64.ofInt m.1), ()) ∧ dcK fs m.1 = m := by
  unfold fdR at h
  rw [fdS_eq] at h
  cases ha : (hasK m.1).all (vaO m) with
  | false => rw [ha] at h; cases h
  | true =>
    rw [ha, if_pos rfl] at h
    dsimp only at h
    split at h
    · rename_i hb
      injection h with h
      subst h
      rw [Bool.and_eq_true] at hb
      refine ⟨rfl, ?_⟩
      show ((hasK m.1).map fun t => ((t, vaB m t, ()) : flK.T)).foldl (fun b f => stM b f.1 f.2.1) (fd0 m.1) = m
      rw [List.foldl_map]
      exact smM_eq hb.2
    · cases h
theorem fd_inj {a b : krK.T} {fs : List flK.T} (ka : 1 ≤ (a.1 : Int) ∧ (a.1 : Int) ≤ 7) (kb : 1 ≤ (b.1 : Int) ∧ (b.1 : Int) ≤ 7) (ha : fdR a = some fs) (hb : fdR b = some fs) : a = b := by
  obtain ⟨(k1 : Int), ra⟩ := a
  obtain ⟨(k2 : Int), rb⟩ := b
  replace ka : 1 ≤ k1 ∧ k1 ≤ 7 := ka
  replace kb : 1 ≤ k2 ∧ k2 ≤ 7 := kb
  obtain ⟨h1, h2⟩ := fd_dec ha
  obtain ⟨h3, h4⟩ := fd_dec hb
  rw [h1] at h3
  injection h3 with h3
  have h5 : numS (UInt64.ofInt k1) = numS (UInt64.ofInt k2) := congrArg (fun z : flK.T => z.2.1) h3
  have h6 := sm_num k1 (by omega) (by omega)
  have h7 := sm_num k2 (by omega) (by omega)
  rw [h5, h7] at h6
  have h2' : dcK fs k1 = (k1, ra) := h2
  have h4' : dcK fs k2 = (k2, rb) := h4
  rw [← h2', ← h4', h6]
end Go.Proofs.YtjdeaphfamenaaaDoor

namespace Go.Proofs.YtjdeaphfamenaaaDoor
open Go.Vc Go.Proofs
set_option linter.unusedVariables false
set_option maxRecDepth 10000
set_option maxHeartbeats 4000000
-- SEM VcZn
-- LITE
-- ASM
/-! The law: unlike messages have unlike bytes. -/
theorem kd_one {m : krK.T} {fs : List flK.T} (h : fdR m = some fs) : 1 ≤ (m.1 : Int) ∧ (m.1 : Int) ≤ 7 := by
  have h0 : (fdR m).isSome = true := by rw [h]; rfl
  rw [fdR_isSome, Bool.and_eq_true, Bool.and_eq_true] at h0
  have h2 : (0 : Int) < (((hasK m.1).length : Nat) : Int) := of_decide_eq_true h0.2.1
  obtain ⟨(k : Int), r⟩ := m
  replace h2 : (0 : Int) < (((hasK k).length : Nat) : Int) := h2
  show 1 ≤ k ∧ k ≤ 7
  unfold hasK at h2
  by_cases k1 : k = 1
  · omega
  by_cases k2 : k = 2
  · omega
  by_cases k3 : k = 3
  · omega
  by_cases k4 : k = 4
  · omega
  by_cases k5 : k = 5
  · omega
  by_cases k6 : k = 6
  · omega
  by_cases k7 : k = 7
  · omega
  rw [if_neg k1, if_neg k2, if_neg k3, if_neg k4, if_neg k5, if_neg k6, if_neg k7] at h2
  exact absurd h2 (by decide)
theorem smR_self (a : krK.T) : smR a a = true := by
  simp [smR, strEq]
theorem smR_eq {a b : krK.T} (h : smR a b = true) : a = b := by
  unfold smR at h
  simp only [Bool.and_eq_true, decide_eq_true_eq] at h
  obtain ⟨h1, h2, h3, h4, h5, h6, h8, h9, h7⟩ := h
  obtain ⟨a1, a2, a3, a4, a5, a6, a7, a8, a9, a10⟩ := a
  obtain ⟨b1, b2, b3, b4, b5, b6, b7, b8, b9, b10⟩ := b
  have e2 : a2 = b2 := of_decide_eq_true h2
  have e3 : a3 = b3 := of_decide_eq_true h3
  have e8 : a7 = b7 := of_decide_eq_true h8
  have e9 : a8 = b8 := of_decide_eq_true h9
  have e1 : a1 = b1 := h1
  have e4 : a4 = b4 := h4
  have e5 : a5 = b5 := h5
  have e6 : a6 = b6 := h6
  have e7 : a9 = b9 := h7
  rw [e1, e2, e3, e4, e5, e6, e7, e8, e9]
theorem apart_eq {a b : krK.T} {fa fb : List flK.T} (ha : fdR a = some fa) (hb : fdR b = some fb) : strEq (jnK fa) (jnK fb) = smR a b := by
  cases h : smR a b with
  | true =>
    have e := smR_eq h
    rw [e, hb] at ha
    injection ha with ha
    rw [ha]
    exact decide_eq_true rfl
  | false =>
    refine decide_eq_false fun e => ?_
    have e2 := jnK_inj fa fb (fdR_ok ha).2 (fdR_ok hb).2 e
    rw [e2] at ha
    have e3 := fd_inj (kd_one ha) (kd_one hb) ha hb
    rw [e3, smR_self] at h
    cases h
theorem grm_no {m : krK.T} (h : grM m = false) : List.length (α := UInt8) m.2.1 ≤ 300 ∧ List.length (α := UInt8) m.2.2.1 ≤ 300 ∧ List.length (α := UInt8) m.2.2.2.2.2.2.1 ≤ 4000 ∧ List.length (α := UInt8) m.2.2.2.2.2.2.2.1 ≤ 4000 := by
  unfold grM at h
  simp only [Bool.or_eq_false_iff, decide_eq_false_iff_not] at h
  exact ⟨by omega, by omega, by omega, by omega⟩
def kLKa : Con := Con.of [.v krK, .v krK] (fun _ => []) (fun _ => ⟨.bool true, []⟩)
def cfgKO1 : Cfg2 := { ty := tyTabM, fn := fun | 30 => some kKs.sum | 31 => some kGrM.sum | 32 => some kWr.sum | 33 => some kSmR.sum | _ => none, G := gNone, pin := [], eq := fun _ => none }
theorem cfgKO1_ok : CfgOK Tryd.prog cfgKO1 := ⟨tyTabM_ok, (fun f s h => by
  simp only [cfgKO1] at h
  split at h
  · injection h with h; subst h; exact .inl ksp_sum
  · injection h with h; subst h; exact .inl grm_sum
  · injection h with h; subst h; exact .inl wr_sum
  · injection h with h; subst h; exact .inl smr_sum
  · cases h), (fun t d h => by cases h)⟩
section
attribute [local go_sem] Tryd.f11 kLKa kKs kGrM kWr kSmR cfgKO1 tyTabM tyTabK tyTab
theorem lka_body (p : kLKa.Par) (hp : ∀ q ∈ kLKa.pre p, q) : BodyOK Tryd.prog cfgKO1 Tryd.f11 (Tryd.f11.body.get rfl) kLKa p := by
  obtain ⟨⟨(akd : Int), (acl : List UInt8), (asv : List UInt8), (ano : UInt64), (aen : Int), (afl : Int), (ati : List UInt8), (ase : List UInt8), (aco : Int), u1⟩, ⟨(bkd : Int), (bcl : List UInt8), (bsv : List UInt8), (bno : UInt64), (ben : Int), (bfl : Int), (bti : List UInt8), (bse : List UInt8), (bco : Int), u2⟩, u⟩ := p
  refine ⟨?_, Nat.zero_le _, rfl, rfl⟩
  show Tri _ _ _ (Code.seq _ (Code.seq (Code.seq _ (Code.cond _ (Code.seq _ _) _)) (Code.seq (Code.seq _ (Code.cond _ (Code.seq _ _) _)) (Code.seq _ (Code.seq _ (Code.seq _ _)))))) _
  cases g1 : grM (akd, acl, asv, ano, aen, afl, ati, ase, aco, u1) with
  | true =>
    refine Tri.at (by first | (simp only [Con.start, go_sem, Nat.reduceSub, Nat.reduceAdd, List.reduceReplicate]; rfl) | rfl) ?_
    repeat (first | ((first | refine Tri.seq (Tri.regT (cfgKO1_ok.pins _) ?_) | refine Tri.rgnT (cfgKO1_ok.pins _) ?_); (repeat (first | refine RunT.one (by first | exact wantedA_none rfl | (simp only [go_sem, Bool.true_beq]; done) | (simp only [go_sem, Bool.true_beq]; with_reducible rfl)) (by simp (maxSteps := 2000000) (disch := first | decide | omega | (simp only [List.length_append, List.length_cons, List.length_nil, List.length_take, List.length_drop]; omega)) only [g1, go_sem, ↓reduceIte, Nat.reduceSub, Nat.reduceAdd]; rfl) (by simp only [go_sem]; rfl) (by first | exact True.intro | (simp only [Obs, and_true]; omega) | (simp [Obs]; done) | (simp [Obs, AV.sizeL, AV.size, Kd.sz]; omega) | (simp only [Obs, and_true, true_and]; (repeat' apply And.intro) <;> first | omega | assumption)) ?_ | refine RunT.not (by first | (simp only [go_sem, Bool.true_beq]; done) | (simp only [go_sem]; with_reducible rfl)) (by simp only [go_sem]; rfl) ?_)); refine RunT.nil ?_; try simp only [InBlock, Then]) | refine Tri.cF (by first | (simp only [AS.ev, go_sem]; done) | fail) ?_ | refine Tri.cT (by first | (simp only [AS.ev, go_sem]; done) | fail) ?_ | (refine Tri.skip ?_; try simp only [Then]) | (refine Tri.exit ?_; simp only [Then, InBlock, if_true, if_false, ↓reduceIte, Nat.reduceEqDiff]) | refine Tri.seq (Tri.block ?_) | refine Tri.block ?_ | refine Tri.seq ?_ | (refine Tri.ret ?_; refine Con.fin (.inl rfl) (by simp only [Tryd.f11, cfgKO1, resA, resA1, go_sem]; rfl) (by simp only [Obs]) (by first | (simp only [kLKa, Con.of, resV, go_sem]; done) | fail) trivial rfl rfl))
  | false =>
  cases g2 : grM (bkd, bcl, bsv, bno, ben, bfl, bti, bse, bco, u2) with
  | true =>
    refine Tri.at (by first | (simp only [Con.start, go_sem, Nat.reduceSub, Nat.reduceAdd, List.reduceReplicate]; rfl) | rfl) ?_
    repeat (first | ((first | refine Tri.seq (Tri.regT (cfgKO1_ok.pins _) ?_) | refine Tri.rgnT (cfgKO1_ok.pins _) ?_); (repeat (first | refine RunT.one (by first | exact wantedA_none rfl | (simp only [go_sem, Bool.false_beq]; done) | (simp only [go_sem]; with_reducible rfl)) (by simp (maxSteps := 2000000) (disch := first | decide | omega | (simp only [List.length_append, List.length_cons, List.length_nil, List.length_take, List.length_drop]; omega)) only [g1, g2, go_sem, ↓reduceIte, Nat.reduceSub, Nat.reduceAdd]; rfl) (by simp only [go_sem]; rfl) (by first | exact True.intro | (simp only [Obs, and_true]; omega) | (simp [Obs]; done) | (simp [Obs, AV.sizeL, AV.size, Kd.sz]; omega) | (simp only [Obs, and_true, true_and]; (repeat' apply And.intro) <;> first | omega | assumption)) ?_ | refine RunT.not (by first | (simp only [go_sem]; done) | (simp only [go_sem]; with_reducible rfl)) (by simp only [go_sem, Nat.reduceBEq, Nat.reduceEqDiff, Nat.reduceAdd, ↓reduceIte, reduceCtorEq, List.reduceReplicate, List.replicate]; rfl) ?_)); refine RunT.nil ?_; try simp only [InBlock, Then]) | refine Tri.cF (by first | (simp only [AS.ev, go_sem]; done) | fail) ?_ | refine Tri.cT (by first | (simp only [AS.ev, go_sem]; done) | fail) ?_ | (refine Tri.skip ?_; try simp only [Then]) | (refine Tri.exit ?_; simp only [Then, InBlock, if_true, if_false, ↓reduceIte, Nat.reduceEqDiff]) | refine Tri.seq (Tri.block ?_) | refine Tri.block ?_ | refine Tri.seq ?_ | (refine Tri.ret ?_; refine Con.fin (.inl rfl) (by simp only [Tryd.f11, cfgKO1, resA, resA1, go_sem]; rfl) (by simp only [Obs]) (by first | (simp only [kLKa, Con.of, resV, go_sem]; done) | fail) trivial rfl rfl))
  | false =>
  obtain ⟨a1, a2, a3, a4⟩ := grm_no g1
  obtain ⟨b1, b2, b3, b4⟩ := grm_no g2
  replace a1 : acl.length ≤ 300 := a1
  replace a2 : asv.length ≤ 300 := a2
  replace a3 : ati.length ≤ 4000 := a3
  replace a4 : ase.length ≤ 4000 := a4
  replace b1 : bcl.length ≤ 300 := b1
  replace b2 : bsv.length ≤ 300 := b2
  replace b3 : bti.length ≤ 4000 := b3
  replace b4 : bse.length ≤ 4000 := b4
  have z1 : decide ((0 : Int) = 0) = true := rfl
  have z2 : decide ((1 : Int) = 0) = false := rfl
  cases ha : fdR (akd, acl, asv, ano, aen, afl, ati, ase, aco, u1) with
  | none =>
    have e1 : wrV (akd, acl, asv, ano, aen, afl, ati, ase, aco, u1) = .tuple [.nilsl, .int .i64 (1 : Int)] := by rw [wrV, ha]
    cases hb : fdR (bkd, bcl, bsv, bno, ben, bfl, bti, bse, bco, u2) with
    | none =>
      have e2 : wrV (bkd, bcl, bsv, bno, ben, bfl, bti, bse, bco, u2) = .tuple [.nilsl, .int .i64 (1 : Int)] := by rw [wrV, hb]
      refine Tri.at (by first | (simp only [Con.start, go_sem, Nat.reduceSub, Nat.reduceAdd, List.reduceReplicate]; rfl) | rfl) ?_
      repeat (first | ((first | refine Tri.seq (Tri.regT (cfgKO1_ok.pins _) ?_) | refine Tri.rgnT (cfgKO1_ok.pins _) ?_); (repeat (first | refine RunT.one (by first | exact wantedA_none rfl | (simp only [go_sem, Bool.false_beq]; done) | (simp only [go_sem]; with_reducible rfl)) (by simp (maxSteps := 2000000) (disch := first | decide | omega | (simp only [List.length_append, List.length_cons, List.length_nil, List.length_take, List.length_drop]; omega)) only [g1, g2, e1, e2, go_sem, ↓reduceIte, Nat.reduceSub, Nat.reduceAdd]; rfl) (by simp only [go_sem]; rfl) (by first | exact True.intro | (simp only [Obs, and_true]; omega) | (simp [Obs]; done) | (simp [Obs, AV.sizeL, AV.size, Kd.sz]; omega) | (simp only [Obs, and_true, true_and]; (repeat' apply And.intro) <;> first | omega | assumption)) ?_ | refine RunT.not (by first | (simp only [go_sem]; done) | (simp only [go_sem]; with_reducible rfl)) (by simp only [go_sem, Nat.reduceBEq, Nat.reduceEqDiff, Nat.reduceAdd, ↓reduceIte, reduceCtorEq, List.reduceReplicate, List.replicate]; rfl) ?_)); refine RunT.nil ?_; try simp only [InBlock, Then]) | ((first | refine Tri.seq (Tri.drwT (mixed) (cfgKO1_ok.pins _) ?_) | refine Tri.drnT (mixed) (cfgKO1_ok.pins _) ?_); (repeat (first | refine RunD.one (by first | exact wantedA_none rfl | (simp only [go_sem, Bool.true_beq]; done) | (simp only [go_sem, Bool.true_beq]; with_reducible rfl)) (by simp (maxSteps := 2000000) (disch := first | decide | omega | (simp only [List.length_append, List.length_cons, List.length_nil, List.length_take, List.length_drop]; omega)) only [go_sem, Int.reduceEq]; rfl) (by simp only [go_sem]; rfl) (by first | exact True.intro | (simp only [Obs, and_true, true_and]; omega) | (simp [Obs, AV.sizeL, AV.size, Kd.sz]; done) | (simp [Obs, AV.sizeL, AV.size, Kd.sz]; omega) | (simp only [Obs, and_true, true_and]; (repeat' apply And.intro) <;> first | omega | assumption)) ?_ | refine RunD.not (by first | (simp only [go_sem, Bool.true_beq]; done) | (simp only [go_sem]; with_reducible rfl)) (by simp only [go_sem]; rfl) ?_)); refine RunD.nil ?_; refine ⟨by kernel_rfl, ?_⟩; try simp only [InBlock, Then]) | refine Tri.cF (by first | (simp only [AS.ev, go_sem]; done) | fail) ?_ | refine Tri.cT (by first | (simp only [AS.ev, go_sem]; done) | fail) ?_ | (refine Tri.skip ?_; try simp only [Then]) | (refine Tri.exit ?_; simp only [Then, InBlock, if_true, if_false, ↓reduceIte, Nat.reduceEqDiff]) | refine Tri.seq (Tri.block ?_) | refine Tri.block ?_ | refine Tri.seq ?_ | (refine Tri.ret ?_; refine Con.fin (.inl rfl) (by simp only [Tryd.f11, cfgKO1, resA, resA1, go_sem]; rfl) (by simp only [Obs]) (by first | (simp only [kLKa, Con.of, resV, go_sem]; done) | fail) trivial rfl rfl))
    | some fb =>
      have e2 : wrV (bkd, bcl, bsv, bno, ben, bfl, bti, bse, bco, u2) = .tuple [.pure (.slice true (.int .u8)) (jnK fb), .int .i64 (0 : Int)] := by rw [wrV, hb]
      refine Tri.at (by first | (simp only [Con.start, go_sem, Nat.reduceSub, Nat.reduceAdd, List.reduceReplicate]; rfl) | rfl) ?_
      repeat (first | ((first | refine Tri.seq (Tri.regT (cfgKO1_ok.pins _) ?_) | refine Tri.rgnT (cfgKO1_ok.pins _) ?_); (repeat (first | refine RunT.one (by first | exact wantedA_none rfl | (simp only [go_sem, Bool.false_beq]; done) | (simp only [go_sem]; with_reducible rfl)) (by simp (maxSteps := 2000000) (disch := first | decide | omega | (simp only [List.length_append, List.length_cons, List.length_nil, List.length_take, List.length_drop]; omega)) only [g1, g2, e1, e2, go_sem, ↓reduceIte, Nat.reduceSub, Nat.reduceAdd]; rfl) (by simp only [go_sem]; rfl) (by first | exact True.intro | (simp only [Obs, and_true]; omega) | (simp [Obs]; done) | (simp [Obs, AV.sizeL, AV.size, Kd.sz]; omega) | (simp only [Obs, and_true, true_and]; (repeat' apply And.intro) <;> first | omega | assumption)) ?_ | refine RunT.not (by first | (simp only [go_sem]; done) | (simp only [go_sem]; with_reducible rfl)) (by simp only [go_sem, Nat.reduceBEq, Nat.reduceEqDiff, Nat.reduceAdd, ↓reduceIte, reduceCtorEq, List.reduceReplicate, List.replicate]; rfl) ?_)); refine RunT.nil ?_; try simp only [InBlock, Then]) | ((first | refine Tri.seq (Tri.drwT (mixed) (cfgKO1_ok.pins _) ?_) | refine Tri.drnT (mixed) (cfgKO1_ok.pins _) ?_); (repeat (first | refine RunD.one (by first | exact wantedA_none rfl | (simp only [go_sem, Bool.true_beq]; done) | (simp only [go_sem, Bool.true_beq]; with_reducible rfl)) (by simp (maxSteps := 2000000) (disch := first | decide | omega | (simp only [List.length_append, List.length_cons, List.length_nil, List.length_take, List.length_drop]; omega)) only [go_sem, Int.reduceEq]; rfl) (by simp only [go_sem]; rfl) (by first | exact True.intro | (simp only [Obs, and_true, true_and]; omega) | (simp [Obs, AV.sizeL, AV.size, Kd.sz]; done) | (simp [Obs, AV.sizeL, AV.size, Kd.sz]; omega) | (simp only [Obs, and_true, true_and]; (repeat' apply And.intro) <;> first | omega | assumption)) ?_ | refine RunD.not (by first | (simp only [go_sem, Bool.true_beq]; done) | (simp only [go_sem]; with_reducible rfl)) (by simp only [go_sem]; rfl) ?_)); refine RunD.nil ?_; refine ⟨by kernel_rfl, ?_⟩; try simp only [InBlock, Then]) | refine Tri.cF (by first | (simp only [AS.ev, go_sem]; done) | fail) ?_ | refine Tri.cT (by first | (simp only [AS.ev, go_sem]; done) | fail) ?_ | (refine Tri.skip ?_; try simp only [Then]) | (refine Tri.exit ?_; simp only [Then, InBlock, if_true, if_false, ↓reduceIte, Nat.reduceEqDiff]) | refine Tri.seq (Tri.block ?_) | refine Tri.block ?_ | refine Tri.seq ?_ | (refine Tri.ret ?_; refine Con.fin (.inl rfl) (by simp only [Tryd.f11, cfgKO1, resA, resA1, go_sem]; rfl) (by simp only [Obs]) (by first | (simp only [kLKa, Con.of, resV, go_sem]; done) | fail) trivial rfl rfl))
  | some fa =>
    have e1 : wrV (akd, acl, asv, ano, aen, afl, ati, ase, aco, u1) = .tuple [.pure (.slice true (.int .u8)) (jnK fa), .int .i64 (0 : Int)] := by rw [wrV, ha]
    cases hb : fdR (bkd, bcl, bsv, bno, ben, bfl, bti, bse, bco, u2) with
    | none =>
      have e2 : wrV (bkd, bcl, bsv, bno, ben, bfl, bti, bse, bco, u2) = .tuple [.nilsl, .int .i64 (1 : Int)] := by rw [wrV, hb]
      refine Tri.at (by first | (simp only [Con.start, go_sem, Nat.reduceSub, Nat.reduceAdd, List.reduceReplicate]; rfl) | rfl) ?_
      repeat (first | ((first | refine Tri.seq (Tri.regT (cfgKO1_ok.pins _) ?_) | refine Tri.rgnT (cfgKO1_ok.pins _) ?_); (repeat (first | refine RunT.one (by first | exact wantedA_none rfl | (simp only [go_sem, Bool.false_beq]; done) | (simp only [go_sem]; with_reducible rfl)) (by simp (maxSteps := 2000000) (disch := first | decide | omega | (simp only [List.length_append, List.length_cons, List.length_nil, List.length_take, List.length_drop]; omega)) only [g1, g2, e1, e2, go_sem, ↓reduceIte, Nat.reduceSub, Nat.reduceAdd]; rfl) (by simp only [go_sem]; rfl) (by first | exact True.intro | (simp only [Obs, and_true]; omega) | (simp [Obs]; done) | (simp [Obs, AV.sizeL, AV.size, Kd.sz]; omega) | (simp only [Obs, and_true, true_and]; (repeat' apply And.intro) <;> first | omega | assumption)) ?_ | refine RunT.not (by first | (simp only [go_sem]; done) | (simp only [go_sem]; with_reducible rfl)) (by simp only [go_sem, Nat.reduceBEq, Nat.reduceEqDiff, Nat.reduceAdd, ↓reduceIte, reduceCtorEq, List.reduceReplicate, List.replicate]; rfl) ?_)); refine RunT.nil ?_; try simp only [InBlock, Then]) | ((first | refine Tri.seq (Tri.drwT (mixed) (cfgKO1_ok.pins _) ?_) | refine Tri.drnT (mixed) (cfgKO1_ok.pins _) ?_); (repeat (first | refine RunD.one (by first | exact wantedA_none rfl | (simp only [go_sem, Bool.true_beq, Bool.false_beq]; done) | (simp only [go_sem, Bool.true_beq]; with_reducible rfl)) (by simp (maxSteps := 2000000) (disch := first | decide | omega | (simp only [List.length_append, List.length_cons, List.length_nil, List.length_take, List.length_drop]; omega)) only [go_sem, Int.reduceEq]; rfl) (by simp only [go_sem]; rfl) (by first | exact True.intro | (simp only [Obs, and_true, true_and]; omega) | (simp [Obs, AV.sizeL, AV.size, Kd.sz]; done) | (simp [Obs, AV.sizeL, AV.size, Kd.sz]; omega) | (simp only [Obs, and_true, true_and]; (repeat' apply And.intro) <;> first | omega | assumption)) ?_ | refine RunD.not (by first | (simp only [go_sem, Bool.true_beq]; done) | (simp only [go_sem]; with_reducible rfl)) (by simp only [go_sem]; rfl) ?_)); refine RunD.nil ?_; refine ⟨by kernel_rfl, ?_⟩; try simp only [InBlock, Then]) | refine Tri.cF (by first | (simp only [AS.ev, go_sem]; done) | fail) ?_ | refine Tri.cT (by first | (simp only [AS.ev, go_sem]; done) | fail) ?_ | (refine Tri.skip ?_; try simp only [Then]) | (refine Tri.exit ?_; simp only [Then, InBlock, if_true, if_false, ↓reduceIte, Nat.reduceEqDiff]) | refine Tri.seq (Tri.block ?_) | refine Tri.block ?_ | refine Tri.seq ?_ | (refine Tri.ret ?_; refine Con.fin (.inl rfl) (by simp only [Tryd.f11, cfgKO1, resA, resA1, go_sem]; rfl) (by simp only [Obs]) (by first | (simp only [kLKa, Con.of, resV, go_sem]; done) | fail) trivial rfl rfl))
    | some fb =>
      have e2 : wrV (bkd, bcl, bsv, bno, ben, bfl, bti, bse, bco, u2) = .tuple [.pure (.slice true (.int .u8)) (jnK fb), .int .i64 (0 : Int)] := by rw [wrV, hb]
      have e3 := apart_eq ha hb
      cases hs : smR (akd, acl, asv, ano, aen, afl, ati, ase, aco, u1) (bkd, bcl, bsv, bno, ben, bfl, bti, bse, bco, u2)
      all_goals
        rw [hs] at e3
        refine Tri.at (by first | (simp only [Con.start, go_sem, Nat.reduceSub, Nat.reduceAdd, List.reduceReplicate]; rfl) | rfl) ?_
        repeat (first | ((first | refine Tri.seq (Tri.regT (cfgKO1_ok.pins _) ?_) | refine Tri.rgnT (cfgKO1_ok.pins _) ?_); (repeat (first | refine RunT.one (by first | exact wantedA_none rfl | (simp only [go_sem, Bool.false_beq]; done) | (simp only [go_sem]; with_reducible rfl)) (by simp (maxSteps := 2000000) (disch := first | decide | omega | (simp only [List.length_append, List.length_cons, List.length_nil, List.length_take, List.length_drop]; omega)) only [g1, g2, e1, e2, go_sem, ↓reduceIte, Nat.reduceSub, Nat.reduceAdd]; rfl) (by simp only [go_sem]; rfl) (by first | exact True.intro | (simp only [Obs, and_true]; omega) | (simp [Obs]; done) | (simp [Obs, AV.sizeL, AV.size, Kd.sz]; omega) | (simp only [Obs, and_true, true_and]; (repeat' apply And.intro) <;> first | omega | assumption)) ?_ | refine RunT.not (by first | (simp only [go_sem]; done) | (simp only [go_sem]; with_reducible rfl)) (by simp only [go_sem, Nat.reduceBEq, Nat.reduceEqDiff, Nat.reduceAdd, ↓reduceIte, reduceCtorEq, List.reduceReplicate, List.replicate]; rfl) ?_)); refine RunT.nil ?_; try simp only [InBlock, Then]) | ((first | refine Tri.seq (Tri.drwT (mixed) (cfgKO1_ok.pins _) ?_) | refine Tri.drnT (mixed) (cfgKO1_ok.pins _) ?_); (repeat (first | refine RunD.one (by first | exact wantedA_none rfl | (simp only [go_sem, Bool.false_beq]; done) | (simp only [go_sem]; with_reducible rfl)) (by simp (maxSteps := 2000000) (disch := first | decide | omega | (simp only [List.length_append, List.length_cons, List.length_nil, List.length_take, List.length_drop]; omega)) only [e3, hs, go_sem, ↓reduceIte, Nat.reduceSub, Nat.reduceAdd, Nat.reduceEqDiff]; rfl) (by simp only [go_sem]; rfl) (by first | exact True.intro | (simp only [Obs, and_true]; omega) | (simp [Obs]; done) | (simp [Obs, AV.sizeL, AV.size, Kd.sz]; omega) | (simp only [Obs, and_true, true_and]; (repeat' apply And.intro) <;> first | omega | assumption)) ?_ | refine RunD.not (by first | (simp only [go_sem]; done) | (simp only [go_sem]; with_reducible rfl)) (by simp only [go_sem, Nat.reduceBEq, Nat.reduceEqDiff, Nat.reduceAdd, ↓reduceIte, reduceCtorEq, List.reduceReplicate, List.replicate]; rfl) ?_)); refine RunD.nil ?_; refine ⟨by kernel_rfl, ?_⟩; try simp only [InBlock, Then]) | refine Tri.cF (by first | (simp only [AS.ev, go_sem]; done) | fail) ?_ | refine Tri.cT (by first | (simp only [AS.ev, go_sem]; done) | fail) ?_ | (refine Tri.skip ?_; try simp only [Then]) | (refine Tri.exit ?_; simp only [Then, InBlock, if_true, if_false, ↓reduceIte, Nat.reduceEqDiff]) | refine Tri.seq (Tri.block ?_) | refine Tri.block ?_ | refine Tri.seq ?_ | (refine Tri.ret ?_; refine Con.fin (.inl rfl) (by simp only [Tryd.f11, cfgKO1, resA, resA1, go_sem]; rfl) (by simp only [Obs]) (by first | (simp only [kLKa, Con.of, resV, go_sem]; done) | fail) trivial rfl rfl))
theorem lka_sum : FSumOK Tryd.prog cfgKO1.G 11 kLKa.sum := Con.sumOK cfgKO1_ok kLKa Tryd.func11 rfl rfl (Con.of_inv _ _ _) lka_body
end
end Go.Proofs.YtjdeaphfamenaaaDoor
