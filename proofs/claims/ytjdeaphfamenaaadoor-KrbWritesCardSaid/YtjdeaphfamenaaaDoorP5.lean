/- Part of a proof: messages are written as the document says, and what was written is read again -/
import Derived.Test.YtjdeaphfamenaaaDoorP4
import Derived.Test.YtjdeaphfamenaaaDoorVc5
set_option linter.unusedVariables false
set_option linter.unusedSimpArgs false
set_option linter.unusedSectionVars false
namespace Go.Proofs.YtjdeaphfamenaaaDoor
open Go.Vc Go.Proofs
set_option maxRecDepth 10000
set_option maxHeartbeats 4000000
def tyTabX : TypeId → Option TyI := fun t => if t = 120 then some (TyI.kda 47 9 216) else tyTabM t
theorem tyTabX_ok : TysOK Tryd.prog tyTabX := by
  intro t i h
  unfold tyTabX at h
  split at h
  · rename_i e
    injection h with h
    subst h e
    exact TyOK.kda Tryd.underlying120 (by kernel_rfl)
  · exact tyTabM_ok t i h
def rV (m : krK.T) : List (List UInt8) := [numS (UInt64.ofInt m.1), m.2.1, m.2.2.1, numS m.2.2.2.1, numS (UInt64.ofInt m.2.2.2.2.1), numS (UInt64.ofInt m.2.2.2.2.2.1), m.2.2.2.2.2.2.1, m.2.2.2.2.2.2.2.1, numS (UInt64.ofInt m.2.2.2.2.2.2.2.2.1)]
def rJ (m : krK.T) : Nat → List UInt8
  | 0 => []
  | i + 1 => rJ m i ++ (if hsM m.1 ((31 + i : Nat) : Int) = true then rflB ((31 + i : Nat) : Int) ((rV m).getD i []) else [])
theorem rV_len {m : krK.T} (a1 : List.length (α := UInt8) m.2.1 ≤ 60000) (a2 : List.length (α := UInt8) m.2.2.1 ≤ 60000) (a3 : List.length (α := UInt8) m.2.2.2.2.2.2.1 ≤ 60000) (a4 : List.length (α := UInt8) m.2.2.2.2.2.2.2.1 ≤ 60000) (i : Nat) : ((rV m).getD i []).length ≤ 60000 := by
  have hn : ∀ n, (numS n).length ≤ 60000 := fun n => Nat.le_trans (numS_len n) (by decide)
  rw [List.getD_eq_getElem?_getD]
  cases h : (rV m)[i]? with
  | none => exact Nat.zero_le _
  | some v =>
    have hm := List.mem_of_getElem? h
    simp only [rV, List.mem_cons, List.not_mem_nil, or_false] at hm
    show v.length ≤ 60000
    rcases hm with rfl | rfl | rfl | rfl | rfl | rfl | rfl | rfl | rfl
    · exact hn _
    · exact a1
    · exact a2
    · exact hn _
    · exact hn _
    · exact hn _
    · exact a3
    · exact a4
    · exact hn _
theorem rflB_len (t : Int) (v : List UInt8) : (rflB t v).length = 3 + v.length := by rw [rflB, List.length_append]; rfl
theorem rJ_len {m : krK.T} (h : ∀ i, ((rV m).getD i []).length ≤ 60000) : ∀ i, (rJ m i).length ≤ i * 60003
  | 0 => Nat.zero_le _
  | i + 1 => by
    have h1 := rJ_len h i
    have h2 := h i
    rw [rJ, List.length_append, Nat.add_mul]
    split
    · rw [rflB_len]; omega
    · exact Nat.le_trans h1 (Nat.le_add_right _ _)
def rwV (m : krK.T) : AV := if (fdR m).isSome = true then .tuple [.pure (.slice true (.int .u8)) (rJ m 9), .int .i64 (0 : Int)] else .tuple [.pure (.slice true (.int .u8)) [], .int .i64 (1 : Int)]
def kRWr : Con := Con.of [.v krK] (fun x => [List.length (α := UInt8) x.1.2.1 ≤ 60000, List.length (α := UInt8) x.1.2.2.1 ≤ 60000, List.length (α := UInt8) x.1.2.2.2.2.2.2.1 ≤ 60000, List.length (α := UInt8) x.1.2.2.2.2.2.2.2.1 ≤ 60000]) (fun x => ⟨rwV x.1, []⟩)
def cfgKZ1 : Cfg2 := { ty := tyTabX, fn := fun | 35 => some kHs.sum | 77 => some kRRt.sum | 78 => some kRNum.sum | 62 => some kRFld.sum | _ => none, G := gNone, pin := [], eq := fun _ => none }
theorem cfgKZ1_ok : CfgOK Tryd.prog cfgKZ1 := ⟨tyTabX_ok, (fun f s h => by
  simp only [cfgKZ1] at h
  split at h
  · injection h with h; subst h; exact .inl hs_sum
  · injection h with h; subst h; exact .inl rrt_sum
  · injection h with h; subst h; exact .inl rnu_sum
  · injection h with h; subst h; exact .inl rfd_sum
  · cases h), (fun t d h => by cases h)⟩
section
attribute [local go_sem] Tryd.f43 kRWr kHs kRRt kRNum kRFld cfgKZ1 tyTabX tyTabM tyTabK tyTab
theorem rwr_body (p : kRWr.Par) (hp : ∀ q ∈ kRWr.pre p, q) : BodyOK Tryd.prog cfgKZ1 Tryd.f43 (Tryd.f43.body.get rfl) kRWr p := by
  obtain ⟨⟨(kd : Int), (cl : List UInt8), (sv : List UInt8), (no : UInt64), (en : Int), (fl : Int), (ti : List UInt8), (se : List UInt8), (co : Int), u1⟩, u⟩ := p
  obtain ⟨a1, a2, a3, a4, _⟩ := Obs.of hp
  replace a1 : cl.length ≤ 60000 := a1
  replace a2 : sv.length ≤ 60000 := a2
  replace a3 : ti.length ≤ 60000 := a3
  replace a4 : se.length ≤ 60000 := a4
  refine ⟨?_, Nat.zero_le _, (by show (rwV (kd, cl, sv, no, en, fl, ti, se, co, u1)).strict = true; unfold rwV; split <;> rfl), rfl⟩
  show Tri _ _ _ (Code.seq _ (Code.seq (Code.seq _ (Code.cond _ (Code.seq _ _) _)) (Code.seq _ (Code.seq _ (Code.seq (Code.seq _ (Code.block _ (Code.loop (Code.seq (Code.seq _ (Code.cond _ _ _)) (Code.seq (Code.block _ (Code.seq _ (Code.cond _ _ _))) _))))) (Code.seq _ _)))))) _
  have tk : ∀ l : List UInt8, List.take l.length l = l := fun l => List.take_length
  cases hr : (fdR (kd, cl, sv, no, en, fl, ti, se, co, u1)).isSome with
  | false =>
    have e1 : rwV (kd, cl, sv, no, en, fl, ti, se, co, u1) = .tuple [.pure (.slice true (.int .u8)) [], .int .i64 (1 : Int)] := by rw [rwV, hr]; rfl
    refine Tri.at (by first | (simp only [hr, Con.start, go_sem]; rfl) | rfl) ?_
    repeat (first | ((first | refine Tri.seq (Tri.regT (cfgKZ1_ok.pins _) ?_) | refine Tri.rgnT (cfgKZ1_ok.pins _) ?_); (repeat (first | refine RunT.oneA (hp := by simp (maxSteps := 2000000) (disch := first | decide | omega | (simp only [List.length_append, List.length_cons, List.length_nil, List.length_take, List.length_drop]; omega)) only [hr, go_sem]; rfl) (h := ?_) | refine RunT.notA (h := ?_))); refine RunT.nil ?_; try simp only [InBlock, Then]) | refine Tri.cF (by first | (simp only [hr, go_sem]; done) | fail) ?_ | refine Tri.cT (by first | (simp only [hr, go_sem]; done) | fail) ?_ | (refine Tri.skip ?_; try simp only [InBlock, Then]) | (refine Tri.exit ?_; simp only [Then, InBlock, if_true, if_false, ↓reduceIte, Nat.reduceEqDiff]) | refine Tri.seq (Tri.block ?_) | refine Tri.block ?_ | refine Tri.seq ?_ | (refine Tri.ret ?_; refine Con.fin (.inl rfl) (by simp only [Tryd.f43, cfgKZ1, resA, resA1, go_sem]; rfl) (by simp only [Obs, and_true, true_and]) (by first | (simp only [kRWr, Con.of, Con.ofO, resV, hr, go_sem]; done) | fail) trivial rfl rfl))
    refine Tri.rel true 1 rfl ?_ rfl rfl ?_
    · simp only [AS.blk, go_sem]
      repeat' constructor
    refine Tri.at (by first | (simp only [hr, Con.start, go_sem]; rfl) | rfl) ?_
    refine Tri.ret ?_
    refine Con.fin (.inl rfl) (by simp only [Tryd.f43, cfgKZ1, resA, resA1, go_sem]; rfl) (by simp only [Obs, and_true, true_and]) ?_ ?_ ?_ rfl
    · exact e1.symm
    · exact True.intro
    · show (AS.mk [some (rwV (kd, cl, sv, no, en, fl, ti, se, co, u1))] []).closed = true
      rw [e1]; rfl
  | true =>
    refine Tri.at (by first | (simp only [hr, Con.start, go_sem]; rfl) | rfl) ?_
    repeat (first | ((first | refine Tri.seq (Tri.regT (cfgKZ1_ok.pins _) ?_) | refine Tri.rgnT (cfgKZ1_ok.pins _) ?_); (repeat (first | refine RunT.oneA (hp := by simp (maxSteps := 2000000) (disch := first | decide | omega | (simp only [List.length_append, List.length_cons, List.length_nil, List.length_take, List.length_drop]; omega)) only [hr, go_sem]; rfl) (h := ?_) | refine RunT.notA (h := ?_))); refine RunT.nil ?_; try simp only [InBlock, Then]) | ((first | refine Tri.seq (Tri.drwT (mixed) (cfgKZ1_ok.pins _) ?_) | refine Tri.drnT (mixed) (cfgKZ1_ok.pins _) ?_); (repeat (first | refine RunD.oneA (hp := by simp (maxSteps := 2000000) (disch := first | decide | omega | (simp only [List.length_append, List.length_cons, List.length_nil, List.length_take, List.length_drop]; omega)) only [hr, go_sem]; rfl) (h := ?_) | refine RunD.notA (h := ?_))); refine RunD.nil ?_; refine ⟨by kernel_rfl, ?_⟩; try simp only [InBlock, Then]) | refine Tri.cF (by first | (simp only [hr, go_sem]; done) | fail) ?_ | refine Tri.cT (by first | (simp only [hr, go_sem]; done) | fail) ?_ | (refine Tri.skip ?_; try simp only [InBlock, Then]) | (refine Tri.exit ?_; simp only [Then, InBlock, if_true, if_false, ↓reduceIte, Nat.reduceEqDiff]) | refine Tri.seq (Tri.block ?_) | refine Tri.block ?_ | refine Tri.seq ?_ | (refine Tri.ret ?_; refine Con.fin (.inl rfl) (by simp only [Tryd.f43, cfgKZ1, resA, resA1, go_sem]; rfl) (by simp only [Obs, and_true, true_and]) (by first | (simp only [kRWr, Con.of, Con.ofO, resV, hr, go_sem]; done) | fail) trivial rfl rfl))
    refine Tri.rel true 1 rfl ?_ rfl rfl ?_
    · simp only [AS.blk, go_sem]
      repeat' constructor
    refine Tri.at (by first | (simp only [tk, Con.start, go_sem]; rfl) | rfl) ?_
    refine Tri.rel true 2 rfl ?_ rfl rfl ?_
    · simp only [AS.blk, go_sem]
      repeat' constructor
    refine Tri.at (by first | (simp only [tk, Con.start, go_sem]; rfl) | rfl) ?_
    refine Tri.fold 3 (.slice true (.int .u8)) rfl (by simp only [go_sem]; rfl) rfl ?_
    refine Tri.at (by first | (simp only [tk, Con.start, go_sem]; rfl) | rfl) ?_
    refine Tri.loop (fun i : Nat => (⟨[none, some (.ptr 0 [] 0), some (.nilsl), some (.int .i64 (0 : Int)), some (.ptr 3 [] 0), some (.tsl 4 [] 0 0 1 (rJ (kd, cl, sv, no, en, fl, ti, se, co, u1) i).length), some (.int .i64 (i : Int))] ++ List.replicate 53 none, [.live (.pure krK (kd, cl, sv, no, en, fl, ti, se, co, u1)), .dead, .dead, .live (.pure (.arr 9 (.slice true (.int .u8))) (rV (kd, cl, sv, no, en, fl, ti, se, co, u1))), .live (.pure (.arr (rJ (kd, cl, sv, no, en, fl, ti, se, co, u1) i).length (.int .u8)) (rJ (kd, cl, sv, no, en, fl, ti, se, co, u1) i))]⟩ : AS)) (fun i => i ≤ 9) (fun i => 9 - i) 0 ?_ (Nat.zero_le _) ?_
    · refine Wk.of ?_ ?_ rfl rfl
      · simp only [lessTs, List.reduceReplicate, List.cons_append, List.nil_append, rJ, rV, List.length_nil] <;> ((repeat' apply And.intro) <;> first | with_reducible rfl | exact True.intro | exact congrArg (fun z : Int => some (AV.int IntKind.i64 z)) (show (_ : Int) = _ by omega) | exact congrArg (fun z : Nat => some (AV.tsl _ _ _ _ _ z)) (show (_ : Nat) = _ by omega) | exact arrEq (by omega) (by with_reducible rfl))
      · simp only [lessHs, rJ, rV, List.length_nil] <;> ((repeat' apply And.intro) <;> first | with_reducible rfl | exact True.intro | exact congrArg (fun z : Int => some (AV.int IntKind.i64 z)) (show (_ : Int) = _ by omega) | exact congrArg (fun z : Nat => some (AV.tsl _ _ _ _ _ z)) (show (_ : Nat) = _ by omega) | exact arrEq (by omega) (by with_reducible rfl))
    · intro i hi
      have hb := rJ_len (rV_len (m := (kd, cl, sv, no, en, fl, ti, se, co, u1)) a1 a2 a3 a4) i
      by_cases hc : i < 9
      · have hc' : decide ((i : Int) < 9) = true := decide_eq_true (by omega)
        have hn : rJ (kd, cl, sv, no, en, fl, ti, se, co, u1) (i + 1) = rJ (kd, cl, sv, no, en, fl, ti, se, co, u1) i ++ (if hsM kd ((31 + i : Nat) : Int) = true then rflB ((31 + i : Nat) : Int) ((rV (kd, cl, sv, no, en, fl, ti, se, co, u1)).getD i []) else []) := rfl
        have hvl := rV_len (m := (kd, cl, sv, no, en, fl, ti, se, co, u1)) a1 a2 a3 a4 i
        generalize hJ : rJ (kd, cl, sv, no, en, fl, ti, se, co, u1) i = J at *
        generalize hW : rV (kd, cl, sv, no, en, fl, ti, se, co, u1) = W at *
        cases hh : hsM kd ((31 + i : Nat) : Int) with
        | false =>
          rw [hh, if_neg (by decide), List.append_nil] at hn
          refine Tri.at (by first | (simp only [hc', hh, Con.start, go_sem]; rfl) | rfl) ?_
          repeat (first | ((first | refine Tri.seq (Tri.regT (cfgKZ1_ok.pins _) ?_) | refine Tri.rgnT (cfgKZ1_ok.pins _) ?_); (repeat (first | refine RunT.oneA (hp := by simp (maxSteps := 2000000) (disch := first | decide | omega | (simp only [List.length_append, List.length_cons, List.length_nil, List.length_take, List.length_drop]; omega)) only [hc', hh, go_sem]; rfl) (h := ?_) | refine RunT.notA (h := ?_))); refine RunT.nil ?_; try simp only [InBlock, Then]) | refine Tri.cF (by first | (simp only [hc', hh, go_sem]; done) | fail) ?_ | refine Tri.cT (by first | (simp only [hc', hh, go_sem]; done) | fail) ?_ | (refine Tri.skip ?_; try simp only [InBlock, Then]) | (refine Tri.exit ?_; simp only [Then, InBlock, if_true, if_false, ↓reduceIte, Nat.reduceEqDiff]) | refine Tri.seq (Tri.block ?_) | refine Tri.block ?_ | refine Tri.seq ?_ | (refine Tri.ret ?_; refine Con.fin (.inl rfl) (by simp only [Tryd.f43, cfgKZ1, resA, resA1, go_sem]; rfl) (by simp only [Obs, and_true, true_and]) (by first | (simp only [kRWr, Con.of, Con.ofO, resV, hc', hh, go_sem]; done) | fail) trivial rfl rfl))
          refine ⟨i + 1, (by omega), (by omega), Wk.of ?_ ?_ rfl rfl⟩
          · simp only [lessTs, List.reduceReplicate, List.cons_append, List.nil_append, hn] <;> ((repeat' apply And.intro) <;> first | with_reducible rfl | exact True.intro | exact congrArg (fun z : Int => some (AV.int IntKind.i64 z)) (show (_ : Int) = _ by omega) | exact congrArg (fun z : Nat => some (AV.tsl _ _ _ _ _ z)) (show (_ : Nat) = _ by omega) | exact arrEq (by omega) (by with_reducible rfl))
          · rw [hn]
            exact ⟨rfl, rfl, rfl, rfl, rfl, trivial⟩
        | true =>
          rw [hh, if_pos rfl] at hn
          generalize hV : List.getD W i [] = wv at *
          have hBl := rflB_len ((31 + i : Nat) : Int) wv
          generalize hB : rflB ((31 + i : Nat) : Int) wv = B at *
          refine Tri.at (by first | (simp only [hc', hh, hV, hB, tk, Con.start, go_sem]; rfl) | rfl) ?_
          repeat (first | ((first | refine Tri.seq (Tri.regT (cfgKZ1_ok.pins _) ?_) | refine Tri.rgnT (cfgKZ1_ok.pins _) ?_); (repeat (first | refine RunT.oneA (hp := by simp (maxSteps := 2000000) (disch := first | decide | omega | (simp only [List.length_append, List.length_cons, List.length_nil, List.length_take, List.length_drop]; omega)) only [hc', hh, hV, hB, tk, go_sem]; rfl) (h := ?_) | refine RunT.notA (h := ?_))); refine RunT.nil ?_; try simp only [InBlock, Then]) | refine Tri.cF (by first | (simp only [hc', hh, hV, hB, tk, go_sem]; done) | fail) ?_ | refine Tri.cT (by first | (simp only [hc', hh, hV, hB, tk, go_sem]; done) | fail) ?_ | (refine Tri.skip ?_; try simp only [InBlock, Then]) | (refine Tri.exit ?_; simp only [Then, InBlock, if_true, if_false, ↓reduceIte, Nat.reduceEqDiff]) | refine Tri.seq (Tri.block ?_) | refine Tri.block ?_ | refine Tri.seq ?_ | (refine Tri.ret ?_; refine Con.fin (.inl rfl) (by simp only [Tryd.f43, cfgKZ1, resA, resA1, go_sem]; rfl) (by simp only [Obs, and_true, true_and]) (by first | (simp only [kRWr, Con.of, Con.ofO, resV, hc', hh, hV, hB, tk, go_sem]; done) | fail) trivial rfl rfl))
          refine ⟨i + 1, (by omega), (by omega), Wk.of ?_ ?_ rfl rfl⟩
          · simp only [lessTs, List.reduceReplicate, List.cons_append, List.nil_append, hn, List.length_append] <;> ((repeat' apply And.intro) <;> first | with_reducible rfl | exact True.intro | exact congrArg (fun z : Int => some (AV.int IntKind.i64 z)) (show (_ : Int) = _ by omega) | exact congrArg (fun z : Nat => some (AV.tsl _ _ _ _ _ z)) (show (_ : Nat) = _ by omega) | exact arrEq (by omega) (by with_reducible rfl))
          · rw [hn]
            exact ⟨rfl, rfl, rfl, rfl, arrEq (List.length_append ..).symm rfl, trivial⟩
      · have hc' : decide ((i : Int) < 9) = false := decide_eq_false (by omega)
        have hi9 : i = 9 := by omega
        subst hi9
        have e1 : rwV (kd, cl, sv, no, en, fl, ti, se, co, u1) = .tuple [.pure (.slice true (.int .u8)) (rJ (kd, cl, sv, no, en, fl, ti, se, co, u1) 9), .int .i64 (0 : Int)] := by rw [rwV, hr]; rfl
        generalize hJ : rJ (kd, cl, sv, no, en, fl, ti, se, co, u1) 9 = J at *
        refine Tri.at (by first | (simp only [hc', tk, Con.start, go_sem]; rfl) | rfl) ?_
        repeat (first | ((first | refine Tri.seq (Tri.regT (cfgKZ1_ok.pins _) ?_) | refine Tri.rgnT (cfgKZ1_ok.pins _) ?_); (repeat (first | refine RunT.oneA (hp := by simp (maxSteps := 2000000) (disch := first | decide | omega | (simp only [List.length_append, List.length_cons, List.length_nil, List.length_take, List.length_drop]; omega)) only [hc', tk, go_sem]; rfl) (h := ?_) | refine RunT.notA (h := ?_))); refine RunT.nil ?_; try simp only [InBlock, Then]) | refine Tri.cF (by first | (simp only [hc', tk, go_sem]; done) | fail) ?_ | refine Tri.cT (by first | (simp only [hc', tk, go_sem]; done) | fail) ?_ | (refine Tri.skip ?_; try simp only [InBlock, Then]) | (refine Tri.exit ?_; simp only [Then, InBlock, if_true, if_false, ↓reduceIte, Nat.reduceEqDiff]) | refine Tri.seq (Tri.block ?_) | refine Tri.block ?_ | refine Tri.seq ?_ | (refine Tri.ret ?_; refine Con.fin (.inl rfl) (by simp only [Tryd.f43, cfgKZ1, resA, resA1, go_sem]; rfl) (by simp only [Obs, and_true, true_and]) (by first | (simp only [kRWr, Con.of, Con.ofO, resV, hc', tk, go_sem]; done) | fail) trivial rfl rfl))
        refine Tri.rel true 4 rfl ?_ rfl rfl ?_
        · simp only [AS.blk, go_sem]
          repeat' constructor
        refine Tri.at (by first | (simp only [hc', tk, Con.start, go_sem]; rfl) | rfl) ?_
        refine Tri.ret ?_
        refine Con.fin (.inl rfl) (by simp only [Tryd.f43, cfgKZ1, resA, resA1, go_sem]; rfl) (by simp only [Obs, and_true, true_and]) ?_ ?_ ?_ rfl
        · exact e1.symm
        · exact True.intro
        · show (AS.mk [some (rwV (kd, cl, sv, no, en, fl, ti, se, co, u1))] []).closed = true
          rw [e1]; rfl
theorem rwr_sum : FSumOK Tryd.prog cfgKZ1.G 43 kRWr.sum := Con.sumOK cfgKZ1_ok kRWr Tryd.func43 rfl rfl (Con.of_inv _ _ _) rwr_body
end
end Go.Proofs.YtjdeaphfamenaaaDoor

namespace Go.Proofs.YtjdeaphfamenaaaDoor
open Go.Vc Go.Proofs
set_option maxRecDepth 10000
theorem numS_64k (n : UInt64) : (numS n).length ≤ 65535 := Nat.le_trans (numS_len n) (by decide)
theorem rj_1 (cl sv : List UInt8) (no : UInt64) (en fl : Int) (ti se : List UInt8) (co : Int) (a1 : cl.length ≤ 60000) (a2 : sv.length ≤ 60000) (a3 : ti.length ≤ 60000) (a4 : se.length ≤ 60000) : rJ ((1 : Int), cl, sv, no, en, fl, ti, se, co, ()) 9 = jnK ((((31 : Int), numS (UInt64.ofInt 1), ()) : flK.T) :: (hasK 1).map (fun t => ((t, vaB ((1 : Int), cl, sv, no, en, fl, ti, se, co, ()) t, ()) : flK.T))) := by
  have h31 : hsM (1 : Int) ((31 + 0 : Nat) : Int) = true := by decide
  have h32 : hsM (1 : Int) ((31 + 1 : Nat) : Int) = true := by decide
  have h33 : hsM (1 : Int) ((31 + 2 : Nat) : Int) = true := by decide
  have h34 : hsM (1 : Int) ((31 + 3 : Nat) : Int) = true := by decide
  have h35 : hsM (1 : Int) ((31 + 4 : Nat) : Int) = true := by decide
  have h36 : hsM (1 : Int) ((31 + 5 : Nat) : Int) = true := by decide
  have h37 : hsM (1 : Int) ((31 + 6 : Nat) : Int) = false := by decide
  have h38 : hsM (1 : Int) ((31 + 7 : Nat) : Int) = false := by decide
  have h39 : hsM (1 : Int) ((31 + 8 : Nat) : Int) = false := by decide
  have e31 : rflB ((31 + 0 : Nat) : Int) (numS (UInt64.ofInt 1)) = flBK (((31 : Int), numS (UInt64.ofInt 1), ()) : flK.T) := rfl_flB (t := 31) (numS_64k _)
  have e32 : rflB ((31 + 1 : Nat) : Int) (cl) = flBK (((32 : Int), cl, ()) : flK.T) := rfl_flB (t := 32) (Nat.le_trans a1 (by decide))
  have e33 : rflB ((31 + 2 : Nat) : Int) (sv) = flBK (((33 : Int), sv, ()) : flK.T) := rfl_flB (t := 33) (Nat.le_trans a2 (by decide))
  have e34 : rflB ((31 + 3 : Nat) : Int) (numS no) = flBK (((34 : Int), numS no, ()) : flK.T) := rfl_flB (t := 34) (numS_64k _)
  have e35 : rflB ((31 + 4 : Nat) : Int) (numS (UInt64.ofInt en)) = flBK (((35 : Int), numS (UInt64.ofInt en), ()) : flK.T) := rfl_flB (t := 35) (numS_64k _)
  have e36 : rflB ((31 + 5 : Nat) : Int) (numS (UInt64.ofInt fl)) = flBK (((36 : Int), numS (UInt64.ofInt fl), ()) : flK.T) := rfl_flB (t := 36) (numS_64k _)
  show rJ ((1 : Int), cl, sv, no, en, fl, ti, se, co, ()) 9 = flBK (((31 : Int), numS (UInt64.ofInt 1), ()) : flK.T) ++ (flBK (((32 : Int), cl, ()) : flK.T) ++ (flBK (((33 : Int), sv, ()) : flK.T) ++ (flBK (((34 : Int), numS no, ()) : flK.T) ++ (flBK (((35 : Int), numS (UInt64.ofInt en), ()) : flK.T) ++ (flBK (((36 : Int), numS (UInt64.ofInt fl), ()) : flK.T) ++ [])))))
  have v : ∀ i, (rV ((1 : Int), cl, sv, no, en, fl, ti, se, co, ())).getD i [] = List.getD [numS (UInt64.ofInt 1), cl, sv, numS no, numS (UInt64.ofInt en), numS (UInt64.ofInt fl), ti, se, numS (UInt64.ofInt co)] i [] := fun i => rfl
  simp only [rJ, h31, h32, h33, h34, h35, h36, h37, h38, h39, v, if_true, if_false, Bool.false_eq_true, List.getD_cons_zero, List.getD_cons_succ, List.append_nil, List.nil_append, e31, e32, e33, e34, e35, e36, List.append_assoc]
theorem rj_2 (cl sv : List UInt8) (no : UInt64) (en fl : Int) (ti se : List UInt8) (co : Int) (a1 : cl.length ≤ 60000) (a2 : sv.length ≤ 60000) (a3 : ti.length ≤ 60000) (a4 : se.length ≤ 60000) : rJ ((2 : Int), cl, sv, no, en, fl, ti, se, co, ()) 9 = jnK ((((31 : Int), numS (UInt64.ofInt 2), ()) : flK.T) :: (hasK 2).map (fun t => ((t, vaB ((2 : Int), cl, sv, no, en, fl, ti, se, co, ()) t, ()) : flK.T))) := by
  have h31 : hsM (2 : Int) ((31 + 0 : Nat) : Int) = true := by decide
  have h32 : hsM (2 : Int) ((31 + 1 : Nat) : Int) = false := by decide
  have h33 : hsM (2 : Int) ((31 + 2 : Nat) : Int) = true := by decide
  have h34 : hsM (2 : Int) ((31 + 3 : Nat) : Int) = true := by decide
  have h35 : hsM (2 : Int) ((31 + 4 : Nat) : Int) = true := by decide
  have h36 : hsM (2 : Int) ((31 + 5 : Nat) : Int) = true := by decide
  have h37 : hsM (2 : Int) ((31 + 6 : Nat) : Int) = true := by decide
  have h38 : hsM (2 : Int) ((31 + 7 : Nat) : Int) = true := by decide
  have h39 : hsM (2 : Int) ((31 + 8 : Nat) : Int) = false := by decide
  have e31 : rflB ((31 + 0 : Nat) : Int) (numS (UInt64.ofInt 2)) = flBK (((31 : Int), numS (UInt64.ofInt 2), ()) : flK.T) := rfl_flB (t := 31) (numS_64k _)
  have e33 : rflB ((31 + 2 : Nat) : Int) (sv) = flBK (((33 : Int), sv, ()) : flK.T) := rfl_flB (t := 33) (Nat.le_trans a2 (by decide))
  have e34 : rflB ((31 + 3 : Nat) : Int) (numS no) = flBK (((34 : Int), numS no, ()) : flK.T) := rfl_flB (t := 34) (numS_64k _)
  have e35 : rflB ((31 + 4 : Nat) : Int) (numS (UInt64.ofInt en)) = flBK (((35 : Int), numS (UInt64.ofInt en), ()) : flK.T) := rfl_flB (t := 35) (numS_64k _)
  have e36 : rflB ((31 + 5 : Nat) : Int) (numS (UInt64.ofInt fl)) = flBK (((36 : Int), numS (UInt64.ofInt fl), ()) : flK.T) := rfl_flB (t := 36) (numS_64k _)
  have e37 : rflB ((31 + 6 : Nat) : Int) (ti) = flBK (((37 : Int), ti, ()) : flK.T) := rfl_flB (t := 37) (Nat.le_trans a3 (by decide))
  have e38 : rflB ((31 + 7 : Nat) : Int) (se) = flBK (((38 : Int), se, ()) : flK.T) := rfl_flB (t := 38) (Nat.le_trans a4 (by decide))
  show rJ ((2 : Int), cl, sv, no, en, fl, ti, se, co, ()) 9 = flBK (((31 : Int), numS (UInt64.ofInt 2), ()) : flK.T) ++ (flBK (((33 : Int), sv, ()) : flK.T) ++ (flBK (((34 : Int), numS no, ()) : flK.T) ++ (flBK (((35 : Int), numS (UInt64.ofInt en), ()) : flK.T) ++ (flBK (((36 : Int), numS (UInt64.ofInt fl), ()) : flK.T) ++ (flBK (((37 : Int), ti, ()) : flK.T) ++ (flBK (((38 : Int), se, ()) : flK.T) ++ []))))))
  have v : ∀ i, (rV ((2 : Int), cl, sv, no, en, fl, ti, se, co, ())).getD i [] = List.getD [numS (UInt64.ofInt 2), cl, sv, numS no, numS (UInt64.ofInt en), numS (UInt64.ofInt fl), ti, se, numS (UInt64.ofInt co)] i [] := fun i => rfl
  simp only [rJ, h31, h32, h33, h34, h35, h36, h37, h38, h39, v, if_true, if_false, Bool.false_eq_true, List.getD_cons_zero, List.getD_cons_succ, List.append_nil, List.nil_append, e31, e33, e34, e35, e36, e37, e38, List.append_assoc]
theorem rj_3 (cl sv : List UInt8) (no : UInt64) (en fl : Int) (ti se : List UInt8) (co : Int) (a1 : cl.length ≤ 60000) (a2 : sv.length ≤ 60000) (a3 : ti.length ≤ 60000) (a4 : se.length ≤ 60000) : rJ ((3 : Int), cl, sv, no, en, fl, ti, se, co, ()) 9 = jnK ((((31 : Int), numS (UInt64.ofInt 3), ()) : flK.T) :: (hasK 3).map (fun t => ((t, vaB ((3 : Int), cl, sv, no, en, fl, ti, se, co, ()) t, ()) : flK.T))) := by
  have h31 : hsM (3 : Int) ((31 + 0 : Nat) : Int) = true := by decide
  have h32 : hsM (3 : Int) ((31 + 1 : Nat) : Int) = false := by decide
  have h33 : hsM (3 : Int) ((31 + 2 : Nat) : Int) = false := by decide
  have h34 : hsM (3 : Int) ((31 + 3 : Nat) : Int) = true := by decide
  have h35 : hsM (3 : Int) ((31 + 4 : Nat) : Int) = false := by decide
  have h36 : hsM (3 : Int) ((31 + 5 : Nat) : Int) = false := by decide
  have h37 : hsM (3 : Int) ((31 + 6 : Nat) : Int) = true := by decide
  have h38 : hsM (3 : Int) ((31 + 7 : Nat) : Int) = true := by decide
  have h39 : hsM (3 : Int) ((31 + 8 : Nat) : Int) = false := by decide
  have e31 : rflB ((31 + 0 : Nat) : Int) (numS (UInt64.ofInt 3)) = flBK (((31 : Int), numS (UInt64.ofInt 3), ()) : flK.T) := rfl_flB (t := 31) (numS_64k _)
  have e34 : rflB ((31 + 3 : Nat) : Int) (numS no) = flBK (((34 : Int), numS no, ()) : flK.T) := rfl_flB (t := 34) (numS_64k _)
  have e37 : rflB ((31 + 6 : Nat) : Int) (ti) = flBK (((37 : Int), ti, ()) : flK.T) := rfl_flB (t := 37) (Nat.le_trans a3 (by decide))
  have e38 : rflB ((31 + 7 : Nat) : Int) (se) = flBK (((38 : Int), se, ()) : flK.T) := rfl_flB (t := 38) (Nat.le_trans a4 (by decide))
  show rJ ((3 : Int), cl, sv, no, en, fl, ti, se, co, ()) 9 = flBK (((31 : Int), numS (UInt64.ofInt 3), ()) : flK.T) ++ (flBK (((34 : Int), numS no, ()) : flK.T) ++ (flBK (((37 : Int), ti, ()) : flK.T) ++ (flBK (((38 : Int), se, ()) : flK.T) ++ [])))
  have v : ∀ i, (rV ((3 : Int), cl, sv, no, en, fl, ti, se, co, ())).getD i [] = List.getD [numS (UInt64.ofInt 3), cl, sv, numS no, numS (UInt64.ofInt en), numS (UInt64.ofInt fl), ti, se, numS (UInt64.ofInt co)] i [] := fun i => rfl
  simp only [rJ, h31, h32, h33, h34, h35, h36, h37, h38, h39, v, if_true, if_false, Bool.false_eq_true, List.getD_cons_zero, List.getD_cons_succ, List.append_nil, List.nil_append, e31, e34, e37, e38, List.append_assoc]
theorem rj_4 (cl sv : List UInt8) (no : UInt64) (en fl : Int) (ti se : List UInt8) (co : Int) (a1 : cl.length ≤ 60000) (a2 : sv.length ≤ 60000) (a3 : ti.length ≤ 60000) (a4 : se.length ≤ 60000) : rJ ((4 : Int), cl, sv, no, en, fl, ti, se, co, ()) 9 = jnK ((((31 : Int), numS (UInt64.ofInt 4), ()) : flK.T) :: (hasK 4).map (fun t => ((t, vaB ((4 : Int), cl, sv, no, en, fl, ti, se, co, ()) t, ()) : flK.T))) := by
  have h31 : hsM (4 : Int) ((31 + 0 : Nat) : Int) = true := by decide
  have h32 : hsM (4 : Int) ((31 + 1 : Nat) : Int) = false := by decide
  have h33 : hsM (4 : Int) ((31 + 2 : Nat) : Int) = false := by decide
  have h34 : hsM (4 : Int) ((31 + 3 : Nat) : Int) = true := by decide
  have h35 : hsM (4 : Int) ((31 + 4 : Nat) : Int) = false := by decide
  have h36 : hsM (4 : Int) ((31 + 5 : Nat) : Int) = false := by decide
  have h37 : hsM (4 : Int) ((31 + 6 : Nat) : Int) = true := by decide
  have h38 : hsM (4 : Int) ((31 + 7 : Nat) : Int) = true := by decide
  have h39 : hsM (4 : Int) ((31 + 8 : Nat) : Int) = false := by decide
  have e31 : rflB ((31 + 0 : Nat) : Int) (numS (UInt64.ofInt 4)) = flBK (((31 : Int), numS (UInt64.ofInt 4), ()) : flK.T) := rfl_flB (t := 31) (numS_64k _)
  have e34 : rflB ((31 + 3 : Nat) : Int) (numS no) = flBK (((34 : Int), numS no, ()) : flK.T) := rfl_flB (t := 34) (numS_64k _)
  have e37 : rflB ((31 + 6 : Nat) : Int) (ti) = flBK (((37 : Int), ti, ()) : flK.T) := rfl_flB (t := 37) (Nat.le_trans a3 (by decide))
  have e38 : rflB ((31 + 7 : Nat) : Int) (se) = flBK (((38 : Int), se, ()) : flK.T) := rfl_flB (t := 38) (Nat.le_trans a4 (by decide))
  show rJ ((4 : Int), cl, sv, no, en, fl, ti, se, co, ()) 9 = flBK (((31 : Int), numS (UInt64.ofInt 4), ()) : flK.T) ++ (flBK (((34 : Int), numS no, ()) : flK.T) ++ (flBK (((37 : Int), ti, ()) : flK.T) ++ (flBK (((38 : Int), se, ()) : flK.T) ++ [])))
  have v : ∀ i, (rV ((4 : Int), cl, sv, no, en, fl, ti, se, co, ())).getD i [] = List.getD [numS (UInt64.ofInt 4), cl, sv, numS no, numS (UInt64.ofInt en), numS (UInt64.ofInt fl), ti, se, numS (UInt64.ofInt co)] i [] := fun i => rfl
  simp only [rJ, h31, h32, h33, h34, h35, h36, h37, h38, h39, v, if_true, if_false, Bool.false_eq_true, List.getD_cons_zero, List.getD_cons_succ, List.append_nil, List.nil_append, e31, e34, e37, e38, List.append_assoc]
theorem rj_5 (cl sv : List UInt8) (no : UInt64) (en fl : Int) (ti se : List UInt8) (co : Int) (a1 : cl.length ≤ 60000) (a2 : sv.length ≤ 60000) (a3 : ti.length ≤ 60000) (a4 : se.length ≤ 60000) : rJ ((5 : Int), cl, sv, no, en, fl, ti, se, co, ()) 9 = jnK ((((31 : Int), numS (UInt64.ofInt 5), ()) : flK.T) :: (hasK 5).map (fun t => ((t, vaB ((5 : Int), cl, sv, no, en, fl, ti, se, co, ()) t, ()) : flK.T))) := by
  have h31 : hsM (5 : Int) ((31 + 0 : Nat) : Int) = true := by decide
  have h32 : hsM (5 : Int) ((31 + 1 : Nat) : Int) = false := by decide
  have h33 : hsM (5 : Int) ((31 + 2 : Nat) : Int) = false := by decide
  have h34 : hsM (5 : Int) ((31 + 3 : Nat) : Int) = true := by decide
  have h35 : hsM (5 : Int) ((31 + 4 : Nat) : Int) = false := by decide
  have h36 : hsM (5 : Int) ((31 + 5 : Nat) : Int) = false := by decide
  have h37 : hsM (5 : Int) ((31 + 6 : Nat) : Int) = false := by decide
  have h38 : hsM (5 : Int) ((31 + 7 : Nat) : Int) = true := by decide
  have h39 : hsM (5 : Int) ((31 + 8 : Nat) : Int) = false := by decide
  have e31 : rflB ((31 + 0 : Nat) : Int) (numS (UInt64.ofInt 5)) = flBK (((31 : Int), numS (UInt64.ofInt 5), ()) : flK.T) := rfl_flB (t := 31) (numS_64k _)
  have e34 : rflB ((31 + 3 : Nat) : Int) (numS no) = flBK (((34 : Int), numS no, ()) : flK.T) := rfl_flB (t := 34) (numS_64k _)
  have e38 : rflB ((31 + 7 : Nat) : Int) (se) = flBK (((38 : Int), se, ()) : flK.T) := rfl_flB (t := 38) (Nat.le_trans a4 (by decide))
  show rJ ((5 : Int), cl, sv, no, en, fl, ti, se, co, ()) 9 = flBK (((31 : Int), numS (UInt64.ofInt 5), ()) : flK.T) ++ (flBK (((34 : Int), numS no, ()) : flK.T) ++ (flBK (((38 : Int), se, ()) : flK.T) ++ []))
  have v : ∀ i, (rV ((5 : Int), cl, sv, no, en, fl, ti, se, co, ())).getD i [] = List.getD [numS (UInt64.ofInt 5), cl, sv, numS no, numS (UInt64.ofInt en), numS (UInt64.ofInt fl), ti, se, numS (UInt64.ofInt co)] i [] := fun i => rfl
  simp only [rJ, h31, h32, h33, h34, h35, h36, h37, h38, h39, v, if_true, if_false, Bool.false_eq_true, List.getD_cons_zero, List.getD_cons_succ, List.append_nil, List.nil_append, e31, e34, e38, List.append_assoc]
theorem rj_6 (cl sv : List UInt8) (no : UInt64) (en fl : Int) (ti se : List UInt8) (co : Int) (a1 : cl.length ≤ 60000) (a2 : sv.length ≤ 60000) (a3 : ti.length ≤ 60000) (a4 : se.length ≤ 60000) : rJ ((6 : Int), cl, sv, no, en, fl, ti, se, co, ()) 9 = jnK ((((31 : Int), numS (UInt64.ofInt 6), ()) : flK.T) :: (hasK 6).map (fun t => ((t, vaB ((6 : Int), cl, sv, no, en, fl, ti, se, co, ()) t, ()) : flK.T))) := by
  have h31 : hsM (6 : Int) ((31 + 0 : Nat) : Int) = true := by decide
  have h32 : hsM (6 : Int) ((31 + 1 : Nat) : Int) = false := by decide
  have h33 : hsM (6 : Int) ((31 + 2 : Nat) : Int) = false := by decide
  have h34 : hsM (6 : Int) ((31 + 3 : Nat) : Int) = true := by decide
  have h35 : hsM (6 : Int) ((31 + 4 : Nat) : Int) = false := by decide
  have h36 : hsM (6 : Int) ((31 + 5 : Nat) : Int) = false := by decide
  have h37 : hsM (6 : Int) ((31 + 6 : Nat) : Int) = false := by decide
  have h38 : hsM (6 : Int) ((31 + 7 : Nat) : Int) = true := by decide
  have h39 : hsM (6 : Int) ((31 + 8 : Nat) : Int) = false := by decide
  have e31 : rflB ((31 + 0 : Nat) : Int) (numS (UInt64.ofInt 6)) = flBK (((31 : Int), numS (UInt64.ofInt 6), ()) : flK.T) := rfl_flB (t := 31) (numS_64k _)
  have e34 : rflB ((31 + 3 : Nat) : Int) (numS no) = flBK (((34 : Int), numS no, ()) : flK.T) := rfl_flB (t := 34) (numS_64k _)
  have e38 : rflB ((31 + 7 : Nat) : Int) (se) = flBK (((38 : Int), se, ()) : flK.T) := rfl_flB (t := 38) (Nat.le_trans a4 (by decide))
  show rJ ((6 : Int), cl, sv, no, en, fl, ti, se, co, ()) 9 = flBK (((31 : Int), numS (UInt64.ofInt 6), ()) : flK.T) ++ (flBK (((34 : Int), numS no, ()) : flK.T) ++ (flBK (((38 : Int), se, ()) : flK.T) ++ []))
  have v : ∀ i, (rV ((6 : Int), cl, sv, no, en, fl, ti, se, co, ())).getD i [] = List.getD [numS (UInt64.ofInt 6), cl, sv, numS no, numS (UInt64.ofInt en), numS (UInt64.ofInt fl), ti, se, numS (UInt64.ofInt co)] i [] := fun i => rfl
  simp only [rJ, h31, h32, h33, h34, h35, h36, h37, h38, h39, v, if_true, if_false, Bool.false_eq_true, List.getD_cons_zero, List.getD_cons_succ, List.append_nil, List.nil_append, e31, e34, e38, List.append_assoc]
theorem rj_7 (cl sv : List UInt8) (no : UInt64) (en fl : Int) (ti se : List UInt8) (co : Int) (a1 : cl.length ≤ 60000) (a2 : sv.length ≤ 60000) (a3 : ti.length ≤ 60000) (a4 : se.length ≤ 60000) : rJ ((7 : Int), cl, sv, no, en, fl, ti, se, co, ()) 9 = jnK ((((31 : Int), numS (UInt64.ofInt 7), ()) : flK.T) :: (hasK 7).map (fun t => ((t, vaB ((7 : Int), cl, sv, no, en, fl, ti, se, co, ()) t, ()) : flK.T))) := by
  have h31 : hsM (7 : Int) ((31 + 0 : Nat) : Int) = true := by decide
  have h32 : hsM (7 : Int) ((31 + 1 : Nat) : Int) = false := by decide
  have h33 : hsM (7 : Int) ((31 + 2 : Nat) : Int) = false := by decide
  have h34 : hsM (7 : Int) ((31 + 3 : Nat) : Int) = true := by decide
  have h35 : hsM (7 : Int) ((31 + 4 : Nat) : Int) = false := by decide
  have h36 : hsM (7 : Int) ((31 + 5 : Nat) : Int) = false := by decide
  have h37 : hsM (7 : Int) ((31 + 6 : Nat) : Int) = false := by decide
  have h38 : hsM (7 : Int) ((31 + 7 : Nat) : Int) = false := by decide
  have h39 : hsM (7 : Int) ((31 + 8 : Nat) : Int) = true := by decide
  have e31 : rflB ((31 + 0 : Nat) : Int) (numS (UInt64.ofInt 7)) = flBK (((31 : Int), numS (UInt64.ofInt 7), ()) : flK.T) := rfl_flB (t := 31) (numS_64k _)
  have e34 : rflB ((31 + 3 : Nat) : Int) (numS no) = flBK (((34 : Int), numS no, ()) : flK.T) := rfl_flB (t := 34) (numS_64k _)
  have e39 : rflB ((31 + 8 : Nat) : Int) (numS (UInt64.ofInt co)) = flBK (((39 : Int), numS (UInt64.ofInt co), ()) : flK.T) := rfl_flB (t := 39) (numS_64k _)
  show rJ ((7 : Int), cl, sv, no, en, fl, ti, se, co, ()) 9 = flBK (((31 : Int), numS (UInt64.ofInt 7), ()) : flK.T) ++ (flBK (((34 : Int), numS no, ()) : flK.T) ++ (flBK (((39 : Int), numS (UInt64.ofInt co), ()) : flK.T) ++ []))
  have v : ∀ i, (rV ((7 : Int), cl, sv, no, en, fl, ti, se, co, ())).getD i [] = List.getD [numS (UInt64.ofInt 7), cl, sv, numS no, numS (UInt64.ofInt en), numS (UInt64.ofInt fl), ti, se, numS (UInt64.ofInt co)] i [] := fun i => rfl
  simp only [rJ, h31, h32, h33, h34, h35, h36, h37, h38, h39, v, if_true, if_false, Bool.false_eq_true, List.getD_cons_zero, List.getD_cons_succ, List.append_nil, List.nil_append, e31, e34, e39, List.append_assoc]
theorem rj_all {m : krK.T} {fs : List flK.T} (h : fdR m = some fs) (a1 : List.length (α := UInt8) m.2.1 ≤ 60000) (a2 : List.length (α := UInt8) m.2.2.1 ≤ 60000) (a3 : List.length (α := UInt8) m.2.2.2.2.2.2.1 ≤ 60000) (a4 : List.length (α := UInt8) m.2.2.2.2.2.2.2.1 ≤ 60000) : rJ m 9 = jnK fs := by
  have k := kd_one h
  have s := fd_shape h
  subst s
  obtain ⟨(kd : Int), (cl : List UInt8), (sv : List UInt8), (no : UInt64), (en : Int), (fl : Int), (ti : List UInt8), (se : List UInt8), (co : Int), u1⟩ := m
  replace k : 1 ≤ kd ∧ kd ≤ 7 := k
  replace a1 : cl.length ≤ 60000 := a1
  replace a2 : sv.length ≤ 60000 := a2
  replace a3 : ti.length ≤ 60000 := a3
  replace a4 : se.length ≤ 60000 := a4
  have hk : kd = 1 ∨ kd = 2 ∨ kd = 3 ∨ kd = 4 ∨ kd = 5 ∨ kd = 6 ∨ kd = 7 := by omega
  rcases hk with rfl | rfl | rfl | rfl | rfl | rfl | rfl
  · exact rj_1 cl sv no en fl ti se co a1 a2 a3 a4
  · exact rj_2 cl sv no en fl ti se co a1 a2 a3 a4
  · exact rj_3 cl sv no en fl ti se co a1 a2 a3 a4
  · exact rj_4 cl sv no en fl ti se co a1 a2 a3 a4
  · exact rj_5 cl sv no en fl ti se co a1 a2 a3 a4
  · exact rj_6 cl sv no en fl ti se co a1 a2 a3 a4
  · exact rj_7 cl sv no en fl ti se co a1 a2 a3 a4
theorem rw_eq {m : krK.T} (a1 : List.length (α := UInt8) m.2.1 ≤ 60000) (a2 : List.length (α := UInt8) m.2.2.1 ≤ 60000) (a3 : List.length (α := UInt8) m.2.2.2.2.2.2.1 ≤ 60000) (a4 : List.length (α := UInt8) m.2.2.2.2.2.2.2.1 ≤ 60000) : rwV m = match fdR m with
    | some fs => .tuple [.pure (.slice true (.int .u8)) (jnK fs), .int .i64 (0 : Int)]
    | none => .tuple [.pure (.slice true (.int .u8)) [], .int .i64 (1 : Int)] := by
  unfold rwV
  cases h : fdR m with
  | none => rfl
  | some fs =>
    show AV.tuple [.pure (.slice true (.int .u8)) (rJ m 9), .int .i64 (0 : Int)] = _
    rw [rj_all h a1 a2 a3 a4]
end Go.Proofs.YtjdeaphfamenaaaDoor

namespace Go.Proofs.YtjdeaphfamenaaaDoor
open Go.Vc Go.Proofs
set_option maxRecDepth 10000
set_option maxHeartbeats 4000000
def kLKw : Con := Con.of [.v krK] (fun _ => []) (fun _ => ⟨.bool true, []⟩)
def cfgKZb : Cfg2 := { ty := tyTabM, fn := fun | 30 => some kKs.sum | 31 => some kGrM.sum | 32 => some kWr.sum | 33 => some kSmR.sum | 34 => some kCh.sum | 41 => some kKrd.sum | 43 => some kRWr.sum | _ => none, G := gNone, pin := [], eq := fun _ => none }
theorem cfgKZb_ok : CfgOK Tryd.prog cfgKZb := ⟨tyTabM_ok, (fun f s h => by
  simp only [cfgKZb] at h
  split at h
  · injection h with h; subst h; exact .inl ksp_sum
  · injection h with h; subst h; exact .inl grm_sum
  · injection h with h; subst h; exact .inl wr_sum
  · injection h with h; subst h; exact .inl smr_sum
  · injection h with h; subst h; exact .inl chk_sum
  · injection h with h; subst h; exact .inl krd_sum
  · injection h with h; subst h; exact .inl rwr_sum
  · cases h), (fun t d h => by cases h)⟩
section
attribute [local go_sem] Tryd.f16 kLKw kKs kGrM kWr kSmR kCh kKrd kRWr cfgKZb tyTabM tyTabK tyTab
theorem lkw_body (p : kLKw.Par) (hp : ∀ q ∈ kLKw.pre p, q) : BodyOK Tryd.prog cfgKZb Tryd.f16 (Tryd.f16.body.get rfl) kLKw p := by
  obtain ⟨⟨(akd : Int), (acl : List UInt8), (asv : List UInt8), (ano : UInt64), (aen : Int), (afl : Int), (ati : List UInt8), (ase : List UInt8), (aco : Int), u1⟩, u⟩ := p
  refine ⟨?_, Nat.zero_le _, rfl, rfl⟩
  show Tri _ _ _ (Code.seq _ (Code.seq (Code.seq _ (Code.cond _ (Code.seq _ _) _)) (Code.seq (Code.seq _ (Code.cond _ (Code.seq _ _) _)) (Code.seq _ (Code.seq _ (Code.seq (Code.seq _ (Code.cond _ (Code.seq _ _) _)) (Code.seq (Code.seq _ (Code.cond _ (Code.seq _ _) _)) (Code.seq _ (Code.seq _ _))))))))) _
  cases g1 : grM (akd, acl, asv, ano, aen, afl, ati, ase, aco, u1) with
  | true =>
    refine Tri.at (by first | (simp only [g1, Con.start, go_sem]; rfl) | rfl) ?_
    repeat (first | ((first | refine Tri.seq (Tri.regT (cfgKZb_ok.pins _) ?_) | refine Tri.rgnT (cfgKZb_ok.pins _) ?_); (repeat (first | refine RunT.oneA (hp := by simp (maxSteps := 2000000) (disch := first | decide | omega | (simp only [List.length_append, List.length_cons, List.length_nil, List.length_take, List.length_drop]; omega)) only [g1, go_sem]; rfl) (h := ?_) | refine RunT.notA (h := ?_))); refine RunT.nil ?_; try simp only [InBlock, Then]) | refine Tri.cF (by first | (simp only [g1, go_sem]; done) | fail) ?_ | refine Tri.cT (by first | (simp only [g1, go_sem]; done) | fail) ?_ | (refine Tri.skip ?_; try simp only [InBlock, Then]) | (refine Tri.exit ?_; simp only [Then, InBlock, if_true, if_false, ↓reduceIte, Nat.reduceEqDiff]) | refine Tri.seq (Tri.block ?_) | refine Tri.block ?_ | refine Tri.seq ?_ | (refine Tri.ret ?_; refine Con.fin (.inl rfl) (by simp only [Tryd.f16, cfgKZb, resA, resA1, go_sem]; rfl) (by simp only [Obs, and_true, true_and]) (by first | (simp only [kLKw, Con.of, Con.ofO, resV, g1, go_sem]; done) | fail) trivial rfl rfl))
  | false =>
  obtain ⟨a1, a2, a3, a4⟩ := grm_no g1
  replace a1 : acl.length ≤ 300 := a1
  replace a2 : asv.length ≤ 300 := a2
  replace a3 : ati.length ≤ 4000 := a3
  replace a4 : ase.length ≤ 4000 := a4
  have z1 : decide ((0 : Int) = 0) = true := rfl
  have z2 : decide ((1 : Int) = 0) = false := rfl
  have z3 : decide ((1 : Int) = 1) = true := rfl
  have w := rw_eq (m := (akd, acl, asv, ano, aen, afl, ati, ase, aco, u1)) (Nat.le_trans a1 (by decide)) (Nat.le_trans a2 (by decide)) (Nat.le_trans a3 (by decide)) (Nat.le_trans a4 (by decide))
  cases ha : fdR (akd, acl, asv, ano, aen, afl, ati, ase, aco, u1) with
  | none =>
    have e1 : wrV (akd, acl, asv, ano, aen, afl, ati, ase, aco, u1) = .tuple [.nilsl, .int .i64 (1 : Int)] := by rw [wrV, ha]
    have e2 : rwV (akd, acl, asv, ano, aen, afl, ati, ase, aco, u1) = .tuple [.pure (.slice true (.int .u8)) [], .int .i64 (1 : Int)] := by rw [w, ha]
    have e3 : chV (akd, acl, asv, ano, aen, afl, ati, ase, aco, u1) = 1 := by rw [chV, ha]
    have e4 : strEq [] [] = true := rfl
    refine Tri.at (by first | (simp only [g1, z1, z2, z3, e1, e2, e3, e4, Con.start, go_sem]; rfl) | rfl) ?_
    repeat (first | ((first | refine Tri.seq (Tri.regT (cfgKZb_ok.pins _) ?_) | refine Tri.rgnT (cfgKZb_ok.pins _) ?_); (repeat (first | refine RunT.oneA (hp := by simp (maxSteps := 2000000) (disch := first | decide | omega | (simp only [List.length_append, List.length_cons, List.length_nil, List.length_take, List.length_drop]; omega)) only [g1, z1, z2, z3, e1, e2, e3, e4, go_sem]; rfl) (h := ?_) | refine RunT.notA (h := ?_))); refine RunT.nil ?_; try simp only [InBlock, Then]) | refine Tri.cF (by first | (simp only [g1, z1, z2, z3, e1, e2, e3, e4, go_sem]; done) | fail) ?_ | refine Tri.cT (by first | (simp only [g1, z1, z2, z3, e1, e2, e3, e4, go_sem]; done) | fail) ?_ | (refine Tri.skip ?_; try simp only [InBlock, Then]) | (refine Tri.exit ?_; simp only [Then, InBlock, if_true, if_false, ↓reduceIte, Nat.reduceEqDiff]) | refine Tri.seq (Tri.block ?_) | refine Tri.block ?_ | refine Tri.seq ?_ | (refine Tri.ret ?_; refine Con.fin (.inl rfl) (by simp only [Tryd.f16, cfgKZb, resA, resA1, go_sem]; rfl) (by simp only [Obs, and_true, true_and]) (by first | (simp only [kLKw, Con.of, Con.ofO, resV, g1, z1, z2, z3, e1, e2, e3, e4, go_sem]; done) | fail) trivial rfl rfl))
  | some fa =>
    have e1 : wrV (akd, acl, asv, ano, aen, afl, ati, ase, aco, u1) = .tuple [.pure (.slice true (.int .u8)) (jnK fa), .int .i64 (0 : Int)] := by rw [wrV, ha]
    have e2 : rwV (akd, acl, asv, ano, aen, afl, ati, ase, aco, u1) = .tuple [.pure (.slice true (.int .u8)) (jnK fa), .int .i64 (0 : Int)] := by rw [w, ha]
    have e3 : chV (akd, acl, asv, ano, aen, afl, ati, ase, aco, u1) = 0 := by rw [chV, ha]
    obtain ⟨q1, q2⟩ := fdR_ok ha
    have hjl : (jnK fa).length ≤ 458766 := Nat.le_trans (jnKx_len fa q2) (Nat.mul_le_mul_right 65538 q1)
    obtain ⟨r1, r2⟩ := rd_wr ha
    have e4 : strEq (jnK fa) (jnK fa) = true := decide_eq_true rfl
    have e5 : rdV (jnK fa) = .tuple [.pure krK (akd, acl, asv, ano, aen, afl, ati, ase, aco, u1), .int .i64 (0 : Int)] := by rw [rdV, r2, r1]; rfl
    have e6 := smR_self (akd, acl, asv, ano, aen, afl, ati, ase, aco, u1)
    generalize hJ : jnK fa = J at *
    refine Tri.at (by first | (simp only [g1, z1, z2, z3, e1, e2, e3, e4, e5, e6, Con.start, go_sem]; rfl) | rfl) ?_
    repeat (first | ((first | refine Tri.seq (Tri.regT (cfgKZb_ok.pins _) ?_) | refine Tri.rgnT (cfgKZb_ok.pins _) ?_); (repeat (first | refine RunT.oneA (hp := by simp (maxSteps := 2000000) (disch := first | decide | omega | (simp only [List.length_append, List.length_cons, List.length_nil, List.length_take, List.length_drop]; omega)) only [g1, z1, z2, z3, e1, e2, e3, e4, e5, e6, go_sem]; rfl) (h := ?_) | refine RunT.notA (h := ?_))); refine RunT.nil ?_; try simp only [InBlock, Then]) | refine Tri.cF (by first | (simp only [g1, z1, z2, z3, e1, e2, e3, e4, e5, e6, go_sem]; done) | fail) ?_ | refine Tri.cT (by first | (simp only [g1, z1, z2, z3, e1, e2, e3, e4, e5, e6, go_sem]; done) | fail) ?_ | (refine Tri.skip ?_; try simp only [InBlock, Then]) | (refine Tri.exit ?_; simp only [Then, InBlock, if_true, if_false, ↓reduceIte, Nat.reduceEqDiff]) | refine Tri.seq (Tri.block ?_) | refine Tri.block ?_ | refine Tri.seq ?_ | (refine Tri.ret ?_; refine Con.fin (.inl rfl) (by simp only [Tryd.f16, cfgKZb, resA, resA1, go_sem]; rfl) (by simp only [Obs, and_true, true_and]) (by first | (simp only [kLKw, Con.of, Con.ofO, resV, g1, z1, z2, z3, e1, e2, e3, e4, e5, e6, go_sem]; done) | fail) trivial rfl rfl))
theorem lkw_sum : FSumOK Tryd.prog cfgKZb.G 16 kLKw.sum := Con.sumOK cfgKZb_ok kLKw Tryd.func16 rfl rfl (Con.of_inv _ _ _) lkw_body
end
end Go.Proofs.YtjdeaphfamenaaaDoor
