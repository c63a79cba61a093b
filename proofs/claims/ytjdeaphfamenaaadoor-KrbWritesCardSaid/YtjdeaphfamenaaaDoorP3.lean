/- Part of a proof: messages are written as the document says, and what was written is read again -/
import Derived.Test.YtjdeaphfamenaaaDoorP2
import Derived.Test.YtjdeaphfamenaaaDoorP1
set_option linter.unusedVariables false
set_option linter.unusedSimpArgs false
set_option linter.unusedSectionVars false
namespace Go.Proofs.YtjdeaphfamenaaaDoor
open Go.Vc Go.Proofs
set_option maxRecDepth 10000
set_option maxHeartbeats 4000000
def rdF (d : List UInt8) : List flK.T := match (spF d.length d []).1 with | some fs => fs | none => []
def rdM (d : List UInt8) : krK.T := (rdF d).foldl (fun b f => stM b f.1 f.2.1) (fd0 0)
def rdX (d : List UInt8) : Bool := match fdR (rdM d) with | some fs => strEq (jnK fs) d | none => false
def rdV (d : List UInt8) : AV := if rdX d = true then .tuple [.pure krK (rdM d), .int .i64 (0 : Int)] else .tuple [.pure krK (fd0 0), .int .i64 (21 : Int)]
theorem spF_cnt : ∀ (k : Nat) (d : List UInt8) (acc fs : List flK.T) (e : Int), spF k d acc = (some fs, e) → fs.length ≤ acc.length + k
  | 0, d, acc, fs, e, h => by
    simp only [spF, Prod.mk.injEq, Option.some.injEq] at h
    rw [← h.1]; exact Nat.le_refl _
  | k + 1, d, acc, fs, e, h => by
    rw [spF] at h
    split at h
    · simp only [Prod.mk.injEq, Option.some.injEq] at h
      rw [← h.1]; exact Nat.le_add_right _ _
    · split at h
      · cases h
      · split at h
        · cases h
        · split at h
          · cases h
          · have := spF_cnt k _ _ fs e h
            rw [List.length_append] at this
            simp only [List.length_cons, List.length_nil] at this
            omega
def kKrd : Con := Con.of [.v (.slice false (.int .u8))] (fun x => [List.length (α := UInt8) x.1 ≤ 1000000]) (fun x => ⟨rdV x.1, []⟩)
def cfgKS1 : Cfg2 := { ty := tyTabM, fn := fun | 72 => some kSpt.sum | 73 => some kSet.sum | 32 => some kWr.sum | 74 => some kEqB.sum | _ => none, G := gNone, pin := [], eq := fun _ => none }
theorem cfgKS1_ok : CfgOK Tryd.prog cfgKS1 := ⟨tyTabM_ok, (fun f s h => by
  simp only [cfgKS1] at h
  split at h
  · injection h with h; subst h; exact .inl spt_sum
  · injection h with h; subst h; exact .inl set_sum
  · injection h with h; subst h; exact .inl wr_sum
  · injection h with h; subst h; exact .inl eqb_sum
  · cases h), (fun t d h => by cases h)⟩
section
attribute [local go_sem] Tryd.f41 kKrd kSpt kSet kWr kEqB cfgKS1 tyTabM tyTabK tyTab
theorem krd_body (p : kKrd.Par) (hp : ∀ q ∈ kKrd.pre p, q) : BodyOK Tryd.prog cfgKS1 Tryd.f41 (Tryd.f41.body.get rfl) kKrd p := by
  obtain ⟨(d : List UInt8), u⟩ := p
  obtain ⟨h0, _⟩ := Obs.of hp
  replace h0 : d.length ≤ 1000000 := h0
  refine ⟨?_, Nat.zero_le _, (by show (rdV d).strict = true; unfold rdV; split <;> rfl), rfl⟩
  show Tri _ _ _ (Code.seq _ (Code.seq _ (Code.seq (Code.seq _ (Code.block _ (Code.loop (Code.seq _ (Code.seq (Code.cond _ _ _) (Code.seq (Code.block _ (Code.seq _ _)) _)))))) (Code.seq (Code.seq _ (Code.seq _ (Code.cond _ (Code.seq _ _) _))) (Code.seq _ _))))) _
  cases hq : spF d.length d [] with
  | mk q e =>
  cases q with
  | none =>
    have e1 : spV d = .tuple [.nilsl, .int .i64 e] := by rw [spV, hq]
    have hF : rdF d = [] := by rw [rdF, hq]
    have hR : rdM d = fd0 0 := by rw [rdM, hF]; rfl
    have hw : fdR (fd0 0) = none := by decide +kernel
    have w1 : wrV (fd0 0) = .tuple [.nilsl, .int .i64 (1 : Int)] := by rw [wrV, hw]
    have x1 : rdX d = false := by rw [rdX, hR, hw]
    have v1 : rdV d = .tuple [.pure krK (fd0 0), .int .i64 (21 : Int)] := by rw [rdV, x1]; rfl
    have m1 : List.length (α := UInt8) (fd0 0).2.1 ≤ 1000000000 := Nat.zero_le _
    have m2 : List.length (α := UInt8) (fd0 0).2.2.1 ≤ 1000000000 := Nat.zero_le _
    have m3 : List.length (α := UInt8) (fd0 0).2.2.2.2.2.2.1 ≤ 1000000000 := Nat.zero_le _
    have m4 : List.length (α := UInt8) (fd0 0).2.2.2.2.2.2.2.1 ≤ 1000000000 := Nat.zero_le _
    refine Tri.at (by first | (simp only [Con.start, go_sem]; rfl) | rfl) ?_
    repeat (first | ((first | refine Tri.seq (Tri.regT (cfgKS1_ok.pins _) ?_) | refine Tri.rgnT (cfgKS1_ok.pins _) ?_); (repeat (first | refine RunT.oneA (hp := by simp (maxSteps := 2000000) (disch := first | decide | omega | (simp only [List.length_append, List.length_cons, List.length_nil, List.length_take, List.length_drop]; omega)) only [e1, go_sem]; rfl) (h := ?_) | refine RunT.notA (h := ?_))); refine RunT.nil ?_; try simp only [InBlock, Then]) | refine Tri.cF (by first | (simp only [go_sem]; done) | fail) ?_ | refine Tri.cT (by first | (simp only [go_sem]; done) | fail) ?_ | (refine Tri.skip ?_; try simp only [InBlock, Then]) | (refine Tri.exit ?_; simp only [Then, InBlock, if_true, if_false, ↓reduceIte, Nat.reduceEqDiff]) | refine Tri.seq (Tri.block ?_) | refine Tri.block ?_ | refine Tri.seq ?_ | (refine Tri.ret ?_; refine Con.fin (.inl rfl) (by simp only [Tryd.f41, cfgKS1, resA, resA1, go_sem]; rfl) (by simp only [Obs, and_true, true_and]) (by first | (simp only [kKrd, Con.of, Con.ofO, resV, e1, go_sem]; done) | fail) trivial rfl rfl))
    refine Tri.loop (fun i : Nat => (⟨[some (.pure (.slice false (.int .u8)) d), none, some (.ptr 0 [] 0), some (.int .i64 (0 : Int)), none, none, none, none, none, none, none, none, none, none, none, some (.nilsl), some (.int .i64 (0 : Int)), some (.int .i64 (0 : Int))] ++ List.replicate 24 none, [.live (.pure krK (fd0 0))]⟩ : AS)) (fun i => True) (fun i => 0) 0 ?_ True.intro ?_
    · refine Wk.of ?_ ?_ rfl rfl
      · simp only [lessTs, List.reduceReplicate, List.cons_append, List.nil_append] <;> ((repeat' apply And.intro) <;> first | with_reducible rfl | exact True.intro | exact congrArg (fun z : Int => some (AV.int IntKind.i64 z)) (show (_ : Int) = _ by omega) | exact congrArg (fun z : Nat => some (AV.tsl _ _ _ _ _ z)) (show (_ : Nat) = _ by omega) | exact arrEq (by omega) (by with_reducible rfl))
      exact ⟨rfl, trivial⟩
    · intro i _
      have z1 : decide ((1 : Int) = 0) = false := rfl
      have z2 : decide ((0 : Int) < 0) = false := rfl
      refine Tri.at (by first | (simp only [go_sem]; rfl) | rfl) ?_
      repeat (first | ((first | refine Tri.seq (Tri.regT (cfgKS1_ok.pins _) ?_) | refine Tri.rgnT (cfgKS1_ok.pins _) ?_); (repeat (first | refine RunT.oneA (hp := by simp (maxSteps := 2000000) (disch := first | decide | omega | (simp only [List.length_append, List.length_cons, List.length_nil, List.length_take, List.length_drop]; omega)) only [w1, go_sem]; rfl) (h := ?_) | refine RunT.notA (h := ?_))); refine RunT.nil ?_; try simp only [InBlock, Then]) | refine Tri.cF (by first | (simp only [go_sem]; done) | fail) ?_ | refine Tri.cT (by first | (simp only [go_sem]; done) | fail) ?_ | (refine Tri.skip ?_; try simp only [InBlock, Then]) | (refine Tri.exit ?_; simp only [Then, InBlock, ↓reduceIte]) | refine Tri.seq (Tri.block ?_) | refine Tri.block ?_ | refine Tri.seq ?_ | (refine Tri.ret ?_; refine Con.fin (.inl rfl) (by simp only [Tryd.f41, cfgKS1, resA, resA1, go_sem]; rfl) (by simp only [Obs, and_true]) (by first | (simp only [kKrd, Con.of, resV, go_sem]; done) | fail) trivial rfl rfl))
      refine Tri.ret ?_
      refine Con.fin (.inl rfl) (by simp only [Tryd.f41, cfgKS1, resA, resA1, go_sem]; rfl) (by simp only [Obs, and_true]) ?_ ?_ ?_ rfl
      · exact v1.symm
      · exact True.intro
      · show (AS.mk [some (rdV d)] []).closed = true
        rw [v1]; rfl
  | some fs =>
    have e1 : spV d = .tuple [.pure (.slice true flK) fs, .int .i64 (0 : Int)] := by rw [spV, hq]
    have hF : rdF d = fs := by rw [rdF, hq]
    have hfl : spL 1000000 fs := spF_len 1000000 _ d [] h0 (fun f hf => by simp at hf) fs e hq
    have hfn : fs.length ≤ 1000000 := by
      have := spF_cnt _ d [] fs e hq
      simp only [List.length_nil] at this
      omega
    refine Tri.at (by first | (simp only [Con.start, go_sem]; rfl) | rfl) ?_
    repeat (first | ((first | refine Tri.seq (Tri.regT (cfgKS1_ok.pins _) ?_) | refine Tri.rgnT (cfgKS1_ok.pins _) ?_); (repeat (first | refine RunT.oneA (hp := by simp (maxSteps := 2000000) (disch := first | decide | omega | (simp only [List.length_append, List.length_cons, List.length_nil, List.length_take, List.length_drop]; omega)) only [e1, go_sem]; rfl) (h := ?_) | refine RunT.notA (h := ?_))); refine RunT.nil ?_; try simp only [InBlock, Then]) | refine Tri.cF (by first | (simp only [go_sem]; done) | fail) ?_ | refine Tri.cT (by first | (simp only [go_sem]; done) | fail) ?_ | (refine Tri.skip ?_; try simp only [InBlock, Then]) | (refine Tri.exit ?_; simp only [Then, InBlock, if_true, if_false, ↓reduceIte, Nat.reduceEqDiff]) | refine Tri.seq (Tri.block ?_) | refine Tri.block ?_ | refine Tri.seq ?_ | (refine Tri.ret ?_; refine Con.fin (.inl rfl) (by simp only [Tryd.f41, cfgKS1, resA, resA1, go_sem]; rfl) (by simp only [Obs, and_true, true_and]) (by first | (simp only [kKrd, Con.of, Con.ofO, resV, e1, go_sem]; done) | fail) trivial rfl rfl))
    refine Tri.loop (fun i : Nat => (⟨[some (.pure (.slice false (.int .u8)) d), none, some (.ptr 0 [] 0), some (.int .i64 (0 : Int)), none, none, none, none, none, none, none, none, none, none, none, some (.pure (.slice true flK) fs), some (.int .i64 (fs.length : Int)), some (.int .i64 (i : Int))] ++ List.replicate 24 none, [.live (.pure krK ((fs.take i).foldl (fun b f => stM b f.1 f.2.1) (fd0 0)))]⟩ : AS)) (fun i => i ≤ fs.length) (fun i => fs.length - i) 0 ?_ (Nat.zero_le _) ?_
    · refine Wk.of ?_ ?_ rfl rfl
      · simp only [lessTs, List.reduceReplicate, List.cons_append, List.nil_append] <;> ((repeat' apply And.intro) <;> first | with_reducible rfl | exact True.intro | exact congrArg (fun z : Int => some (AV.int IntKind.i64 z)) (show (_ : Int) = _ by omega) | exact congrArg (fun z : Nat => some (AV.tsl _ _ _ _ _ z)) (show (_ : Nat) = _ by omega) | exact arrEq (by omega) (by with_reducible rfl))
      exact ⟨rfl, trivial⟩
    · intro i hi
      by_cases hc : i < fs.length
      · have hc' : decide ((i : Int) < (fs.length : Int)) = true := decide_eq_true (by omega)
        have hmem : fs.getD i (0, [], ()) ∈ fs := by
          rw [List.getD_eq_getElem?_getD, List.getElem?_eq_getElem hc]; exact List.getElem_mem hc
        have hfo : (fs.take (i + 1)).foldl (fun b f => stM b f.1 f.2.1) (fd0 0) = stM ((fs.take i).foldl (fun b f => stM b f.1 f.2.1) (fd0 0)) (fs.getD i (0, [], ())).1 (fs.getD i (0, [], ())).2.1 := by
          rw [List.take_add_one, List.getElem?_eq_getElem hc, Option.toList_some, List.foldl_append, List.getD_eq_getElem?_getD, List.getElem?_eq_getElem hc]; rfl
        have hbl := hfl _ hmem
        generalize hfd : fs.getD i (0, [], ()) = f at *
        obtain ⟨(tg : Int), (vl : List UInt8), u1⟩ := f
        replace hbl : vl.length ≤ 1000000 := hbl
        generalize hM : (fs.take i).foldl (fun b f => stM b f.1 f.2.1) (fd0 0) = M at *
        refine Tri.at (by first | (simp only [go_sem]; rfl) | rfl) ?_
        repeat (first | ((first | refine Tri.seq (Tri.regT (cfgKS1_ok.pins _) ?_) | refine Tri.rgnT (cfgKS1_ok.pins _) ?_); (repeat (first | refine RunT.oneA (hp := by simp (maxSteps := 2000000) (disch := first | decide | omega | (simp only [List.length_append, List.length_cons, List.length_nil, List.length_take, List.length_drop]; omega)) only [hc', hfd, go_sem]; rfl) (h := ?_) | refine RunT.notA (h := ?_))); refine RunT.nil ?_; try simp only [InBlock, Then]) | ((first | refine Tri.seq (Tri.drwT (mixed) (cfgKS1_ok.pins _) ?_) | refine Tri.drnT (mixed) (cfgKS1_ok.pins _) ?_); (repeat (first | refine RunD.oneA (hp := by simp (maxSteps := 2000000) (disch := first | decide | omega | (simp only [List.length_append, List.length_cons, List.length_nil, List.length_take, List.length_drop]; omega)) only [hc', hfd, go_sem]; rfl) (h := ?_) | refine RunD.notA (h := ?_))); refine RunD.nil ?_; refine ⟨by kernel_rfl, ?_⟩; try simp only [InBlock, Then]) | refine Tri.cF (by first | (simp only [go_sem]; done) | fail) ?_ | refine Tri.cT (by first | (simp only [go_sem]; done) | fail) ?_ | (refine Tri.skip ?_; try simp only [Then]) | (refine Tri.exit ?_; simp only [Then, InBlock, if_true, if_false, ↓reduceIte, Nat.reduceEqDiff]) | refine Tri.seq (Tri.block ?_) | refine Tri.block ?_ | refine Tri.seq ?_ | (refine Tri.ret ?_; refine Con.fin (.inl rfl) (by simp only [Tryd.f41, cfgKS1, resA, resA1, go_sem]; rfl) (by simp only [Obs, and_true, true_and]) (by first | (simp only [kKrd, Con.of, Con.ofO, resV, hc', hfd, go_sem]; done) | fail) trivial rfl rfl))
        refine ⟨i + 1, (by omega), (by omega), Wk.of ?_ ?_ rfl rfl⟩
        · simp only [lessTs, List.reduceReplicate, List.cons_append, List.nil_append] <;> ((repeat' apply And.intro) <;> first | with_reducible rfl | exact True.intro | exact congrArg (fun z : Int => some (AV.int IntKind.i64 z)) (show (_ : Int) = _ by omega) | exact congrArg (fun z : Nat => some (AV.tsl _ _ _ _ _ z)) (show (_ : Nat) = _ by omega) | exact arrEq (by omega) (by with_reducible rfl))
        · exact ⟨congrArg (fun z : krK.T => Slot.live (.pure krK z)) hfo.symm, trivial⟩
      · have hc' : decide ((i : Int) < (fs.length : Int)) = false := decide_eq_false (by omega)
        rw [List.take_of_length_le (by omega)]
        have hml : mlN 1000000 (fs.foldl (fun b f => stM b f.1 f.2.1) (fd0 0)) := fold_len fs _ ⟨Nat.zero_le _, Nat.zero_le _, Nat.zero_le _, Nat.zero_le _⟩ hfl
        have hrm : rdM d = fs.foldl (fun b f => stM b f.1 f.2.1) (fd0 0) := by rw [rdM, hF]
        rw [← hrm] at hml ⊢
        obtain ⟨m1, m2, m3, m4⟩ := hml
        generalize hR : rdM d = R at *
        have m1' : List.length (α := UInt8) R.2.1 ≤ 1000000000 := by omega
        have m2' : List.length (α := UInt8) R.2.2.1 ≤ 1000000000 := by omega
        have m3' : List.length (α := UInt8) R.2.2.2.2.2.2.1 ≤ 1000000000 := by omega
        have m4' : List.length (α := UInt8) R.2.2.2.2.2.2.2.1 ≤ 1000000000 := by omega
        have z1 : decide ((0 : Int) = 0) = true := rfl
        have z2 : decide ((1 : Int) = 0) = false := rfl
        cases hw : fdR R with
        | none =>
          have w1 : wrV R = .tuple [.nilsl, .int .i64 (1 : Int)] := by rw [wrV, hw]
          have x1 : rdX d = false := by rw [rdX, hR, hw]
          have v1 : rdV d = .tuple [.pure krK (fd0 0), .int .i64 (21 : Int)] := by rw [rdV, x1]; rfl
          refine Tri.at (by first | (simp only [go_sem]; rfl) | rfl) ?_
          repeat (first | ((first | refine Tri.seq (Tri.regT (cfgKS1_ok.pins _) ?_) | refine Tri.rgnT (cfgKS1_ok.pins _) ?_); (repeat (first | refine RunT.oneA (hp := by simp (maxSteps := 2000000) (disch := first | decide | omega | (simp only [List.length_append, List.length_cons, List.length_nil, List.length_take, List.length_drop]; omega)) only [hc', w1, go_sem]; rfl) (h := ?_) | refine RunT.notA (h := ?_))); refine RunT.nil ?_; try simp only [InBlock, Then]) | refine Tri.cF (by first | (simp only [go_sem]; done) | fail) ?_ | refine Tri.cT (by first | (simp only [go_sem]; done) | fail) ?_ | (refine Tri.skip ?_; try simp only [InBlock, Then]) | (refine Tri.exit ?_; simp only [Then, InBlock, ↓reduceIte]) | refine Tri.seq (Tri.block ?_) | refine Tri.block ?_ | refine Tri.seq ?_ | (refine Tri.ret ?_; refine Con.fin (.inl rfl) (by simp only [Tryd.f41, cfgKS1, resA, resA1, go_sem]; rfl) (by simp only [Obs, and_true]) (by first | (simp only [kKrd, Con.of, resV, go_sem]; done) | fail) trivial rfl rfl))
          refine Tri.ret ?_
          refine Con.fin (.inl rfl) (by simp only [Tryd.f41, cfgKS1, resA, resA1, go_sem]; rfl) (by simp only [Obs, and_true]) ?_ ?_ ?_ rfl
          · exact v1.symm
          · exact True.intro
          · show (AS.mk [some (rdV d)] []).closed = true
            rw [v1]; rfl
        | some gs =>
          have w1 : wrV R = .tuple [.pure (.slice true (.int .u8)) (jnK gs), .int .i64 (0 : Int)] := by rw [wrV, hw]
          have hjl : (jnK gs).length ≤ 9223372036854775807 := by
            obtain ⟨q1, q2⟩ := fdR_ok hw
            exact Nat.le_trans (jnKx_len gs q2) (Nat.le_trans (Nat.mul_le_mul_right 65538 q1) (by decide))
          cases hs : strEq (jnK gs) d with
          | false =>
            have x1 : rdX d = false := by rw [rdX, hR, hw]; exact hs
            have v1 : rdV d = .tuple [.pure krK (fd0 0), .int .i64 (21 : Int)] := by rw [rdV, x1]; rfl
            refine Tri.at (by first | (simp only [go_sem]; rfl) | rfl) ?_
            repeat (first | ((first | refine Tri.seq (Tri.regT (cfgKS1_ok.pins _) ?_) | refine Tri.rgnT (cfgKS1_ok.pins _) ?_); (repeat (first | refine RunT.oneA (hp := by simp (maxSteps := 2000000) (disch := first | decide | omega | (simp only [List.length_append, List.length_cons, List.length_nil, List.length_take, List.length_drop]; omega)) only [hc', w1, hs, go_sem]; rfl) (h := ?_) | refine RunT.notA (h := ?_))); refine RunT.nil ?_; try simp only [InBlock, Then]) | refine Tri.cF (by first | (simp only [go_sem]; done) | fail) ?_ | refine Tri.cT (by first | (simp only [go_sem]; done) | fail) ?_ | (refine Tri.skip ?_; try simp only [InBlock, Then]) | (refine Tri.exit ?_; simp only [Then, InBlock, ↓reduceIte]) | refine Tri.seq (Tri.block ?_) | refine Tri.block ?_ | refine Tri.seq ?_ | (refine Tri.ret ?_; refine Con.fin (.inl rfl) (by simp only [Tryd.f41, cfgKS1, resA, resA1, go_sem]; rfl) (by simp only [Obs, and_true]) (by first | (simp only [kKrd, Con.of, resV, go_sem]; done) | fail) trivial rfl rfl))
            refine Tri.ret ?_
            refine Con.fin (.inl rfl) (by simp only [Tryd.f41, cfgKS1, resA, resA1, go_sem]; rfl) (by simp only [Obs, and_true]) ?_ ?_ ?_ rfl
            · exact v1.symm
            · exact True.intro
            · show (AS.mk [some (rdV d)] []).closed = true
              rw [v1]; rfl
          | true =>
            have x1 : rdX d = true := by rw [rdX, hR, hw]; exact hs
            have v1 : rdV d = .tuple [.pure krK R, .int .i64 (0 : Int)] := by rw [rdV, if_pos x1, hR]
            refine Tri.at (by first | (simp only [go_sem]; rfl) | rfl) ?_
            repeat (first | ((first | refine Tri.seq (Tri.regT (cfgKS1_ok.pins _) ?_) | refine Tri.rgnT (cfgKS1_ok.pins _) ?_); (repeat (first | refine RunT.oneA (hp := by simp (maxSteps := 2000000) (disch := first | decide | omega | (simp only [List.length_append, List.length_cons, List.length_nil, List.length_take, List.length_drop]; omega)) only [hc', w1, hs, go_sem]; rfl) (h := ?_) | refine RunT.notA (h := ?_))); refine RunT.nil ?_; try simp only [InBlock, Then]) | refine Tri.cF (by first | (simp only [go_sem]; done) | fail) ?_ | refine Tri.cT (by first | (simp only [go_sem]; done) | fail) ?_ | (refine Tri.skip ?_; try simp only [Then]) | (refine Tri.exit ?_; simp only [Then, InBlock, ↓reduceIte]) | refine Tri.seq (Tri.block ?_) | refine Tri.block ?_ | refine Tri.seq ?_ | (refine Tri.ret ?_; refine Con.fin (.inl rfl) (by simp only [Tryd.f41, cfgKS1, resA, resA1, go_sem]; rfl) (by simp only [Obs, and_true]) (by first | (simp only [kKrd, Con.of, resV, go_sem]; done) | fail) trivial rfl rfl))
            refine Tri.ret ?_
            refine Con.fin (.inl rfl) (by simp only [Tryd.f41, cfgKS1, resA, resA1, go_sem]; rfl) (by simp only [Obs, and_true]) ?_ ?_ ?_ rfl
            · exact v1.symm
            · exact True.intro
            · show (AS.mk [some (rdV d)] []).closed = true
              rw [v1]; rfl
theorem krd_sum : FSumOK Tryd.prog cfgKS1.G 41 kKrd.sum := Con.sumOK cfgKS1_ok kKrd Tryd.func41 rfl rfl (Con.of_inv _ _ _) krd_body
end
end Go.Proofs.YtjdeaphfamenaaaDoor

namespace Go.Proofs.YtjdeaphfamenaaaDoor
open Go.Vc Go.Proofs
def bvN (b : List UInt8) : Nat → Nat
  | 0 => 0
  | i + 1 => bvN b i * 256 + (b.getD i 0).toNat
theorem bvN_lt (b : List UInt8) : ∀ i, bvN b i < 256 ^ i
  | 0 => by simp [bvN]
  | i + 1 => by
    have h := bvN_lt b i
    have h2 := UInt8.toNat_lt (b.getD i 0)
    rw [bvN, Nat.pow_succ]
    omega
theorem rdI_bvN (b : List UInt8) : ∀ i, i ≤ 8 → (rdI b i).toNat = bvN b i
  | 0, _ => rfl
  | i + 1, h => by
    have ih := rdI_bvN b i (by omega)
    have hl := bvN_lt b i
    have h256 : 256 ^ i ≤ 256 ^ 7 := Nat.pow_le_pow_right (by decide) (by omega)
    have h2 := UInt8.toNat_lt (b.getD i 0)
    have h7 : 256 ^ 7 * 256 = 2 ^ 64 := by decide
    rw [rdI, bvN, UInt64.toNat_or, UInt64.toNat_shiftLeft, ih]
    have e8 : (8 : UInt64).toNat % 64 = 8 := rfl
    rw [e8, Nat.shiftLeft_eq, Nat.mod_eq_of_lt (by omega), UInt8.toNat_toUInt64]
    have h3 := Nat.two_pow_add_eq_or_of_lt (i := 8) (b := (b.getD i 0).toNat) (by omega) (bvN b i)
    rw [Nat.mul_comm (bvN b i) (2 ^ 8), ← h3]
    try omega
theorem bvN_foldl (b : List UInt8) : ∀ i, i ≤ b.length → bvN b i = (b.take i).foldl (fun a x => a * 256 + UInt8.toNat x) 0
  | 0, _ => rfl
  | i + 1, h => by
    rw [bvN, bvN_foldl b i (by omega), List.take_add_one, List.getElem?_eq_getElem (by omega), List.foldl_append, List.getD_eq_getElem?_getD, List.getElem?_eq_getElem (by omega)]
    rfl
def lvN : List UInt8 → Nat
  | [] => 0
  | b :: r => lvN r * 256 + b.toNat
theorem bvN_rev (l : List UInt8) : bvN l.reverse l.length = lvN l := by
  have h := bvN_foldl l.reverse l.length (by rw [List.length_reverse]; exact Nat.le_refl _)
  rw [h, List.take_of_length_le (by rw [List.length_reverse]; exact Nat.le_refl _), List.foldl_reverse]
  induction l with
  | nil => rfl
  | cons b r ih =>
    rw [List.foldr_cons, lvN]
    have : List.foldr (fun x y => y * 256 + UInt8.toNat x) 0 r = lvN r := by
      have h2 := bvN_foldl r.reverse r.length (by rw [List.length_reverse]; exact Nat.le_refl _)
      exact ih (by rw [h2, List.take_of_length_le (by rw [List.length_reverse]; exact Nat.le_refl _), List.foldl_reverse])
    rw [this]
theorem shr8_nat (n : UInt64) : (n >>> 8).toNat = n.toNat / 256 := by
  rw [UInt64.toNat_shiftRight]; simp [Nat.shiftRight_eq_div_pow]
theorem lvN_leN : ∀ (k : Nat) (n : UInt64), n.toNat < 256 ^ k → lvN (leN k n) = n.toNat
  | 0, n, h => by
    have : n.toNat = 0 := by simpa using h
    rw [leN, this]; rfl
  | k + 1, n, h => by
    unfold leN
    split
    · rename_i e; rw [e]; rfl
    · have h1 := shr8_nat n
      have ih := lvN_leN k (n >>> 8) (shr8_lt h)
      rw [lvN, ih, h1, UInt64.toNat_toUInt8]
      have := Nat.div_add_mod n.toNat 256
      have e : (2 : Nat) ^ 8 = 256 := rfl
      rw [e]
      omega
theorem leN_last : ∀ (k : Nat) (n : UInt64), n.toNat < 256 ^ k → ∀ h : leN k n ≠ [], (leN k n).getLast h ≠ 0
  | 0, n, _, h => absurd rfl h
  | k + 1, n, hn, h => by
    have hz : n ≠ 0 := fun e => h (by unfold leN; rw [if_pos e])
    have e : leN (k + 1) n = n.toUInt8 :: leN k (n >>> 8) := by
      conv => lhs; unfold leN
      rw [if_neg hz]
    simp only [e]
    by_cases h0 : leN k (n >>> 8) = []
    · have h1 := lvN_leN k (n >>> 8) (shr8_lt hn)
      rw [h0, shr8_nat] at h1
      have h2 : n.toNat / 256 = 0 := h1.symm
      have h3 : n.toNat < 256 := by omega
      simp only [h0, List.getLast_singleton]
      intro hb
      have h4 : n.toUInt8.toNat = 0 := by rw [hb]; rfl
      rw [UInt64.toNat_toUInt8] at h4
      have h5 : n.toNat = 0 := by
        have e8 : (2 : Nat) ^ 8 = 256 := rfl
        rw [e8] at h4
        omega
      exact hz (UInt64.toNat_inj.1 h5)
    · rw [List.getLast_cons h0]
      exact leN_last k (n >>> 8) (shr8_lt hn) h0
theorem rd_num (n : UInt64) : rdB (numS n) = true ∧ rdU (numS n) = n := by
  have hn : n.toNat < 256 ^ 8 := UInt64.toNat_lt n
  have hl := numS_len n
  have hb : rdB (numS n) = true := by
    rw [rdB, decide_eq_false (by omega : ¬ (8 : Int) < ((numS n).length : Int)), Bool.false_or]
    cases hd : decide ((0 : Int) < ((numS n).length : Int)) with
    | false => rfl
    | true =>
      have hp : 0 < (numS n).length := by have := of_decide_eq_true hd; omega
      have hne : leN 8 n ≠ [] := fun e => by rw [numS, e] at hp; simp at hp
      have hla := leN_last 8 n hn hne
      have hg : (numS n).getD 0 0 = (leN 8 n).getLast hne := by
        rw [numS, List.getD_eq_getElem?_getD, ← List.head?_eq_getElem?, List.head?_reverse, List.getLast?_eq_some_getLast hne]
        rfl
      rw [hg, decide_eq_false hla]; rfl
  refine ⟨hb, ?_⟩
  rw [rdU, if_pos hb]
  refine UInt64.toNat_inj.1 ?_
  rw [rdI_bvN _ _ hl]
  have h1 := bvN_rev (leN 8 n)
  have h2 : (numS n).length = (leN 8 n).length := by rw [numS, List.length_reverse]
  rw [h2]
  show bvN (leN 8 n).reverse (leN 8 n).length = _
  rw [h1, lvN_leN 8 n hn]
theorem sm_num (x : Int) (h0 : 0 ≤ x) (h1 : x ≤ 1099511627776) : smN (rdU (numS (UInt64.ofInt x))) = x := by
  rw [(rd_num _).2, smN]
  have hx : (UInt64.ofInt x).toNat = x.toNat := by
    rw [UInt64.ofInt, UInt64.toNat_ofNat']
    omega
  have hd : decide ((1099511627777 : UInt64) < UInt64.ofInt x) = false := decide_eq_false fun h => by
    rw [UInt64.lt_iff_toNat_lt, hx] at h
    have : (1099511627777 : UInt64).toNat = 1099511627777 := rfl
    omega
  rw [hd, cond_false]
  show IntKind.i64.wrap (((UInt64.ofInt x).toNat : Nat) : Int) = x
  rw [hx, wrap_i64_id _ (by omega) (by omega)]
  omega
end Go.Proofs.YtjdeaphfamenaaaDoor

namespace Go.Proofs.YtjdeaphfamenaaaDoor
open Go.Vc Go.Proofs
set_option maxRecDepth 10000
set_option maxHeartbeats 1000000
theorem fdS_eq (m : krK.T) : ∀ (tags : List Int) (bare : krK.T) (fs : List flK.T), fdS m bare fs tags = if tags.all (vaO m) = true then some (fs ++ tags.map (fun t => ((t, vaB m t, ()) : flK.T)), tags.foldl (fun b t => stM b t (vaB m t)) bare) else none
  | [], bare, fs => by simp [fdS]
  | t :: r, bare, fs => by
    rw [fdS]
    cases h : vaO m t with
    | false => simp [h]
    | true =>
      rw [if_pos rfl, fdS_eq m r, List.all_cons, h, Bool.true_and]
      simp [List.append_assoc]
theorem fdR_isSome (m : krK.T) : (fdR m).isSome = ((hasK m.1).all (vaO m) && (decide ((0 : Int) < (((hasK m.1).length : Nat) : Int)) && smM ((hasK m.1).foldl (fun b t => stM b t (vaB m t)) (fd0 m.1)) m)) := by
  unfold fdR
  rw [fdS_eq]
  cases h : (hasK m.1).all (vaO m) with
  | false => rfl
  | true =>
    rw [if_pos rfl, Bool.true_and]
    show (if (decide ((0 : Int) < (((hasK m.1).length : Nat) : Int)) && smM ((hasK m.1).foldl (fun b t => stM b t (vaB m t)) (fd0 m.1)) m) = true then some _ else none : Option (List flK.T)).isSome = _
    split
    · rename_i e; rw [e]; rfl
    · rename_i e; rw [Bool.not_eq_true] at e; rw [e]; rfl
theorem str_self (l : List UInt8) : strEq l l = true := decide_eq_true rfl
theorem sm_b (x : Int) (h : (!decide (x < 0) && !decide ((1099511627776 : Int) < x)) = true) : decide (smN (UInt64.ofInt x) = x) = true := by
  rw [Bool.and_eq_true, Bool.not_eq_true', Bool.not_eq_true', decide_eq_false_iff_not, decide_eq_false_iff_not] at h
  have e := sm_num x (by omega) (by omega)
  rw [(rd_num _).2] at e
  exact decide_eq_true e
theorem sm_f (x : Int) (h : (!decide (x < 0) && !decide ((3 : Int) < x)) = true) : decide (smN (UInt64.ofInt x) = x) = true := by
  rw [Bool.and_eq_true, Bool.not_eq_true', Bool.not_eq_true', decide_eq_false_iff_not, decide_eq_false_iff_not] at h
  have e := sm_num x (by omega) (by omega)
  rw [(rd_num _).2] at e
  exact decide_eq_true e
theorem sm_c (x : Int) (h : (!decide (x < 1) && !decide ((999 : Int) < x)) = true) : decide (smN (UInt64.ofInt x) = x) = true := by
  rw [Bool.and_eq_true, Bool.not_eq_true', Bool.not_eq_true', decide_eq_false_iff_not, decide_eq_false_iff_not] at h
  have e := sm_num x (by omega) (by omega)
  rw [(rd_num _).2] at e
  exact decide_eq_true e
variable (cl sv : List UInt8) (no : UInt64) (en fl : Int) (ti se : List UInt8) (co : Int)
theorem fd_1 : (fdR ((1 : Int), cl, sv, no, en, fl, ti, se, co, ())).isSome = (rgS (pwS cl) && (rgS (pwS sv) && ((!decide (en < 0) && !decide ((1099511627776 : Int) < en)) && ((!decide (fl < 0) && !decide ((3 : Int) < fl)) && (strEq [] ti && (strEq [] se && (decide ((0 : Int) = co)))))))) := by
  rw [fdR_isSome]
  show (([(32 : Int), (33 : Int), (34 : Int), (35 : Int), (36 : Int)].all (vaO ((1 : Int), cl, sv, no, en, fl, ti, se, co, ()))) && (true && smM ((1 : Int), cl, sv, rdU (numS no), smN (rdU (numS (UInt64.ofInt en))), smN (rdU (numS (UInt64.ofInt fl))), [], [], 0, ()) ((1 : Int), cl, sv, no, en, fl, ti, se, co, ()))) = _
  rw [show smM ((1 : Int), cl, sv, rdU (numS no), smN (rdU (numS (UInt64.ofInt en))), smN (rdU (numS (UInt64.ofInt fl))), [], [], 0, ()) ((1 : Int), cl, sv, no, en, fl, ti, se, co, ()) = (decide ((1 : Int) = 1) && (strEq cl cl && (strEq sv sv && (decide ((rdU (numS no) : UInt64) = no) && (decide ((smN (rdU (numS (UInt64.ofInt en))) : Int) = en) && (decide ((smN (rdU (numS (UInt64.ofInt fl))) : Int) = fl) && (decide ((0 : Int) = co) && (strEq [] ti && (strEq [] se))))))))) from rfl]
  have v32 : vaO ((1 : Int), cl, sv, no, en, fl, ti, se, co, ()) 32 = rgS (pwS cl) := rfl
  have v33 : vaO ((1 : Int), cl, sv, no, en, fl, ti, se, co, ()) 33 = rgS (pwS sv) := rfl
  have v34 : vaO ((1 : Int), cl, sv, no, en, fl, ti, se, co, ()) 34 = true := rfl
  have v35 : vaO ((1 : Int), cl, sv, no, en, fl, ti, se, co, ()) 35 = (!decide (en < 0) && !decide ((1099511627776 : Int) < en)) := rfl
  have v36 : vaO ((1 : Int), cl, sv, no, en, fl, ti, se, co, ()) 36 = (!decide (fl < 0) && !decide ((3 : Int) < fl)) := rfl
  simp only [List.all_cons, List.all_nil, v32, v33, v34, v35, v36, str_self, (rd_num _).2, decide_true, Bool.true_and, Bool.and_true]
  cases b35 : (!decide (en < 0) && !decide ((1099511627776 : Int) < en))
  all_goals cases b36 : (!decide (fl < 0) && !decide ((3 : Int) < fl))
  all_goals first
    | (simp; done)
    | (have s35 := sm_b en b35; rw [s35]; have s36 := sm_f fl b36; rw [s36]; simp [Bool.and_comm, Bool.and_assoc, Bool.and_left_comm])
    | (simp [Bool.and_comm, Bool.and_assoc, Bool.and_left_comm])
theorem fd_2 : (fdR ((2 : Int), cl, sv, no, en, fl, ti, se, co, ())).isSome = (strEq [] cl && (rgS (pwS sv) && ((!decide (en < 0) && !decide ((1099511627776 : Int) < en)) && ((!decide (fl < 0) && !decide ((3 : Int) < fl)) && (!decide ((3000 : Int) < ((ti.length : Nat) : Int)) && (!decide ((3000 : Int) < ((se.length : Nat) : Int)) && (decide ((0 : Int) = co)))))))) := by
  rw [fdR_isSome]
  show (([(33 : Int), (34 : Int), (35 : Int), (36 : Int), (37 : Int), (38 : Int)].all (vaO ((2 : Int), cl, sv, no, en, fl, ti, se, co, ()))) && (true && smM ((2 : Int), [], sv, rdU (numS no), smN (rdU (numS (UInt64.ofInt en))), smN (rdU (numS (UInt64.ofInt fl))), ti, se, 0, ()) ((2 : Int), cl, sv, no, en, fl, ti, se, co, ()))) = _
  rw [show smM ((2 : Int), [], sv, rdU (numS no), smN (rdU (numS (UInt64.ofInt en))), smN (rdU (numS (UInt64.ofInt fl))), ti, se, 0, ()) ((2 : Int), cl, sv, no, en, fl, ti, se, co, ()) = (decide ((2 : Int) = 2) && (strEq [] cl && (strEq sv sv && (decide ((rdU (numS no) : UInt64) = no) && (decide ((smN (rdU (numS (UInt64.ofInt en))) : Int) = en) && (decide ((smN (rdU (numS (UInt64.ofInt fl))) : Int) = fl) && (decide ((0 : Int) = co) && (strEq ti ti && (strEq se se))))))))) from rfl]
  have v33 : vaO ((2 : Int), cl, sv, no, en, fl, ti, se, co, ()) 33 = rgS (pwS sv) := rfl
  have v34 : vaO ((2 : Int), cl, sv, no, en, fl, ti, se, co, ()) 34 = true := rfl
  have v35 : vaO ((2 : Int), cl, sv, no, en, fl, ti, se, co, ()) 35 = (!decide (en < 0) && !decide ((1099511627776 : Int) < en)) := rfl
  have v36 : vaO ((2 : Int), cl, sv, no, en, fl, ti, se, co, ()) 36 = (!decide (fl < 0) && !decide ((3 : Int) < fl)) := rfl
  have v37 : vaO ((2 : Int), cl, sv, no, en, fl, ti, se, co, ()) 37 = !decide ((3000 : Int) < ((ti.length : Nat) : Int)) := rfl
  have v38 : vaO ((2 : Int), cl, sv, no, en, fl, ti, se, co, ()) 38 = !decide ((3000 : Int) < ((se.length : Nat) : Int)) := rfl
  simp only [List.all_cons, List.all_nil, v33, v34, v35, v36, v37, v38, str_self, (rd_num _).2, decide_true, Bool.true_and, Bool.and_true]
  cases b35 : (!decide (en < 0) && !decide ((1099511627776 : Int) < en))
  all_goals cases b36 : (!decide (fl < 0) && !decide ((3 : Int) < fl))
  all_goals first
    | (simp; done)
    | (have s35 := sm_b en b35; rw [s35]; have s36 := sm_f fl b36; rw [s36]; simp [Bool.and_comm, Bool.and_assoc, Bool.and_left_comm])
    | (simp [Bool.and_comm, Bool.and_assoc, Bool.and_left_comm])
theorem fd_3 : (fdR ((3 : Int), cl, sv, no, en, fl, ti, se, co, ())).isSome = (strEq [] cl && (strEq [] sv && (decide ((0 : Int) = en) && (decide ((0 : Int) = fl) && (!decide ((3000 : Int) < ((ti.length : Nat) : Int)) && (!decide ((3000 : Int) < ((se.length : Nat) : Int)) && (decide ((0 : Int) = co)))))))) := by
  rw [fdR_isSome]
  show (([(34 : Int), (37 : Int), (38 : Int)].all (vaO ((3 : Int), cl, sv, no, en, fl, ti, se, co, ()))) && (true && smM ((3 : Int), [], [], rdU (numS no), 0, 0, ti, se, 0, ()) ((3 : Int), cl, sv, no, en, fl, ti, se, co, ()))) = _
  rw [show smM ((3 : Int), [], [], rdU (numS no), 0, 0, ti, se, 0, ()) ((3 : Int), cl, sv, no, en, fl, ti, se, co, ()) = (decide ((3 : Int) = 3) && (strEq [] cl && (strEq [] sv && (decide ((rdU (numS no) : UInt64) = no) && (decide ((0 : Int) = en) && (decide ((0 : Int) = fl) && (decide ((0 : Int) = co) && (strEq ti ti && (strEq se se))))))))) from rfl]
  have v34 : vaO ((3 : Int), cl, sv, no, en, fl, ti, se, co, ()) 34 = true := rfl
  have v37 : vaO ((3 : Int), cl, sv, no, en, fl, ti, se, co, ()) 37 = !decide ((3000 : Int) < ((ti.length : Nat) : Int)) := rfl
  have v38 : vaO ((3 : Int), cl, sv, no, en, fl, ti, se, co, ()) 38 = !decide ((3000 : Int) < ((se.length : Nat) : Int)) := rfl
  simp only [List.all_cons, List.all_nil, v34, v37, v38, str_self, (rd_num _).2, decide_true, Bool.true_and, Bool.and_true]
  simp [Bool.and_comm, Bool.and_assoc, Bool.and_left_comm]
theorem fd_4 : (fdR ((4 : Int), cl, sv, no, en, fl, ti, se, co, ())).isSome = (strEq [] cl && (strEq [] sv && (decide ((0 : Int) = en) && (decide ((0 : Int) = fl) && (!decide ((3000 : Int) < ((ti.length : Nat) : Int)) && (!decide ((3000 : Int) < ((se.length : Nat) : Int)) && (decide ((0 : Int) = co)))))))) := by
  rw [fdR_isSome]
  show (([(34 : Int), (37 : Int), (38 : Int)].all (vaO ((4 : Int), cl, sv, no, en, fl, ti, se, co, ()))) && (true && smM ((4 : Int), [], [], rdU (numS no), 0, 0, ti, se, 0, ()) ((4 : Int), cl, sv, no, en, fl, ti, se, co, ()))) = _
  rw [show smM ((4 : Int), [], [], rdU (numS no), 0, 0, ti, se, 0, ()) ((4 : Int), cl, sv, no, en, fl, ti, se, co, ()) = (decide ((4 : Int) = 4) && (strEq [] cl && (strEq [] sv && (decide ((rdU (numS no) : UInt64) = no) && (decide ((0 : Int) = en) && (decide ((0 : Int) = fl) && (decide ((0 : Int) = co) && (strEq ti ti && (strEq se se))))))))) from rfl]
  have v34 : vaO ((4 : Int), cl, sv, no, en, fl, ti, se, co, ()) 34 = true := rfl
  have v37 : vaO ((4 : Int), cl, sv, no, en, fl, ti, se, co, ()) 37 = !decide ((3000 : Int) < ((ti.length : Nat) : Int)) := rfl
  have v38 : vaO ((4 : Int), cl, sv, no, en, fl, ti, se, co, ()) 38 = !decide ((3000 : Int) < ((se.length : Nat) : Int)) := rfl
  simp only [List.all_cons, List.all_nil, v34, v37, v38, str_self, (rd_num _).2, decide_true, Bool.true_and, Bool.and_true]
  simp [Bool.and_comm, Bool.and_assoc, Bool.and_left_comm]
theorem fd_5 : (fdR ((5 : Int), cl, sv, no, en, fl, ti, se, co, ())).isSome = (strEq [] cl && (strEq [] sv && (decide ((0 : Int) = en) && (decide ((0 : Int) = fl) && (strEq [] ti && (!decide ((3000 : Int) < ((se.length : Nat) : Int)) && (decide ((0 : Int) = co)))))))) := by
  rw [fdR_isSome]
  show (([(34 : Int), (38 : Int)].all (vaO ((5 : Int), cl, sv, no, en, fl, ti, se, co, ()))) && (true && smM ((5 : Int), [], [], rdU (numS no), 0, 0, [], se, 0, ()) ((5 : Int), cl, sv, no, en, fl, ti, se, co, ()))) = _
  rw [show smM ((5 : Int), [], [], rdU (numS no), 0, 0, [], se, 0, ()) ((5 : Int), cl, sv, no, en, fl, ti, se, co, ()) = (decide ((5 : Int) = 5) && (strEq [] cl && (strEq [] sv && (decide ((rdU (numS no) : UInt64) = no) && (decide ((0 : Int) = en) && (decide ((0 : Int) = fl) && (decide ((0 : Int) = co) && (strEq [] ti && (strEq se se))))))))) from rfl]
  have v34 : vaO ((5 : Int), cl, sv, no, en, fl, ti, se, co, ()) 34 = true := rfl
  have v38 : vaO ((5 : Int), cl, sv, no, en, fl, ti, se, co, ()) 38 = !decide ((3000 : Int) < ((se.length : Nat) : Int)) := rfl
  simp only [List.all_cons, List.all_nil, v34, v38, str_self, (rd_num _).2, decide_true, Bool.true_and, Bool.and_true]
  simp [Bool.and_comm, Bool.and_assoc, Bool.and_left_comm]
theorem fd_6 : (fdR ((6 : Int), cl, sv, no, en, fl, ti, se, co, ())).isSome = (strEq [] cl && (strEq [] sv && (decide ((0 : Int) = en) && (decide ((0 : Int) = fl) && (strEq [] ti && (!decide ((3000 : Int) < ((se.length : Nat) : Int)) && (decide ((0 : Int) = co)))))))) := by
  rw [fdR_isSome]
  show (([(34 : Int), (38 : Int)].all (vaO ((6 : Int), cl, sv, no, en, fl, ti, se, co, ()))) && (true && smM ((6 : Int), [], [], rdU (numS no), 0, 0, [], se, 0, ()) ((6 : Int), cl, sv, no, en, fl, ti, se, co, ()))) = _
  rw [show smM ((6 : Int), [], [], rdU (numS no), 0, 0, [], se, 0, ()) ((6 : Int), cl, sv, no, en, fl, ti, se, co, ()) = (decide ((6 : Int) = 6) && (strEq [] cl && (strEq [] sv && (decide ((rdU (numS no) : UInt64) = no) && (decide ((0 : Int) = en) && (decide ((0 : Int) = fl) && (decide ((0 : Int) = co) && (strEq [] ti && (strEq se se))))))))) from rfl]
  have v34 : vaO ((6 : Int), cl, sv, no, en, fl, ti, se, co, ()) 34 = true := rfl
  have v38 : vaO ((6 : Int), cl, sv, no, en, fl, ti, se, co, ()) 38 = !decide ((3000 : Int) < ((se.length : Nat) : Int)) := rfl
  simp only [List.all_cons, List.all_nil, v34, v38, str_self, (rd_num _).2, decide_true, Bool.true_and, Bool.and_true]
  simp [Bool.and_comm, Bool.and_assoc, Bool.and_left_comm]
theorem fd_7 : (fdR ((7 : Int), cl, sv, no, en, fl, ti, se, co, ())).isSome = (strEq [] cl && (strEq [] sv && (decide ((0 : Int) = en) && (decide ((0 : Int) = fl) && (strEq [] ti && (strEq [] se && ((!decide (co < 1) && !decide ((999 : Int) < co))))))))) := by
  rw [fdR_isSome]
  show (([(34 : Int), (39 : Int)].all (vaO ((7 : Int), cl, sv, no, en, fl, ti, se, co, ()))) && (true && smM ((7 : Int), [], [], rdU (numS no), 0, 0, [], [], smN (rdU (numS (UInt64.ofInt co))), ()) ((7 : Int), cl, sv, no, en, fl, ti, se, co, ()))) = _
  rw [show smM ((7 : Int), [], [], rdU (numS no), 0, 0, [], [], smN (rdU (numS (UInt64.ofInt co))), ()) ((7 : Int), cl, sv, no, en, fl, ti, se, co, ()) = (decide ((7 : Int) = 7) && (strEq [] cl && (strEq [] sv && (decide ((rdU (numS no) : UInt64) = no) && (decide ((0 : Int) = en) && (decide ((0 : Int) = fl) && (decide ((smN (rdU (numS (UInt64.ofInt co))) : Int) = co) && (strEq [] ti && (strEq [] se))))))))) from rfl]
  have v34 : vaO ((7 : Int), cl, sv, no, en, fl, ti, se, co, ()) 34 = true := rfl
  have v39 : vaO ((7 : Int), cl, sv, no, en, fl, ti, se, co, ()) 39 = (!decide (co < 1) && !decide ((999 : Int) < co)) := rfl
  simp only [List.all_cons, List.all_nil, v34, v39, str_self, (rd_num _).2, decide_true, Bool.true_and, Bool.and_true]
  cases b39 : (!decide (co < 1) && !decide ((999 : Int) < co))
  all_goals first
    | (simp; done)
    | (have s39 := sm_c co b39; rw [s39]; simp [Bool.and_comm, Bool.and_assoc, Bool.and_left_comm])
    | (simp [Bool.and_comm, Bool.and_assoc, Bool.and_left_comm])
end Go.Proofs.YtjdeaphfamenaaaDoor

namespace Go.Proofs.YtjdeaphfamenaaaDoor
open Go.Vc Go.Proofs
set_option maxRecDepth 10000
theorem ofInt8 (x : Int) (h0 : 0 ≤ x) : (UInt8.ofInt x).toNat = x.toNat % 256 := by
  rw [UInt8.ofInt, UInt8.toNat_ofNat']
  omega
theorem shr8i (n : Nat) : (shrT .i64 ((n : Nat) : Int) 8 : Int) = ((n / 256 : Nat) : Int) := by
  have h := toI_shrT .i64 ((n : Nat) : Int) 8
  have e : toI .i64 (shrT .i64 ((n : Nat) : Int) 8) = (shrT .i64 ((n : Nat) : Int) 8 : Int) := rfl
  rw [← e, h]
  show Int.fdiv ((n : Nat) : Int) (2 ^ min 8 64) = _
  rw [Int.fdiv_eq_ediv_of_nonneg _ (by decide)]
  have : ((2 : Int) ^ min 8 64) = 256 := by decide
  rw [this]
  omega
theorem fl_head {f g : flK.T} {p q : List UInt8} (hf : fkOK f) (hg : fkOK g) (h : flBK f ++ p = flBK g ++ q) : f = g ∧ p = q := by
  obtain ⟨(t1 : Int), (v1 : List UInt8), u1⟩ := f
  obtain ⟨(t2 : Int), (v2 : List UInt8), u2⟩ := g
  obtain ⟨a1, a2, a3⟩ := hf
  obtain ⟨b1, b2, b3⟩ := hg
  replace a1 : 1 ≤ (t1 : Int) := a1
  replace a2 : (t1 : Int) ≤ 255 := a2
  replace a3 : List.length (α := UInt8) v1 ≤ 65535 := a3
  replace b1 : 1 ≤ (t2 : Int) := b1
  replace b2 : (t2 : Int) ≤ 255 := b2
  replace b3 : List.length (α := UInt8) v2 ≤ 65535 := b3
  have h' : UInt8.ofInt (t1 : Int) :: UInt8.ofInt (shrT .i64 ((List.length (α := UInt8) v1 : Nat) : Int) 8) :: UInt8.ofInt ((List.length (α := UInt8) v1 : Nat) : Int) :: (v1 ++ p) = UInt8.ofInt (t2 : Int) :: UInt8.ofInt (shrT .i64 ((List.length (α := UInt8) v2 : Nat) : Int) 8) :: UInt8.ofInt ((List.length (α := UInt8) v2 : Nat) : Int) :: (v2 ++ q) := h
  injection h' with e1 h'
  injection h' with e2 h'
  injection h' with e3 h'
  have c1 := congrArg UInt8.toNat e1
  have c2 := congrArg UInt8.toNat e2
  have c3 := congrArg UInt8.toNat e3
  rw [shr8i, shr8i] at c2
  rw [ofInt8 _ (by omega), ofInt8 _ (by omega)] at c1 c2 c3
  have ht : (t1 : Int) = t2 := by omega
  have hl : List.length (α := UInt8) v1 = List.length (α := UInt8) v2 := by omega
  obtain ⟨hv, hp⟩ := List.append_inj h' hl
  refine ⟨?_, hp⟩
  have hv' : v1 = v2 := hv
  have ht' : t1 = t2 := ht
  rw [hv', ht']
theorem jnK_inj : ∀ (fs gs : List flK.T), (∀ f ∈ fs, fkOK f) → (∀ g ∈ gs, fkOK g) → jnK fs = jnK gs → fs = gs
  | [], [], _, _, _ => rfl
  | [], g :: r, _, _, h => by
    have : (jnK (g :: r)).length = 0 := by rw [← h]; rfl
    have h2 : jnK (g :: r) = flBK g ++ jnK r := rfl
    rw [h2, List.length_append, flBK_len] at this
    omega
  | f :: r, [], _, _, h => by
    have : (jnK (f :: r)).length = 0 := by rw [h]; rfl
    have h2 : jnK (f :: r) = flBK f ++ jnK r := rfl
    rw [h2, List.length_append, flBK_len] at this
    omega
  | f :: r, g :: s, hf, hg, h => by
    obtain ⟨e1, e2⟩ := fl_head (p := jnK r) (q := jnK s) (hf f (List.mem_cons_self ..)) (hg g (List.mem_cons_self ..)) h
    rw [e1, jnK_inj r s (fun x hx => hf x (List.mem_cons_of_mem _ hx)) (fun x hx => hg x (List.mem_cons_of_mem _ hx)) e2]
theorem smM_eq {a b : krK.T} (h : smM a b = true) : a = b := by
  unfold smM at h
  simp only [Bool.and_eq_true, decide_eq_true_eq] at h
  obtain ⟨h1, h2, h3, h4, h5, h6, h7, h8, h9⟩ := h
  obtain ⟨a1, a2, a3, a4, a5, a6, a7, a8, a9, a10⟩ := a
  obtain ⟨b1, b2, b3, b4, b5, b6, b7, b8, b9, b10⟩ := b
  have e2 : a2 = b2 := of_decide_eq_true h2
  have e3 : a3 = b3 := of_decide_eq_true h3
  have e8 : a7 = b7 := of_decide_eq_true h8
  have e9 : a8 = b8 := of_decide_eq_true h9
  have e1 : a1 = b1 := h1
  have e4 : a4 = b4 := h4
  have e5 : a5 = b5 := h5
  have e6 : a6 = b6 := h6
  have e7 : a9 = b9 := h7
  rw [e1, e2, e3, e4, e5, e6, e7, e8, e9]
def dcK (fs : List flK.T) (k : Int) : krK.T := fs.tail.foldl (fun b f => stM b f.1 f.2.1) (fd0 k)
theorem fd_dec {m : krK.T} {fs : List flK.T} (h : fdR m = some fs) : fs.head? = some ((31 : Int), numS (UInt64.ofInt m.1), ()) ∧ dcK fs m.1 = m := by
  unfold fdR at h
  rw [fdS_eq] at h
  cases ha : (hasK m.1).all (vaO m) with
  | false => rw [ha] at h; cases h
  | true =>
    rw [ha, if_pos rfl] at h
    dsimp only at h
    split at h
    · rename_i hb
      injection h with h
      subst h
      rw [Bool.and_eq_true] at hb
      refine ⟨rfl, ?_⟩
      show ((hasK m.1).map fun t => ((t, vaB m t, ()) : flK.T)).foldl (fun b f => stM b f.1 f.2.1) (fd0 m.1) = m
      rw [List.foldl_map]
      exact smM_eq hb.2
    · cases h
theorem fd_inj {a b : krK.T} {fs : List flK.T} (ka : 1 ≤ (a.1 : Int) ∧ (a.1 : Int) ≤ 7) (kb : 1 ≤ (b.1 : Int) ∧ (b.1 : Int) ≤ 7) (ha : fdR a = some fs) (hb : fdR b = some fs) : a = b := by
  obtain ⟨(k1 : Int), ra⟩ := a
  obtain ⟨(k2 : Int), rb⟩ := b
  replace ka : 1 ≤ k1 ∧ k1 ≤ 7 := ka
  replace kb : 1 ≤ k2 ∧ k2 ≤ 7 := kb
  obtain ⟨h1, h2⟩ := fd_dec ha
  obtain ⟨h3, h4⟩ := fd_dec hb
  rw [h1] at h3
  injection h3 with h3
  have h5 : numS (UInt64.ofInt k1) = numS (UInt64.ofInt k2) := congrArg (fun z : flK.T => z.2.1) h3
  have h6 := sm_num k1 (by omega) (by omega)
  have h7 := sm_num k2 (by omega) (by omega)
  rw [h5, h7] at h6
  have h2' : dcK fs k1 = (k1, ra) := h2
  have h4' : dcK fs k2 = (k2, rb) := h4
  rw [← h2', ← h4', h6]
end Go.Proofs.YtjdeaphfamenaaaDoor

namespace Go.Proofs.YtjdeaphfamenaaaDoor
open Go.Vc Go.Proofs
set_option maxRecDepth 10000
theorem sp_one {f : flK.T} {p : List UInt8} {k : Nat} {acc : List flK.T} (hf : fkOK f) : spF (k + 1) (flBK f ++ p) acc = spF k p (acc ++ [f]) := by
  obtain ⟨(t : Int), (v : List UInt8), u⟩ := f
  obtain ⟨a1, a2, a3⟩ := hf
  replace a1 : 1 ≤ t := a1
  replace a2 : t ≤ 255 := a2
  replace a3 : v.length ≤ 65535 := a3
  have hd : flBK ((t, v, u) : flK.T) ++ p = UInt8.ofInt t :: UInt8.ofInt (shrT .i64 ((v.length : Nat) : Int) 8) :: UInt8.ofInt ((v.length : Nat) : Int) :: (v ++ p) := rfl
  rw [hd]
  have c1 : (UInt8.ofInt t).toNat = t.toNat := by rw [ofInt8 _ (by omega)]; omega
  have c2 : (UInt8.ofInt (shrT .i64 ((v.length : Nat) : Int) 8)).toNat = v.length / 256 := by rw [shr8i, ofInt8 _ (by omega)]; omega
  have c3 : (UInt8.ofInt ((v.length : Nat) : Int)).toNat = v.length % 256 := by rw [ofInt8 _ (by omega)]; omega
  generalize hx : UInt8.ofInt t = x at c1
  generalize hy : UInt8.ofInt (shrT .i64 ((v.length : Nat) : Int) 8) = y at c2
  generalize hz : UInt8.ofInt ((v.length : Nat) : Int) = z at c3
  have hx0 : x ≠ 0 := fun e => by
    have : x.toNat = 0 := by rw [e]; rfl
    omega
  have hn : spN (x :: y :: z :: (v ++ p)) = v.length := by
    show y.toNat * 256 + z.toNat = _
    omega
  have hdr : List.drop 3 (x :: y :: z :: (v ++ p)) = v ++ p := rfl
  have hl : (x :: y :: z :: (v ++ p)).length = v.length + p.length + 3 := by simp only [List.length_cons, List.length_append]
  rw [spF, if_neg (by rw [hl]; omega), if_neg (by show ¬ x = 0; exact hx0), if_neg (by rw [hl]; omega), if_neg (by rw [hn, hl]; omega), hn, hdr, List.drop_left, List.take_left]
  show spF k p (acc ++ [(((x.toNat : Nat) : Int), v, ())]) = _
  rw [c1, show ((t.toNat : Nat) : Int) = t by omega]
theorem sp_all : ∀ (fs : List flK.T) (k : Nat) (p : List UInt8) (acc : List flK.T), (∀ f ∈ fs, fkOK f) → spF (k + fs.length) (jnK fs ++ p) acc = spF k p (acc ++ fs)
  | [], k, p, acc, _ => by
    show spF k ([] ++ p) acc = spF k p (acc ++ [])
    rw [List.nil_append, List.append_nil]
  | f :: r, k, p, acc, h => by
    have e : jnK (f :: r) ++ p = flBK f ++ (jnK r ++ p) := by
      show (flBK f ++ jnK r) ++ p = _
      rw [List.append_assoc]
    rw [e, List.length_cons, ← Nat.add_assoc, sp_one (h f (List.mem_cons_self ..)), sp_all r k p _ fun x hx => h x (List.mem_cons_of_mem _ hx), List.append_assoc]
    rfl
end Go.Proofs.YtjdeaphfamenaaaDoor

namespace Go.Proofs.YtjdeaphfamenaaaDoor
open Go.Vc Go.Proofs
set_option maxRecDepth 10000
set_option maxHeartbeats 4000000
def grM (m : krK.T) : Bool := decide ((300 : Int) < ((List.length (α := UInt8) m.2.1 : Nat) : Int)) || (decide ((300 : Int) < ((List.length (α := UInt8) m.2.2.1 : Nat) : Int)) || (decide ((4000 : Int) < ((List.length (α := UInt8) m.2.2.2.2.2.2.1 : Nat) : Int)) || decide ((4000 : Int) < ((List.length (α := UInt8) m.2.2.2.2.2.2.2.1 : Nat) : Int))))
def kGrM : Con := Con.of [.v krK] (fun _ => []) (fun x => ⟨.bool (grM x.1), []⟩)
def cfgKJ1 : Cfg2 := { ty := tyTabM, fn := fun  | _ => none, G := gNone, pin := [], eq := fun _ => none }
theorem cfgKJ1_ok : CfgOK Tryd.prog cfgKJ1 := ⟨tyTabM_ok, (fun f s h => by cases h), (fun t d h => by cases h)⟩
section
attribute [local go_sem] Tryd.f31 kGrM cfgKJ1 tyTabM tyTabK tyTab
theorem grm_body (p : kGrM.Par) (hp : ∀ q ∈ kGrM.pre p, q) : BodyOK Tryd.prog cfgKJ1 Tryd.f31 (Tryd.f31.body.get rfl) kGrM p := by
  obtain ⟨⟨(kd : Int), (cl : List UInt8), (sv : List UInt8), (no : UInt64), (en : Int), (fl : Int), (ti : List UInt8), (se : List UInt8), (co : Int), u1⟩, u⟩ := p
  refine ⟨?_, Nat.zero_le _, rfl, rfl⟩
  show Tri _ _ _ (Code.seq _ (Code.seq _ _)) _
  have e : grM (kd, cl, sv, no, en, fl, ti, se, co, u1) = (decide ((300 : Int) < ((cl.length : Nat) : Int)) || (decide ((300 : Int) < ((sv.length : Nat) : Int)) || (decide ((4000 : Int) < ((ti.length : Nat) : Int)) || decide ((4000 : Int) < ((se.length : Nat) : Int))))) := rfl
  cases b1 : decide ((300 : Int) < ((cl.length : Nat) : Int))
  all_goals cases b2 : decide ((300 : Int) < ((sv.length : Nat) : Int))
  all_goals cases b3 : decide ((4000 : Int) < ((ti.length : Nat) : Int))
  all_goals
    rw [b1, b2, b3] at e
    simp only [Bool.true_or, Bool.false_or] at e
    refine Tri.at (by first | (simp only [Con.start, go_sem]; rfl) | rfl) ?_
    repeat (first | ((first | refine Tri.seq (Tri.regT (cfgKJ1_ok.pins _) ?_) | refine Tri.rgnT (cfgKJ1_ok.pins _) ?_); (repeat (first | refine RunT.oneA (hp := by simp (maxSteps := 2000000) (disch := first | decide | omega | (simp only [List.length_append, List.length_cons, List.length_nil, List.length_take, List.length_drop]; omega)) only [b1, b2, b3, go_sem]; rfl) (h := ?_) | refine RunT.notA (h := ?_))); refine RunT.nil ?_; try simp only [InBlock, Then]) | refine Tri.cF (by first | (simp only [go_sem]; done) | fail) ?_ | refine Tri.cT (by first | (simp only [go_sem]; done) | fail) ?_ | (refine Tri.skip ?_; try simp only [InBlock, Then]) | (refine Tri.exit ?_; simp only [Then, InBlock, if_true, if_false, ↓reduceIte, Nat.reduceEqDiff]) | refine Tri.seq (Tri.block ?_) | refine Tri.block ?_ | refine Tri.seq ?_ | (refine Tri.ret ?_; refine Con.fin (.inl rfl) (by simp only [Tryd.f31, cfgKJ1, resA, resA1, go_sem]; rfl) (by simp only [Obs]) (by first | (simp only [kGrM, Con.of, resV, e, go_sem]; done) | fail) trivial rfl rfl))
theorem grm_sum : FSumOK Tryd.prog cfgKJ1.G 31 kGrM.sum := Con.sumOK cfgKJ1_ok kGrM Tryd.func31 rfl rfl (Con.of_inv _ _ _) grm_body
end
def tyTabH : TypeId → Option TyI := fun t => if t = 86 then some (.kd1 (.arr 9 3) (.arr 9 (.int .i64)) 72) else if t = 87 then some (.kd1 (.arr 8 86) (.arr 8 (.arr 9 (.int .i64))) 576) else tyTab t
theorem tyTabH_ok : TysOK Tryd.prog tyTabH := by
  intro t i h
  unfold tyTabH at h
  split at h
  · rename_i e
    injection h with h
    subst h e
    exact TyOK.kd1 (td := .arr 9 3) Tryd.underlying86 (by kernel_rfl)
  · split at h
    · rename_i e
      injection h with h
      subst h e
      exact TyOK.kd1 (td := .arr 8 86) Tryd.underlying87 (by kernel_rfl)
    · exact tysOK t i h
def hsT : List (List Int) := [[0, 0, 0, 0, 0, 0, 0, 0, 0], [1, 1, 1, 1, 1, 1, 0, 0, 0], [1, 0, 1, 1, 1, 1, 1, 1, 0], [1, 0, 0, 1, 0, 0, 1, 1, 0], [1, 0, 0, 1, 0, 0, 1, 1, 0], [1, 0, 0, 1, 0, 0, 0, 1, 0], [1, 0, 0, 1, 0, 0, 0, 1, 0], [1, 0, 0, 1, 0, 0, 0, 0, 1]]
def hsM (k t : Int) : Bool := !decide (k < 1) && (!decide ((7 : Int) < k) && (!decide (t < 31) && (!decide ((39 : Int) < t) && decide (List.getD (List.getD hsT k.toNat (List.replicate 9 0)) (t - 31).toNat 0 = 1))))
def kHs : Con := Con.of [.v (.int .i64), .v (.int .i64)] (fun _ => []) (fun x => ⟨.bool (hsM (toI .i64 x.1) (toI .i64 x.2.1)), []⟩)
def cfgKJ2 : Cfg2 := { ty := tyTabH, fn := fun  | _ => none, G := gNone, pin := [], eq := fun _ => none }
theorem cfgKJ2_ok : CfgOK Tryd.prog cfgKJ2 := ⟨tyTabH_ok, (fun f s h => by cases h), (fun t d h => by cases h)⟩
section
attribute [local go_sem] Tryd.f35 kHs cfgKJ2 tyTabH tyTab
theorem hs_body (p : kHs.Par) (hp : ∀ q ∈ kHs.pre p, q) : BodyOK Tryd.prog cfgKJ2 Tryd.f35 (Tryd.f35.body.get rfl) kHs p := by
  obtain ⟨(k : Int), (t : Int), u⟩ := p
  refine ⟨?_, Nat.zero_le _, rfl, rfl⟩
  show Tri _ _ _ (Code.seq _ (Code.seq _ (Code.seq _ _))) _
  have e : hsM k t = (!decide (k < 1) && (!decide ((7 : Int) < k) && (!decide (t < 31) && (!decide ((39 : Int) < t) && decide (List.getD (List.getD hsT k.toNat (List.replicate 9 0)) (t - 31).toNat 0 = 1))))) := rfl
  cases b1 : decide (k < 1) with
  | true =>
    rw [b1] at e
    simp only [Bool.not_true, Bool.false_and] at e
    refine Tri.at (by first | (simp only [Con.start, go_sem]; rfl) | rfl) ?_
    repeat (first | ((first | refine Tri.seq (Tri.regT (cfgKJ2_ok.pins _) ?_) | refine Tri.rgnT (cfgKJ2_ok.pins _) ?_); (repeat (first | refine RunT.oneA (hp := by simp (maxSteps := 2000000) (disch := first | decide | omega | (simp only [List.length_append, List.length_cons, List.length_nil, List.length_take, List.length_drop]; omega)) only [b1, go_sem]; rfl) (h := ?_) | refine RunT.notA (h := ?_))); refine RunT.nil ?_; try simp only [InBlock, Then]) | refine Tri.cF (by first | (simp only [go_sem]; done) | fail) ?_ | refine Tri.cT (by first | (simp only [go_sem]; done) | fail) ?_ | (refine Tri.skip ?_; try simp only [InBlock, Then]) | (refine Tri.exit ?_; simp only [Then, InBlock, if_true, if_false, ↓reduceIte, Nat.reduceEqDiff]) | refine Tri.seq (Tri.block ?_) | refine Tri.block ?_ | refine Tri.seq ?_ | (refine Tri.ret ?_; refine Con.fin (.inl rfl) (by simp only [Tryd.f35, cfgKJ2, resA, resA1, go_sem]; rfl) (by simp only [Obs]) (by first | (simp only [kHs, Con.of, resV, e, go_sem]; done) | fail) trivial rfl rfl))
  | false =>
  cases b2 : decide ((7 : Int) < k) with
  | true =>
    rw [b1, b2] at e
    simp only [Bool.not_true, Bool.not_false, Bool.true_and, Bool.false_and] at e
    refine Tri.at (by first | (simp only [Con.start, go_sem]; rfl) | rfl) ?_
    repeat (first | ((first | refine Tri.seq (Tri.regT (cfgKJ2_ok.pins _) ?_) | refine Tri.rgnT (cfgKJ2_ok.pins _) ?_); (repeat (first | refine RunT.oneA (hp := by simp (maxSteps := 2000000) (disch := first | decide | omega | (simp only [List.length_append, List.length_cons, List.length_nil, List.length_take, List.length_drop]; omega)) only [b1, b2, go_sem]; rfl) (h := ?_) | refine RunT.notA (h := ?_))); refine RunT.nil ?_; try simp only [InBlock, Then]) | refine Tri.cF (by first | (simp only [go_sem]; done) | fail) ?_ | refine Tri.cT (by first | (simp only [go_sem]; done) | fail) ?_ | (refine Tri.skip ?_; try simp only [InBlock, Then]) | (refine Tri.exit ?_; simp only [Then, InBlock, if_true, if_false, ↓reduceIte, Nat.reduceEqDiff]) | refine Tri.seq (Tri.block ?_) | refine Tri.block ?_ | refine Tri.seq ?_ | (refine Tri.ret ?_; refine Con.fin (.inl rfl) (by simp only [Tryd.f35, cfgKJ2, resA, resA1, go_sem]; rfl) (by simp only [Obs]) (by first | (simp only [kHs, Con.of, resV, e, go_sem]; done) | fail) trivial rfl rfl))
  | false =>
  cases b3 : decide (t < 31) with
  | true =>
    rw [b1, b2, b3] at e
    simp only [Bool.not_true, Bool.not_false, Bool.true_and, Bool.false_and] at e
    refine Tri.at (by first | (simp only [Con.start, go_sem]; rfl) | rfl) ?_
    repeat (first | ((first | refine Tri.seq (Tri.regT (cfgKJ2_ok.pins _) ?_) | refine Tri.rgnT (cfgKJ2_ok.pins _) ?_); (repeat (first | refine RunT.oneA (hp := by simp (maxSteps := 2000000) (disch := first | decide | omega | (simp only [List.length_append, List.length_cons, List.length_nil, List.length_take, List.length_drop]; omega)) only [b1, b2, b3, go_sem]; rfl) (h := ?_) | refine RunT.notA (h := ?_))); refine RunT.nil ?_; try simp only [InBlock, Then]) | refine Tri.cF (by first | (simp only [go_sem]; done) | fail) ?_ | refine Tri.cT (by first | (simp only [go_sem]; done) | fail) ?_ | (refine Tri.skip ?_; try simp only [InBlock, Then]) | (refine Tri.exit ?_; simp only [Then, InBlock, if_true, if_false, ↓reduceIte, Nat.reduceEqDiff]) | refine Tri.seq (Tri.block ?_) | refine Tri.block ?_ | refine Tri.seq ?_ | (refine Tri.ret ?_; refine Con.fin (.inl rfl) (by simp only [Tryd.f35, cfgKJ2, resA, resA1, go_sem]; rfl) (by simp only [Obs]) (by first | (simp only [kHs, Con.of, resV, e, go_sem]; done) | fail) trivial rfl rfl))
  | false =>
  cases b4 : decide ((39 : Int) < t) with
  | true =>
    rw [b1, b2, b3, b4] at e
    simp only [Bool.not_true, Bool.not_false, Bool.true_and, Bool.false_and] at e
    refine Tri.at (by first | (simp only [Con.start, go_sem]; rfl) | rfl) ?_
    repeat (first | ((first | refine Tri.seq (Tri.regT (cfgKJ2_ok.pins _) ?_) | refine Tri.rgnT (cfgKJ2_ok.pins _) ?_); (repeat (first | refine RunT.oneA (hp := by simp (maxSteps := 2000000) (disch := first | decide | omega | (simp only [List.length_append, List.length_cons, List.length_nil, List.length_take, List.length_drop]; omega)) only [b1, b2, b3, b4, go_sem]; rfl) (h := ?_) | refine RunT.notA (h := ?_))); refine RunT.nil ?_; try simp only [InBlock, Then]) | refine Tri.cF (by first | (simp only [go_sem]; done) | fail) ?_ | refine Tri.cT (by first | (simp only [go_sem]; done) | fail) ?_ | (refine Tri.skip ?_; try simp only [InBlock, Then]) | (refine Tri.exit ?_; simp only [Then, InBlock, if_true, if_false, ↓reduceIte, Nat.reduceEqDiff]) | refine Tri.seq (Tri.block ?_) | refine Tri.block ?_ | refine Tri.seq ?_ | (refine Tri.ret ?_; refine Con.fin (.inl rfl) (by simp only [Tryd.f35, cfgKJ2, resA, resA1, go_sem]; rfl) (by simp only [Obs]) (by first | (simp only [kHs, Con.of, resV, e, go_sem]; done) | fail) trivial rfl rfl))
  | false =>
    have c1 := of_decide_eq_false b1
    have c2 := of_decide_eq_false b2
    have c3 := of_decide_eq_false b3
    have c4 := of_decide_eq_false b4
    obtain ⟨K, hK⟩ : ∃ K : Nat, k = (K : Int) := ⟨k.toNat, by omega⟩
    obtain ⟨T, hT⟩ : ∃ T : Nat, t - 31 = (T : Int) := ⟨(t - 31).toNat, by omega⟩
    subst hK
    rw [b1, b2, b3, b4, hT, Int.toNat_natCast, Int.toNat_natCast] at e
    simp only [Bool.not_false, Bool.true_and] at e
    refine Tri.at (by first | (simp only [Con.start, go_sem]; rfl) | rfl) ?_
    repeat (first | ((first | refine Tri.seq (Tri.regT (cfgKJ2_ok.pins _) ?_) | refine Tri.rgnT (cfgKJ2_ok.pins _) ?_); (repeat (first | refine RunT.oneA (hp := by simp (maxSteps := 2000000) (disch := first | decide | omega | (simp only [List.length_append, List.length_cons, List.length_nil, List.length_take, List.length_drop]; omega)) only [b1, b2, b3, b4, hT, go_sem]; rfl) (h := ?_) | refine RunT.notA (h := ?_))); refine RunT.nil ?_; try simp only [InBlock, Then]) | refine Tri.cF (by first | (simp only [go_sem]; done) | fail) ?_ | refine Tri.cT (by first | (simp only [go_sem]; done) | fail) ?_ | (refine Tri.skip ?_; try simp only [InBlock, Then]) | (refine Tri.exit ?_; simp only [Then, InBlock, if_true, if_false, ↓reduceIte, Nat.reduceEqDiff]) | refine Tri.seq (Tri.block ?_) | refine Tri.block ?_ | refine Tri.seq ?_ | (refine Tri.ret ?_; refine Con.fin (.inl rfl) (by simp only [Tryd.f35, cfgKJ2, resA, resA1, go_sem]; rfl) (by simp only [Obs]) (by first | (simp only [kHs, Con.of, resV, go_sem]; done) | fail) trivial rfl rfl))
    refine Tri.ret ?_
    refine Con.fin (.inl rfl) (by simp only [Tryd.f35, cfgKJ2, resA, resA1, go_sem]; rfl) (by simp only [Obs]) ?_ ?_ rfl rfl
    · exact congrArg AV.bool e.symm
    · exact True.intro
theorem hs_sum : FSumOK Tryd.prog cfgKJ2.G 35 kHs.sum := Con.sumOK cfgKJ2_ok kHs Tryd.func35 rfl rfl (Con.of_inv _ _ _) hs_body
end
end Go.Proofs.YtjdeaphfamenaaaDoor

namespace Go.Proofs.YtjdeaphfamenaaaDoor
open Go.Vc Go.Proofs
set_option maxRecDepth 10000
set_option maxHeartbeats 4000000
def smR (a b : krK.T) : Bool := decide ((a.1 : Int) = b.1) && (strEq a.2.1 b.2.1 && (strEq a.2.2.1 b.2.2.1 && (decide ((a.2.2.2.1 : UInt64) = b.2.2.2.1) && (decide ((a.2.2.2.2.1 : Int) = b.2.2.2.2.1) && (decide ((a.2.2.2.2.2.1 : Int) = b.2.2.2.2.2.1) && (strEq a.2.2.2.2.2.2.1 b.2.2.2.2.2.2.1 && (strEq a.2.2.2.2.2.2.2.1 b.2.2.2.2.2.2.2.1 && (decide ((a.2.2.2.2.2.2.2.2.1 : Int) = b.2.2.2.2.2.2.2.2.1)))))))))
def kSmR : Con := Con.of [.v krK, .v krK] (fun _ => []) (fun x => ⟨.bool (smR x.1 x.2.1), []⟩)
def cfgKM1 : Cfg2 := { ty := tyTabM, fn := fun  | _ => none, G := gNone, pin := [], eq := fun _ => none }
theorem cfgKM1_ok : CfgOK Tryd.prog cfgKM1 := ⟨tyTabM_ok, (fun f s h => by cases h), (fun t d h => by cases h)⟩
section
attribute [local go_sem] Tryd.f33 kSmR cfgKM1 tyTabM tyTabK tyTab
theorem smr_body (p : kSmR.Par) (hp : ∀ q ∈ kSmR.pre p, q) : BodyOK Tryd.prog cfgKM1 Tryd.f33 (Tryd.f33.body.get rfl) kSmR p := by
  obtain ⟨⟨(akd : Int), (acl : List UInt8), (asv : List UInt8), (ano : UInt64), (aen : Int), (afl : Int), (ati : List UInt8), (ase : List UInt8), (aco : Int), u1⟩, ⟨(bkd : Int), (bcl : List UInt8), (bsv : List UInt8), (bno : UInt64), (ben : Int), (bfl : Int), (bti : List UInt8), (bse : List UInt8), (bco : Int), u2⟩, u⟩ := p
  refine ⟨?_, Nat.zero_le _, rfl, rfl⟩
  have e : smR (akd, acl, asv, ano, aen, afl, ati, ase, aco, u1) (bkd, bcl, bsv, bno, ben, bfl, bti, bse, bco, u2) = (decide ((akd : Int) = bkd) && (strEq acl bcl && (strEq asv bsv && (decide ((ano : UInt64) = bno) && (decide ((aen : Int) = ben) && (decide ((afl : Int) = bfl) && (strEq ati bti && (strEq ase bse && (decide ((aco : Int) = bco)))))))))) := rfl
  cases c0 : decide ((akd : Int) = bkd) with
  | false =>
    rw [c0] at e
    replace e : smR (akd, acl, asv, ano, aen, afl, ati, ase, aco, u1) (bkd, bcl, bsv, bno, ben, bfl, bti, bse, bco, u2) = false := e
    refine Tri.at (by first | (simp only [Con.start, go_sem]; rfl) | rfl) ?_
    repeat (first | ((first | refine Tri.seq (Tri.regT (cfgKM1_ok.pins _) ?_) | refine Tri.rgnT (cfgKM1_ok.pins _) ?_); (repeat (first | refine RunT.oneA (hp := by simp (maxSteps := 2000000) (disch := first | decide | omega | (simp only [List.length_append, List.length_cons, List.length_nil, List.length_take, List.length_drop]; omega)) only [c0, go_sem]; rfl) (h := ?_) | refine RunT.notA (h := ?_))); refine RunT.nil ?_; try simp only [InBlock, Then]) | refine Tri.cF (by first | (simp only [go_sem]; done) | fail) ?_ | refine Tri.cT (by first | (simp only [go_sem]; done) | fail) ?_ | (refine Tri.skip ?_; try simp only [InBlock, Then]) | (refine Tri.exit ?_; simp only [Then, InBlock, if_true, if_false, ↓reduceIte, Nat.reduceEqDiff]) | refine Tri.seq (Tri.block ?_) | refine Tri.block ?_ | refine Tri.seq ?_ | (refine Tri.ret ?_; refine Con.fin (.inl rfl) (by simp only [Tryd.f33, cfgKM1, resA, resA1, go_sem]; rfl) (by simp only [Obs]) (by first | (simp only [kSmR, Con.of, resV, e, go_sem]; done) | fail) trivial rfl rfl))
  | true =>
  cases c1 : strEq acl bcl with
  | false =>
    rw [c0, c1] at e
    replace e : smR (akd, acl, asv, ano, aen, afl, ati, ase, aco, u1) (bkd, bcl, bsv, bno, ben, bfl, bti, bse, bco, u2) = false := e
    refine Tri.at (by first | (simp only [Con.start, go_sem]; rfl) | rfl) ?_
    repeat (first | ((first | refine Tri.seq (Tri.regT (cfgKM1_ok.pins _) ?_) | refine Tri.rgnT (cfgKM1_ok.pins _) ?_); (repeat (first | refine RunT.oneA (hp := by simp (maxSteps := 2000000) (disch := first | decide | omega | (simp only [List.length_append, List.length_cons, List.length_nil, List.length_take, List.length_drop]; omega)) only [c0, c1, go_sem]; rfl) (h := ?_) | refine RunT.notA (h := ?_))); refine RunT.nil ?_; try simp only [InBlock, Then]) | refine Tri.cF (by first | (simp only [go_sem]; done) | fail) ?_ | refine Tri.cT (by first | (simp only [go_sem]; done) | fail) ?_ | (refine Tri.skip ?_; try simp only [InBlock, Then]) | (refine Tri.exit ?_; simp only [Then, InBlock, if_true, if_false, ↓reduceIte, Nat.reduceEqDiff]) | refine Tri.seq (Tri.block ?_) | refine Tri.block ?_ | refine Tri.seq ?_ | (refine Tri.ret ?_; refine Con.fin (.inl rfl) (by simp only [Tryd.f33, cfgKM1, resA, resA1, go_sem]; rfl) (by simp only [Obs]) (by first | (simp only [kSmR, Con.of, resV, e, go_sem]; done) | fail) trivial rfl rfl))
  | true =>
  cases c2 : strEq asv bsv with
  | false =>
    rw [c0, c1, c2] at e
    replace e : smR (akd, acl, asv, ano, aen, afl, ati, ase, aco, u1) (bkd, bcl, bsv, bno, ben, bfl, bti, bse, bco, u2) = false := e
    refine Tri.at (by first | (simp only [Con.start, go_sem]; rfl) | rfl) ?_
    repeat (first | ((first | refine Tri.seq (Tri.regT (cfgKM1_ok.pins _) ?_) | refine Tri.rgnT (cfgKM1_ok.pins _) ?_); (repeat (first | refine RunT.oneA (hp := by simp (maxSteps := 2000000) (disch := first | decide | omega | (simp only [List.length_append, List.length_cons, List.length_nil, List.length_take, List.length_drop]; omega)) only [c0, c1, c2, go_sem]; rfl) (h := ?_) | refine RunT.notA (h := ?_))); refine RunT.nil ?_; try simp only [InBlock, Then]) | refine Tri.cF (by first | (simp only [go_sem]; done) | fail) ?_ | refine Tri.cT (by first | (simp only [go_sem]; done) | fail) ?_ | (refine Tri.skip ?_; try simp only [InBlock, Then]) | (refine Tri.exit ?_; simp only [Then, InBlock, if_true, if_false, ↓reduceIte, Nat.reduceEqDiff]) | refine Tri.seq (Tri.block ?_) | refine Tri.block ?_ | refine Tri.seq ?_ | (refine Tri.ret ?_; refine Con.fin (.inl rfl) (by simp only [Tryd.f33, cfgKM1, resA, resA1, go_sem]; rfl) (by simp only [Obs]) (by first | (simp only [kSmR, Con.of, resV, e, go_sem]; done) | fail) trivial rfl rfl))
  | true =>
  cases c3 : decide ((ano : UInt64) = bno) with
  | false =>
    rw [c0, c1, c2, c3] at e
    replace e : smR (akd, acl, asv, ano, aen, afl, ati, ase, aco, u1) (bkd, bcl, bsv, bno, ben, bfl, bti, bse, bco, u2) = false := e
    refine Tri.at (by first | (simp only [Con.start, go_sem]; rfl) | rfl) ?_
    repeat (first | ((first | refine Tri.seq (Tri.regT (cfgKM1_ok.pins _) ?_) | refine Tri.rgnT (cfgKM1_ok.pins _) ?_); (repeat (first | refine RunT.oneA (hp := by simp (maxSteps := 2000000) (disch := first | decide | omega | (simp only [List.length_append, List.length_cons, List.length_nil, List.length_take, List.length_drop]; omega)) only [c0, c1, c2, c3, go_sem]; rfl) (h := ?_) | refine RunT.notA (h := ?_))); refine RunT.nil ?_; try simp only [InBlock, Then]) | refine Tri.cF (by first | (simp only [go_sem]; done) | fail) ?_ | refine Tri.cT (by first | (simp only [go_sem]; done) | fail) ?_ | (refine Tri.skip ?_; try simp only [InBlock, Then]) | (refine Tri.exit ?_; simp only [Then, InBlock, if_true, if_false, ↓reduceIte, Nat.reduceEqDiff]) | refine Tri.seq (Tri.block ?_) | refine Tri.block ?_ | refine Tri.seq ?_ | (refine Tri.ret ?_; refine Con.fin (.inl rfl) (by simp only [Tryd.f33, cfgKM1, resA, resA1, go_sem]; rfl) (by simp only [Obs]) (by first | (simp only [kSmR, Con.of, resV, e, go_sem]; done) | fail) trivial rfl rfl))
  | true =>
  cases c4 : decide ((aen : Int) = ben) with
  | false =>
    rw [c0, c1, c2, c3, c4] at e
    replace e : smR (akd, acl, asv, ano, aen, afl, ati, ase, aco, u1) (bkd, bcl, bsv, bno, ben, bfl, bti, bse, bco, u2) = false := e
    refine Tri.at (by first | (simp only [Con.start, go_sem]; rfl) | rfl) ?_
    repeat (first | ((first | refine Tri.seq (Tri.regT (cfgKM1_ok.pins _) ?_) | refine Tri.rgnT (cfgKM1_ok.pins _) ?_); (repeat (first | refine RunT.oneA (hp := by simp (maxSteps := 2000000) (disch := first | decide | omega | (simp only [List.length_append, List.length_cons, List.length_nil, List.length_take, List.length_drop]; omega)) only [c0, c1, c2, c3, c4, go_sem]; rfl) (h := ?_) | refine RunT.notA (h := ?_))); refine RunT.nil ?_; try simp only [InBlock, Then]) | refine Tri.cF (by first | (simp only [go_sem]; done) | fail) ?_ | refine Tri.cT (by first | (simp only [go_sem]; done) | fail) ?_ | (refine Tri.skip ?_; try simp only [InBlock, Then]) | (refine Tri.exit ?_; simp only [Then, InBlock, if_true, if_false, ↓reduceIte, Nat.reduceEqDiff]) | refine Tri.seq (Tri.block ?_) | refine Tri.block ?_ | refine Tri.seq ?_ | (refine Tri.ret ?_; refine Con.fin (.inl rfl) (by simp only [Tryd.f33, cfgKM1, resA, resA1, go_sem]; rfl) (by simp only [Obs]) (by first | (simp only [kSmR, Con.of, resV, e, go_sem]; done) | fail) trivial rfl rfl))
  | true =>
  cases c5 : decide ((afl : Int) = bfl) with
  | false =>
    rw [c0, c1, c2, c3, c4, c5] at e
    replace e : smR (akd, acl, asv, ano, aen, afl, ati, ase, aco, u1) (bkd, bcl, bsv, bno, ben, bfl, bti, bse, bco, u2) = false := e
    refine Tri.at (by first | (simp only [Con.start, go_sem]; rfl) | rfl) ?_
    repeat (first | ((first | refine Tri.seq (Tri.regT (cfgKM1_ok.pins _) ?_) | refine Tri.rgnT (cfgKM1_ok.pins _) ?_); (repeat (first | refine RunT.oneA (hp := by simp (maxSteps := 2000000) (disch := first | decide | omega | (simp only [List.length_append, List.length_cons, List.length_nil, List.length_take, List.length_drop]; omega)) only [c0, c1, c2, c3, c4, c5, go_sem]; rfl) (h := ?_) | refine RunT.notA (h := ?_))); refine RunT.nil ?_; try simp only [InBlock, Then]) | refine Tri.cF (by first | (simp only [go_sem]; done) | fail) ?_ | refine Tri.cT (by first | (simp only [go_sem]; done) | fail) ?_ | (refine Tri.skip ?_; try simp only [InBlock, Then]) | (refine Tri.exit ?_; simp only [Then, InBlock, if_true, if_false, ↓reduceIte, Nat.reduceEqDiff]) | refine Tri.seq (Tri.block ?_) | refine Tri.block ?_ | refine Tri.seq ?_ | (refine Tri.ret ?_; refine Con.fin (.inl rfl) (by simp only [Tryd.f33, cfgKM1, resA, resA1, go_sem]; rfl) (by simp only [Obs]) (by first | (simp only [kSmR, Con.of, resV, e, go_sem]; done) | fail) trivial rfl rfl))
  | true =>
  cases c6 : strEq ati bti with
  | false =>
    rw [c0, c1, c2, c3, c4, c5, c6] at e
    replace e : smR (akd, acl, asv, ano, aen, afl, ati, ase, aco, u1) (bkd, bcl, bsv, bno, ben, bfl, bti, bse, bco, u2) = false := e
    refine Tri.at (by first | (simp only [Con.start, go_sem]; rfl) | rfl) ?_
    repeat (first | ((first | refine Tri.seq (Tri.regT (cfgKM1_ok.pins _) ?_) | refine Tri.rgnT (cfgKM1_ok.pins _) ?_); (repeat (first | refine RunT.oneA (hp := by simp (maxSteps := 2000000) (disch := first | decide | omega | (simp only [List.length_append, List.length_cons, List.length_nil, List.length_take, List.length_drop]; omega)) only [c0, c1, c2, c3, c4, c5, c6, go_sem]; rfl) (h := ?_) | refine RunT.notA (h := ?_))); refine RunT.nil ?_; try simp only [InBlock, Then]) | refine Tri.cF (by first | (simp only [go_sem]; done) | fail) ?_ | refine Tri.cT (by first | (simp only [go_sem]; done) | fail) ?_ | (refine Tri.skip ?_; try simp only [InBlock, Then]) | (refine Tri.exit ?_; simp only [Then, InBlock, if_true, if_false, ↓reduceIte, Nat.reduceEqDiff]) | refine Tri.seq (Tri.block ?_) | refine Tri.block ?_ | refine Tri.seq ?_ | (refine Tri.ret ?_; refine Con.fin (.inl rfl) (by simp only [Tryd.f33, cfgKM1, resA, resA1, go_sem]; rfl) (by simp only [Obs]) (by first | (simp only [kSmR, Con.of, resV, e, go_sem]; done) | fail) trivial rfl rfl))
  | true =>
  cases c7 : strEq ase bse with
  | false =>
    rw [c0, c1, c2, c3, c4, c5, c6, c7] at e
    replace e : smR (akd, acl, asv, ano, aen, afl, ati, ase, aco, u1) (bkd, bcl, bsv, bno, ben, bfl, bti, bse, bco, u2) = false := e
    refine Tri.at (by first | (simp only [Con.start, go_sem]; rfl) | rfl) ?_
    repeat (first | ((first | refine Tri.seq (Tri.regT (cfgKM1_ok.pins _) ?_) | refine Tri.rgnT (cfgKM1_ok.pins _) ?_); (repeat (first | refine RunT.oneA (hp := by simp (maxSteps := 2000000) (disch := first | decide | omega | (simp only [List.length_append, List.length_cons, List.length_nil, List.length_take, List.length_drop]; omega)) only [c0, c1, c2, c3, c4, c5, c6, c7, go_sem]; rfl) (h := ?_) | refine RunT.notA (h := ?_))); refine RunT.nil ?_; try simp only [InBlock, Then]) | refine Tri.cF (by first | (simp only [go_sem]; done) | fail) ?_ | refine Tri.cT (by first | (simp only [go_sem]; done) | fail) ?_ | (refine Tri.skip ?_; try simp only [InBlock, Then]) | (refine Tri.exit ?_; simp only [Then, InBlock, if_true, if_false, ↓reduceIte, Nat.reduceEqDiff]) | refine Tri.seq (Tri.block ?_) | refine Tri.block ?_ | refine Tri.seq ?_ | (refine Tri.ret ?_; refine Con.fin (.inl rfl) (by simp only [Tryd.f33, cfgKM1, resA, resA1, go_sem]; rfl) (by simp only [Obs]) (by first | (simp only [kSmR, Con.of, resV, e, go_sem]; done) | fail) trivial rfl rfl))
  | true =>
  cases c8 : decide ((aco : Int) = bco) with
  | false =>
    rw [c0, c1, c2, c3, c4, c5, c6, c7, c8] at e
    replace e : smR (akd, acl, asv, ano, aen, afl, ati, ase, aco, u1) (bkd, bcl, bsv, bno, ben, bfl, bti, bse, bco, u2) = false := e
    refine Tri.at (by first | (simp only [Con.start, go_sem]; rfl) | rfl) ?_
    repeat (first | ((first | refine Tri.seq (Tri.regT (cfgKM1_ok.pins _) ?_) | refine Tri.rgnT (cfgKM1_ok.pins _) ?_); (repeat (first | refine RunT.oneA (hp := by simp (maxSteps := 2000000) (disch := first | decide | omega | (simp only [List.length_append, List.length_cons, List.length_nil, List.length_take, List.length_drop]; omega)) only [c0, c1, c2, c3, c4, c5, c6, c7, c8, go_sem]; rfl) (h := ?_) | refine RunT.notA (h := ?_))); refine RunT.nil ?_; try simp only [InBlock, Then]) | refine Tri.cF (by first | (simp only [go_sem]; done) | fail) ?_ | refine Tri.cT (by first | (simp only [go_sem]; done) | fail) ?_ | (refine Tri.skip ?_; try simp only [InBlock, Then]) | (refine Tri.exit ?_; simp only [Then, InBlock, if_true, if_false, ↓reduceIte, Nat.reduceEqDiff]) | refine Tri.seq (Tri.block ?_) | refine Tri.block ?_ | refine Tri.seq ?_ | (refine Tri.ret ?_; refine Con.fin (.inl rfl) (by simp only [Tryd.f33, cfgKM1, resA, resA1, go_sem]; rfl) (by simp only [Obs]) (by first | (simp only [kSmR, Con.of, resV, e, go_sem]; done) | fail) trivial rfl rfl))
  | true =>
    rw [c0, c1, c2, c3, c4, c5, c6, c7, c8] at e
    replace e : smR (akd, acl, asv, ano, aen, afl, ati, ase, aco, u1) (bkd, bcl, bsv, bno, ben, bfl, bti, bse, bco, u2) = true := e
    refine Tri.at (by first | (simp only [Con.start, go_sem]; rfl) | rfl) ?_
    repeat (first | ((first | refine Tri.seq (Tri.regT (cfgKM1_ok.pins _) ?_) | refine Tri.rgnT (cfgKM1_ok.pins _) ?_); (repeat (first | refine RunT.oneA (hp := by simp (maxSteps := 2000000) (disch := first | decide | omega | (simp only [List.length_append, List.length_cons, List.length_nil, List.length_take, List.length_drop]; omega)) only [c0, c1, c2, c3, c4, c5, c6, c7, c8, go_sem]; rfl) (h := ?_) | refine RunT.notA (h := ?_))); refine RunT.nil ?_; try simp only [InBlock, Then]) | refine Tri.cF (by first | (simp only [go_sem]; done) | fail) ?_ | refine Tri.cT (by first | (simp only [go_sem]; done) | fail) ?_ | (refine Tri.skip ?_; try simp only [InBlock, Then]) | (refine Tri.exit ?_; simp only [Then, InBlock, if_true, if_false, ↓reduceIte, Nat.reduceEqDiff]) | refine Tri.seq (Tri.block ?_) | refine Tri.block ?_ | refine Tri.seq ?_ | (refine Tri.ret ?_; refine Con.fin (.inl rfl) (by simp only [Tryd.f33, cfgKM1, resA, resA1, go_sem]; rfl) (by simp only [Obs]) (by first | (simp only [kSmR, Con.of, resV, e, go_sem]; done) | fail) trivial rfl rfl))
theorem smr_sum : FSumOK Tryd.prog cfgKM1.G 33 kSmR.sum := Con.sumOK cfgKM1_ok kSmR Tryd.func33 rfl rfl (Con.of_inv _ _ _) smr_body
end
end Go.Proofs.YtjdeaphfamenaaaDoor

namespace Go.Proofs.YtjdeaphfamenaaaDoor
open Go.Vc Go.Proofs
set_option maxRecDepth 10000
set_option maxHeartbeats 4000000
theorem kd_one {m : krK.T} {fs : List flK.T} (h : fdR m = some fs) : 1 ≤ (m.1 : Int) ∧ (m.1 : Int) ≤ 7 := by
  have h0 : (fdR m).isSome = true := by rw [h]; rfl
  rw [fdR_isSome, Bool.and_eq_true, Bool.and_eq_true] at h0
  have h2 : (0 : Int) < (((hasK m.1).length : Nat) : Int) := of_decide_eq_true h0.2.1
  obtain ⟨(k : Int), r⟩ := m
  replace h2 : (0 : Int) < (((hasK k).length : Nat) : Int) := h2
  show 1 ≤ k ∧ k ≤ 7
  unfold hasK at h2
  by_cases k1 : k = 1
  · omega
  by_cases k2 : k = 2
  · omega
  by_cases k3 : k = 3
  · omega
  by_cases k4 : k = 4
  · omega
  by_cases k5 : k = 5
  · omega
  by_cases k6 : k = 6
  · omega
  by_cases k7 : k = 7
  · omega
  rw [if_neg k1, if_neg k2, if_neg k3, if_neg k4, if_neg k5, if_neg k6, if_neg k7] at h2
  exact absurd h2 (by decide)
theorem smR_self (a : krK.T) : smR a a = true := by
  simp [smR, strEq]
theorem smR_eq {a b : krK.T} (h : smR a b = true) : a = b := by
  unfold smR at h
  simp only [Bool.and_eq_true, decide_eq_true_eq] at h
  obtain ⟨h1, h2, h3, h4, h5, h6, h8, h9, h7⟩ := h
  obtain ⟨a1, a2, a3, a4, a5, a6, a7, a8, a9, a10⟩ := a
  obtain ⟨b1, b2, b3, b4, b5, b6, b7, b8, b9, b10⟩ := b
  have e2 : a2 = b2 := of_decide_eq_true h2
  have e3 : a3 = b3 := of_decide_eq_true h3
  have e8 : a7 = b7 := of_decide_eq_true h8
  have e9 : a8 = b8 := of_decide_eq_true h9
  have e1 : a1 = b1 := h1
  have e4 : a4 = b4 := h4
  have e5 : a5 = b5 := h5
  have e6 : a6 = b6 := h6
  have e7 : a9 = b9 := h7
  rw [e1, e2, e3, e4, e5, e6, e7, e8, e9]
theorem apart_eq {a b : krK.T} {fa fb : List flK.T} (ha : fdR a = some fa) (hb : fdR b = some fb) : strEq (jnK fa) (jnK fb) = smR a b := by
  cases h : smR a b with
  | true =>
    have e := smR_eq h
    rw [e, hb] at ha
    injection ha with ha
    rw [ha]
    exact decide_eq_true rfl
  | false =>
    refine decide_eq_false fun e => ?_
    have e2 := jnK_inj fa fb (fdR_ok ha).2 (fdR_ok hb).2 e
    rw [e2] at ha
    have e3 := fd_inj (kd_one ha) (kd_one hb) ha hb
    rw [e3, smR_self] at h
    cases h
theorem grm_no {m : krK.T} (h : grM m = false) : List.length (α := UInt8) m.2.1 ≤ 300 ∧ List.length (α := UInt8) m.2.2.1 ≤ 300 ∧ List.length (α := UInt8) m.2.2.2.2.2.2.1 ≤ 4000 ∧ List.length (α := UInt8) m.2.2.2.2.2.2.2.1 ≤ 4000 := by
  unfold grM at h
  simp only [Bool.or_eq_false_iff, decide_eq_false_iff_not] at h
  exact ⟨by omega, by omega, by omega, by omega⟩
def kLKa : Con := Con.of [.v krK, .v krK] (fun _ => []) (fun _ => ⟨.bool true, []⟩)
def cfgKO1 : Cfg2 := { ty := tyTabM, fn := fun | 30 => some kKs.sum | 31 => some kGrM.sum | 32 => some kWr.sum | 33 => some kSmR.sum | _ => none, G := gNone, pin := [], eq := fun _ => none }
theorem cfgKO1_ok : CfgOK Tryd.prog cfgKO1 := ⟨tyTabM_ok, (fun f s h => by
  simp only [cfgKO1] at h
  split at h
  · injection h with h; subst h; exact .inl ksp_sum
  · injection h with h; subst h; exact .inl grm_sum
  · injection h with h; subst h; exact .inl wr_sum
  · injection h with h; subst h; exact .inl smr_sum
  · cases h), (fun t d h => by cases h)⟩
section
attribute [local go_sem] Tryd.f11 kLKa kKs kGrM kWr kSmR cfgKO1 tyTabM tyTabK tyTab
theorem lka_body (p : kLKa.Par) (hp : ∀ q ∈ kLKa.pre p, q) : BodyOK Tryd.prog cfgKO1 Tryd.f11 (Tryd.f11.body.get rfl) kLKa p := by
  obtain ⟨⟨(akd : Int), (acl : List UInt8), (asv : List UInt8), (ano : UInt64), (aen : Int), (afl : Int), (ati : List UInt8), (ase : List UInt8), (aco : Int), u1⟩, ⟨(bkd : Int), (bcl : List UInt8), (bsv : List UInt8), (bno : UInt64), (ben : Int), (bfl : Int), (bti : List UInt8), (bse : List UInt8), (bco : Int), u2⟩, u⟩ := p
  refine ⟨?_, Nat.zero_le _, rfl, rfl⟩
  show Tri _ _ _ (Code.seq _ (Code.seq (Code.seq _ (Code.cond _ (Code.seq _ _) _)) (Code.seq (Code.seq _ (Code.cond _ (Code.seq _ _) _)) (Code.seq _ (Code.seq _ (Code.seq _ _)))))) _
  cases g1 : grM (akd, acl, asv, ano, aen, afl, ati, ase, aco, u1) with
  | true =>
    refine Tri.at (by first | (simp only [Con.start, go_sem]; rfl) | rfl) ?_
    repeat (first | ((first | refine Tri.seq (Tri.regT (cfgKO1_ok.pins _) ?_) | refine Tri.rgnT (cfgKO1_ok.pins _) ?_); (repeat (first | refine RunT.oneA (hp := by simp (maxSteps := 2000000) (disch := first | decide | omega | (simp only [List.length_append, List.length_cons, List.length_nil, List.length_take, List.length_drop]; omega)) only [g1, go_sem]; rfl) (h := ?_) | refine RunT.notA (h := ?_))); refine RunT.nil ?_; try simp only [InBlock, Then]) | refine Tri.cF (by first | (simp only [go_sem]; done) | fail) ?_ | refine Tri.cT (by first | (simp only [go_sem]; done) | fail) ?_ | (refine Tri.skip ?_; try simp only [Then]) | (refine Tri.exit ?_; simp only [Then, InBlock, if_true, if_false, ↓reduceIte, Nat.reduceEqDiff]) | refine Tri.seq (Tri.block ?_) | refine Tri.block ?_ | refine Tri.seq ?_ | (refine Tri.ret ?_; refine Con.fin (.inl rfl) (by simp only [Tryd.f11, cfgKO1, resA, resA1, go_sem]; rfl) (by simp only [Obs]) (by first | (simp only [kLKa, Con.of, resV, go_sem]; done) | fail) trivial rfl rfl))
  | false =>
  cases g2 : grM (bkd, bcl, bsv, bno, ben, bfl, bti, bse, bco, u2) with
  | true =>
    refine Tri.at (by first | (simp only [Con.start, go_sem]; rfl) | rfl) ?_
    repeat (first | ((first | refine Tri.seq (Tri.regT (cfgKO1_ok.pins _) ?_) | refine Tri.rgnT (cfgKO1_ok.pins _) ?_); (repeat (first | refine RunT.oneA (hp := by simp (maxSteps := 2000000) (disch := first | decide | omega | (simp only [List.length_append, List.length_cons, List.length_nil, List.length_take, List.length_drop]; omega)) only [g1, g2, go_sem]; rfl) (h := ?_) | refine RunT.notA (h := ?_))); refine RunT.nil ?_; try simp only [InBlock, Then]) | refine Tri.cF (by first | (simp only [go_sem]; done) | fail) ?_ | refine Tri.cT (by first | (simp only [go_sem]; done) | fail) ?_ | (refine Tri.skip ?_; try simp only [Then]) | (refine Tri.exit ?_; simp only [Then, InBlock, if_true, if_false, ↓reduceIte, Nat.reduceEqDiff]) | refine Tri.seq (Tri.block ?_) | refine Tri.block ?_ | refine Tri.seq ?_ | (refine Tri.ret ?_; refine Con.fin (.inl rfl) (by simp only [Tryd.f11, cfgKO1, resA, resA1, go_sem]; rfl) (by simp only [Obs]) (by first | (simp only [kLKa, Con.of, resV, go_sem]; done) | fail) trivial rfl rfl))
  | false =>
  obtain ⟨a1, a2, a3, a4⟩ := grm_no g1
  obtain ⟨b1, b2, b3, b4⟩ := grm_no g2
  replace a1 : acl.length ≤ 300 := a1
  replace a2 : asv.length ≤ 300 := a2
  replace a3 : ati.length ≤ 4000 := a3
  replace a4 : ase.length ≤ 4000 := a4
  replace b1 : bcl.length ≤ 300 := b1
  replace b2 : bsv.length ≤ 300 := b2
  replace b3 : bti.length ≤ 4000 := b3
  replace b4 : bse.length ≤ 4000 := b4
  have z1 : decide ((0 : Int) = 0) = true := rfl
  have z2 : decide ((1 : Int) = 0) = false := rfl
  cases ha : fdR (akd, acl, asv, ano, aen, afl, ati, ase, aco, u1) with
  | none =>
    have e1 : wrV (akd, acl, asv, ano, aen, afl, ati, ase, aco, u1) = .tuple [.nilsl, .int .i64 (1 : Int)] := by rw [wrV, ha]
    cases hb : fdR (bkd, bcl, bsv, bno, ben, bfl, bti, bse, bco, u2) with
    | none =>
      have e2 : wrV (bkd, bcl, bsv, bno, ben, bfl, bti, bse, bco, u2) = .tuple [.nilsl, .int .i64 (1 : Int)] := by rw [wrV, hb]
      refine Tri.at (by first | (simp only [Con.start, go_sem]; rfl) | rfl) ?_
      repeat (first | ((first | refine Tri.seq (Tri.regT (cfgKO1_ok.pins _) ?_) | refine Tri.rgnT (cfgKO1_ok.pins _) ?_); (repeat (first | refine RunT.oneA (hp := by simp (maxSteps := 2000000) (disch := first | decide | omega | (simp only [List.length_append, List.length_cons, List.length_nil, List.length_take, List.length_drop]; omega)) only [g1, g2, e1, e2, go_sem]; rfl) (h := ?_) | refine RunT.notA (h := ?_))); refine RunT.nil ?_; try simp only [InBlock, Then]) | ((first | refine Tri.seq (Tri.drwT (mixed) (cfgKO1_ok.pins _) ?_) | refine Tri.drnT (mixed) (cfgKO1_ok.pins _) ?_); (repeat (first | refine RunD.oneA (hp := by simp (maxSteps := 2000000) (disch := first | decide | omega | (simp only [List.length_append, List.length_cons, List.length_nil, List.length_take, List.length_drop]; omega)) only [go_sem]; rfl) (h := ?_) | refine RunD.notA (h := ?_))); refine RunD.nil ?_; refine ⟨by kernel_rfl, ?_⟩; try simp only [InBlock, Then]) | refine Tri.cF (by first | (simp only [go_sem]; done) | fail) ?_ | refine Tri.cT (by first | (simp only [go_sem]; done) | fail) ?_ | (refine Tri.skip ?_; try simp only [Then]) | (refine Tri.exit ?_; simp only [Then, InBlock, if_true, if_false, ↓reduceIte, Nat.reduceEqDiff]) | refine Tri.seq (Tri.block ?_) | refine Tri.block ?_ | refine Tri.seq ?_ | (refine Tri.ret ?_; refine Con.fin (.inl rfl) (by simp only [Tryd.f11, cfgKO1, resA, resA1, go_sem]; rfl) (by simp only [Obs]) (by first | (simp only [kLKa, Con.of, resV, go_sem]; done) | fail) trivial rfl rfl))
    | some fb =>
      have e2 : wrV (bkd, bcl, bsv, bno, ben, bfl, bti, bse, bco, u2) = .tuple [.pure (.slice true (.int .u8)) (jnK fb), .int .i64 (0 : Int)] := by rw [wrV, hb]
      refine Tri.at (by first | (simp only [Con.start, go_sem]; rfl) | rfl) ?_
      repeat (first | ((first | refine Tri.seq (Tri.regT (cfgKO1_ok.pins _) ?_) | refine Tri.rgnT (cfgKO1_ok.pins _) ?_); (repeat (first | refine RunT.oneA (hp := by simp (maxSteps := 2000000) (disch := first | decide | omega | (simp only [List.length_append, List.length_cons, List.length_nil, List.length_take, List.length_drop]; omega)) only [g1, g2, e1, e2, go_sem]; rfl) (h := ?_) | refine RunT.notA (h := ?_))); refine RunT.nil ?_; try simp only [InBlock, Then]) | ((first | refine Tri.seq (Tri.drwT (mixed) (cfgKO1_ok.pins _) ?_) | refine Tri.drnT (mixed) (cfgKO1_ok.pins _) ?_); (repeat (first | refine RunD.oneA (hp := by simp (maxSteps := 2000000) (disch := first | decide | omega | (simp only [List.length_append, List.length_cons, List.length_nil, List.length_take, List.length_drop]; omega)) only [go_sem]; rfl) (h := ?_) | refine RunD.notA (h := ?_))); refine RunD.nil ?_; refine ⟨by kernel_rfl, ?_⟩; try simp only [InBlock, Then]) | refine Tri.cF (by first | (simp only [go_sem]; done) | fail) ?_ | refine Tri.cT (by first | (simp only [go_sem]; done) | fail) ?_ | (refine Tri.skip ?_; try simp only [Then]) | (refine Tri.exit ?_; simp only [Then, InBlock, if_true, if_false, ↓reduceIte, Nat.reduceEqDiff]) | refine Tri.seq (Tri.block ?_) | refine Tri.block ?_ | refine Tri.seq ?_ | (refine Tri.ret ?_; refine Con.fin (.inl rfl) (by simp only [Tryd.f11, cfgKO1, resA, resA1, go_sem]; rfl) (by simp only [Obs]) (by first | (simp only [kLKa, Con.of, resV, go_sem]; done) | fail) trivial rfl rfl))
  | some fa =>
    have e1 : wrV (akd, acl, asv, ano, aen, afl, ati, ase, aco, u1) = .tuple [.pure (.slice true (.int .u8)) (jnK fa), .int .i64 (0 : Int)] := by rw [wrV, ha]
    cases hb : fdR (bkd, bcl, bsv, bno, ben, bfl, bti, bse, bco, u2) with
    | none =>
      have e2 : wrV (bkd, bcl, bsv, bno, ben, bfl, bti, bse, bco, u2) = .tuple [.nilsl, .int .i64 (1 : Int)] := by rw [wrV, hb]
      refine Tri.at (by first | (simp only [Con.start, go_sem]; rfl) | rfl) ?_
      repeat (first | ((first | refine Tri.seq (Tri.regT (cfgKO1_ok.pins _) ?_) | refine Tri.rgnT (cfgKO1_ok.pins _) ?_); (repeat (first | refine RunT.oneA (hp := by simp (maxSteps := 2000000) (disch := first | decide | omega | (simp only [List.length_append, List.length_cons, List.length_nil, List.length_take, List.length_drop]; omega)) only [g1, g2, e1, e2, go_sem]; rfl) (h := ?_) | refine RunT.notA (h := ?_))); refine RunT.nil ?_; try simp only [InBlock, Then]) | ((first | refine Tri.seq (Tri.drwT (mixed) (cfgKO1_ok.pins _) ?_) | refine Tri.drnT (mixed) (cfgKO1_ok.pins _) ?_); (repeat (first | refine RunD.oneA (hp := by simp (maxSteps := 2000000) (disch := first | decide | omega | (simp only [List.length_append, List.length_cons, List.length_nil, List.length_take, List.length_drop]; omega)) only [go_sem]; rfl) (h := ?_) | refine RunD.notA (h := ?_))); refine RunD.nil ?_; refine ⟨by kernel_rfl, ?_⟩; try simp only [InBlock, Then]) | refine Tri.cF (by first | (simp only [go_sem]; done) | fail) ?_ | refine Tri.cT (by first | (simp only [go_sem]; done) | fail) ?_ | (refine Tri.skip ?_; try simp only [Then]) | (refine Tri.exit ?_; simp only [Then, InBlock, if_true, if_false, ↓reduceIte, Nat.reduceEqDiff]) | refine Tri.seq (Tri.block ?_) | refine Tri.block ?_ | refine Tri.seq ?_ | (refine Tri.ret ?_; refine Con.fin (.inl rfl) (by simp only [Tryd.f11, cfgKO1, resA, resA1, go_sem]; rfl) (by simp only [Obs]) (by first | (simp only [kLKa, Con.of, resV, go_sem]; done) | fail) trivial rfl rfl))
    | some fb =>
      have e2 : wrV (bkd, bcl, bsv, bno, ben, bfl, bti, bse, bco, u2) = .tuple [.pure (.slice true (.int .u8)) (jnK fb), .int .i64 (0 : Int)] := by rw [wrV, hb]
      have e3 := apart_eq ha hb
      cases hs : smR (akd, acl, asv, ano, aen, afl, ati, ase, aco, u1) (bkd, bcl, bsv, bno, ben, bfl, bti, bse, bco, u2)
      all_goals
        rw [hs] at e3
        refine Tri.at (by first | (simp only [Con.start, go_sem]; rfl) | rfl) ?_
        repeat (first | ((first | refine Tri.seq (Tri.regT (cfgKO1_ok.pins _) ?_) | refine Tri.rgnT (cfgKO1_ok.pins _) ?_); (repeat (first | refine RunT.oneA (hp := by simp (maxSteps := 2000000) (disch := first | decide | omega | (simp only [List.length_append, List.length_cons, List.length_nil, List.length_take, List.length_drop]; omega)) only [g1, g2, e1, e2, go_sem]; rfl) (h := ?_) | refine RunT.notA (h := ?_))); refine RunT.nil ?_; try simp only [InBlock, Then]) | ((first | refine Tri.seq (Tri.drwT (mixed) (cfgKO1_ok.pins _) ?_) | refine Tri.drnT (mixed) (cfgKO1_ok.pins _) ?_); (repeat (first | refine RunD.oneA (hp := by simp (maxSteps := 2000000) (disch := first | decide | omega | (simp only [List.length_append, List.length_cons, List.length_nil, List.length_take, List.length_drop]; omega)) only [e3, hs, go_sem]; rfl) (h := ?_) | refine RunD.notA (h := ?_))); refine RunD.nil ?_; refine ⟨by kernel_rfl, ?_⟩; try simp only [InBlock, Then]) | refine Tri.cF (by first | (simp only [go_sem]; done) | fail) ?_ | refine Tri.cT (by first | (simp only [go_sem]; done) | fail) ?_ | (refine Tri.skip ?_; try simp only [Then]) | (refine Tri.exit ?_; simp only [Then, InBlock, if_true, if_false, ↓reduceIte, Nat.reduceEqDiff]) | refine Tri.seq (Tri.block ?_) | refine Tri.block ?_ | refine Tri.seq ?_ | (refine Tri.ret ?_; refine Con.fin (.inl rfl) (by simp only [Tryd.f11, cfgKO1, resA, resA1, go_sem]; rfl) (by simp only [Obs]) (by first | (simp only [kLKa, Con.of, resV, go_sem]; done) | fail) trivial rfl rfl))
theorem lka_sum : FSumOK Tryd.prog cfgKO1.G 11 kLKa.sum := Con.sumOK cfgKO1_ok kLKa Tryd.func11 rfl rfl (Con.of_inv _ _ _) lka_body
end
end Go.Proofs.YtjdeaphfamenaaaDoor

namespace Go.Proofs.YtjdeaphfamenaaaDoor
open Go.Vc Go.Proofs
set_option maxRecDepth 10000
theorem fd_shape {m : krK.T} {fs : List flK.T} (h : fdR m = some fs) : fs = (((31 : Int), numS (UInt64.ofInt m.1), ()) : flK.T) :: (hasK m.1).map (fun t => ((t, vaB m t, ()) : flK.T)) := by
  unfold fdR at h
  rw [fdS_eq] at h
  cases ha : (hasK m.1).all (vaO m) with
  | false => rw [ha] at h; cases h
  | true =>
    rw [ha, if_pos rfl] at h
    dsimp only at h
    split at h
    · injection h with h
      exact h.symm
    · cases h
theorem jnK_pre : ∀ (fs gs : List flK.T) (p : List UInt8), (∀ f ∈ fs, fkOK f) → (∀ g ∈ gs, fkOK g) → fs.length = gs.length → jnK gs = jnK fs ++ p → fs = gs ∧ p = []
  | [], [], p, _, _, _, h => ⟨rfl, h.symm⟩
  | [], g :: s, _, _, _, h, _ => by cases h
  | f :: r, [], _, _, _, h, _ => by cases h
  | f :: r, g :: s, p, hf, hg, hl, h => by
    have e1 : jnK (g :: s) = flBK g ++ jnK s := rfl
    have e2 : jnK (f :: r) ++ p = flBK f ++ (jnK r ++ p) := by
      show (flBK f ++ jnK r) ++ p = _
      rw [List.append_assoc]
    rw [e1, e2] at h
    obtain ⟨q1, q2⟩ := fl_head (hg g (List.mem_cons_self ..)) (hf f (List.mem_cons_self ..)) h
    obtain ⟨q3, q4⟩ := jnK_pre r s p (fun x hx => hf x (List.mem_cons_of_mem _ hx)) (fun x hx => hg x (List.mem_cons_of_mem _ hx)) (by simpa using hl) q2
    exact ⟨by rw [q1, q3], q4⟩
theorem pre_nil {a b : krK.T} {fs gs : List flK.T} {p : List UInt8} (ha : fdR a = some fs) (hb : fdR b = some gs) (h : jnK gs = jnK fs ++ p) : fs = gs ∧ p = [] := by
  have ka := kd_one ha
  have kb := kd_one hb
  obtain ⟨(k1 : Int), ra⟩ := a
  obtain ⟨(k2 : Int), rb⟩ := b
  replace ka : 1 ≤ k1 ∧ k1 ≤ 7 := ka
  replace kb : 1 ≤ k2 ∧ k2 ≤ 7 := kb
  have sa := fd_shape ha
  have sb := fd_shape hb
  obtain ⟨_, fa⟩ := fdR_ok ha
  obtain ⟨_, fb⟩ := fdR_ok hb
  have hk : k1 = k2 := by
    rw [sa, sb] at h
    have e1 : ∀ (f : flK.T) r, jnK (f :: r) = flBK f ++ jnK r := fun f r => rfl
    rw [e1, e1, List.append_assoc] at h
    obtain ⟨q1, _⟩ := fl_head (fb _ (by rw [sb]; exact List.mem_cons_self ..)) (fa _ (by rw [sa]; exact List.mem_cons_self ..)) h
    have h5 : numS (UInt64.ofInt k2) = numS (UInt64.ofInt k1) := congrArg (fun z : flK.T => z.2.1) q1
    have h6 := sm_num k1 (by omega) (by omega)
    have h7 := sm_num k2 (by omega) (by omega)
    rw [← h5, h7] at h6
    exact h6.symm
  refine jnK_pre fs gs p fa fb ?_ h
  rw [sa, sb]
  simp only [List.length_cons, List.length_map]
  show (hasK k1).length + 1 = (hasK k2).length + 1
  rw [hk]
theorem jnK_big : ∀ fs : List flK.T, fs.length ≤ (jnK fs).length
  | [] => Nat.zero_le _
  | f :: r => by
    have e1 : jnK (f :: r) = flBK f ++ jnK r := rfl
    have := jnK_big r
    rw [e1, List.length_append, flBK_len, List.length_cons]
    omega
theorem sp_jn (fs : List flK.T) (h : ∀ f ∈ fs, fkOK f) : spF (jnK fs).length (jnK fs) [] = (some fs, (0 : Int)) := by
  have hb := jnK_big fs
  have e := sp_all fs ((jnK fs).length - fs.length) [] [] h
  rw [List.append_nil, show (jnK fs).length - fs.length + fs.length = (jnK fs).length by omega] at e
  rw [e, List.nil_append]
  generalize (jnK fs).length - fs.length = k
  cases k with
  | zero => rfl
  | succ k => rw [spF, if_pos (by decide)]
theorem rd_wr {m : krK.T} {fs : List flK.T} (h : fdR m = some fs) : rdM (jnK fs) = m ∧ rdX (jnK fs) = true := by
  have hm : rdM (jnK fs) = m := by
    have e : rdF (jnK fs) = fs := by rw [rdF, sp_jn fs (fdR_ok h).2]
    rw [rdM, e]
    have k := kd_one h
    have s := fd_shape h
    obtain ⟨_, d⟩ := fd_dec h
    have e2 : dcK fs m.1 = (fs.tail).foldl (fun b f => stM b f.1 f.2.1) (fd0 m.1) := rfl
    rw [e2] at d
    have e3 : fs.foldl (fun b f => stM b f.1 f.2.1) (fd0 0) = fs.tail.foldl (fun b f => stM b f.1 f.2.1) (stM (fd0 0) 31 (numS (UInt64.ofInt m.1))) := by
      rw [s]; rfl
    have e4 : stM (fd0 0) 31 (numS (UInt64.ofInt m.1)) = fd0 m.1 := by
      rw [stM, if_pos rfl]
      have h6 : smN (rdU (numS (UInt64.ofInt m.1))) = m.1 := by
        obtain ⟨(kk : Int), rr⟩ := m
        replace k : 1 ≤ kk ∧ kk ≤ 7 := k
        exact sm_num kk (by omega) (by omega)
      rw [h6]; rfl
    rw [e3, e4, d]
  refine ⟨hm, ?_⟩
  rw [rdX, hm, h]
  exact decide_eq_true rfl
theorem rdX_some {d : List UInt8} (h : rdX d = true) : ∃ gs, fdR (rdM d) = some gs ∧ jnK gs = d := by
  unfold rdX at h
  split at h
  · rename_i gs hg
    exact ⟨gs, hg, of_decide_eq_true h⟩
  · cases h
theorem cut_no {m : krK.T} {fs : List flK.T} (h : fdR m = some fs) (n : Nat) (hn : n < (jnK fs).length) : rdX ((jnK fs).take n) = false := by
  cases hx : rdX ((jnK fs).take n) with
  | false => rfl
  | true =>
    obtain ⟨gs, hg, hj⟩ := rdX_some hx
    have := (pre_nil hg h (p := (jnK fs).drop n) (by rw [hj, List.take_append_drop])).2
    have hl := congrArg List.length this
    rw [List.length_drop, List.length_nil] at hl
    omega
theorem more_no {m : krK.T} {fs : List flK.T} (h : fdR m = some fs) (p : List UInt8) : rdX (jnK fs ++ p) = decide (p.length = 0) := by
  cases p with
  | nil => rw [List.append_nil, (rd_wr h).2]; rfl
  | cons x r =>
    cases hx : rdX (jnK fs ++ x :: r) with
    | false => exact (decide_eq_false (by simp)).symm
    | true =>
      obtain ⟨gs, hg, hj⟩ := rdX_some hx
      have := (pre_nil h hg hj).2
      cases this
end Go.Proofs.YtjdeaphfamenaaaDoor

namespace Go.Proofs.YtjdeaphfamenaaaDoor
open Go.Vc Go.Proofs
set_option maxRecDepth 10000
set_option maxHeartbeats 4000000
def kRNum : Con := Con.of [.v (.int .u64)] (fun _ => []) (fun x => ⟨.pure (.slice true (.int .u8)) (numS x.1), []⟩)
theorem u64_256 (n : UInt64) : remT .u64 n 256 = n % 256 ∧ quoT .u64 n 256 = (n >>> 8 : UInt64) := by
  refine ⟨rfl, ?_⟩
  show (UInt64.div n 256 : UInt64) = n >>> 8
  show (n / 256 : UInt64) = n >>> 8
  apply UInt64.toNat_inj.1
  rw [UInt64.toNat_shiftRight, UInt64.toNat_div]
  simp [Nat.shiftRight_eq_div_pow]
theorem u8_256 (n : UInt64) : (n % 256).toUInt8 = n.toUInt8 := by
  apply UInt8.toNat_inj.1
  simp
def cfgKX1 : Cfg2 := { ty := tyTab, fn := fun  | _ => none, G := gNone, pin := [], eq := fun _ => none }
theorem cfgKX1_ok : CfgOK Tryd.prog cfgKX1 := ⟨tysOK, (fun f s h => by cases h), (fun t d h => by cases h)⟩
section
attribute [local go_sem] Tryd.f78 kRNum cfgKX1 tyTab
theorem rnu_body (p : kRNum.Par) (hp : ∀ q ∈ kRNum.pre p, q) : BodyOK Tryd.prog cfgKX1 Tryd.f78 (Tryd.f78.body.get rfl) kRNum p := by
  obtain ⟨(n0 : UInt64), u⟩ := p
  refine ⟨?_, Nat.zero_le _, rfl, rfl⟩
  show Tri _ _ _ (Code.seq _ (Code.seq _ (Code.seq (Code.seq _ (Code.block _ (Code.loop (Code.seq (Code.seq _ (Code.cond _ _ _)) (Code.seq (Code.block _ _) _))))) (Code.seq _ _)))) _
  refine Tri.at (by first | (simp only [go_sem, Con.start, go_sem]; rfl) | rfl) ?_
  repeat (first | ((first | refine Tri.seq (Tri.regT (cfgKX1_ok.pins _) ?_) | refine Tri.rgnT (cfgKX1_ok.pins _) ?_); (repeat (first | refine RunT.oneA (hp := by simp (maxSteps := 2000000) (disch := first | decide | omega | (simp only [List.length_append, List.length_cons, List.length_nil, List.length_take, List.length_drop]; omega)) only [go_sem, go_sem]; rfl) (h := ?_) | refine RunT.notA (h := ?_))); refine RunT.nil ?_; try simp only [InBlock, Then]) | ((first | refine Tri.seq (Tri.drwT (mixed) (cfgKX1_ok.pins _) ?_) | refine Tri.drnT (mixed) (cfgKX1_ok.pins _) ?_); (repeat (first | refine RunD.oneA (hp := by simp (maxSteps := 2000000) (disch := first | decide | omega | (simp only [List.length_append, List.length_cons, List.length_nil, List.length_take, List.length_drop]; omega)) only [go_sem, go_sem]; rfl) (h := ?_) | refine RunD.notA (h := ?_))); refine RunD.nil ?_; refine ⟨by kernel_rfl, ?_⟩; try simp only [InBlock, Then]) | refine Tri.cF (by first | (simp only [go_sem, go_sem]; done) | fail) ?_ | refine Tri.cT (by first | (simp only [go_sem, go_sem]; done) | fail) ?_ | (refine Tri.skip ?_; try simp only [InBlock, Then]) | (refine Tri.exit ?_; simp only [Then, InBlock, if_true, if_false, ↓reduceIte, Nat.reduceEqDiff]) | refine Tri.seq (Tri.block ?_) | refine Tri.block ?_ | refine Tri.seq ?_ | (refine Tri.ret ?_; refine Con.fin (.inl rfl) (by simp only [Tryd.f78, cfgKX1, resA, resA1, go_sem]; rfl) (by simp only [Obs, and_true, true_and]) (by first | (simp only [kRNum, Con.of, Con.ofO, resV, go_sem, go_sem]; done) | fail) trivial rfl rfl))
  refine Tri.rel true 0 rfl ?_ rfl rfl ?_
  · simp only [AS.blk, go_sem]
    repeat' constructor
  refine Tri.at (by first | (simp only [go_sem, Con.start, go_sem]; rfl) | rfl) ?_
  refine Tri.loop (fun s : UInt64 × List UInt8 => (⟨[some (.int .u64 n0), none, none, some (.pure (.slice true (.int .u8)) s.2), some (.int .u64 s.1)] ++ List.replicate 13 none, []⟩ : AS)) (fun s => s.2.length ≤ 8 ∧ s.1.toNat < 256 ^ (8 - s.2.length) ∧ (leN (8 - s.2.length) s.1).reverse ++ s.2 = numS n0) (fun s => 8 - s.2.length) (n0, []) ?_ ⟨Nat.zero_le _, UInt64.toNat_lt n0, List.append_nil _⟩ ?_
  · refine Wk.of ?_ ?_ rfl rfl
    · simp only [lessTs, List.reduceReplicate, List.cons_append, List.nil_append] <;> ((repeat' apply And.intro) <;> first | with_reducible rfl | exact True.intro | exact congrArg (fun z : Int => some (AV.int IntKind.i64 z)) (show (_ : Int) = _ by omega) | exact congrArg (fun z : Nat => some (AV.tsl _ _ _ _ _ z)) (show (_ : Nat) = _ by omega) | exact arrEq (by omega) (by with_reducible rfl))
    · simp only [lessHs] <;> ((repeat' apply And.intro) <;> first | with_reducible rfl | exact True.intro | exact congrArg (fun z : Int => some (AV.int IntKind.i64 z)) (show (_ : Int) = _ by omega) | exact congrArg (fun z : Nat => some (AV.tsl _ _ _ _ _ z)) (show (_ : Nat) = _ by omega) | exact arrEq (by omega) (by with_reducible rfl))
  · intro ⟨n, acc⟩ ⟨ha, hn, he⟩
    replace ha : acc.length ≤ 8 := ha
    replace hn : n.toNat < 256 ^ (8 - acc.length) := hn
    replace he : (leN (8 - acc.length) n).reverse ++ acc = numS n0 := he
    by_cases hz : n = 0
    · have hz' : decide ((0 : UInt64) < n) = false := by rw [hz]; rfl
      have hl : leN (8 - acc.length) n = [] := by
        subst hz
        cases 8 - acc.length <;> rfl
      rw [hl, List.reverse_nil, List.nil_append] at he
      subst he
      refine Tri.at (by first | (simp only [hz', Con.start, go_sem]; rfl) | rfl) ?_
      repeat (first | ((first | refine Tri.seq (Tri.regT (cfgKX1_ok.pins _) ?_) | refine Tri.rgnT (cfgKX1_ok.pins _) ?_); (repeat (first | refine RunT.oneA (hp := by simp (maxSteps := 2000000) (disch := first | decide | omega | (simp only [List.length_append, List.length_cons, List.length_nil, List.length_take, List.length_drop]; omega)) only [hz', go_sem]; rfl) (h := ?_) | refine RunT.notA (h := ?_))); refine RunT.nil ?_; try simp only [InBlock, Then]) | ((first | refine Tri.seq (Tri.drwT (mixed) (cfgKX1_ok.pins _) ?_) | refine Tri.drnT (mixed) (cfgKX1_ok.pins _) ?_); (repeat (first | refine RunD.oneA (hp := by simp (maxSteps := 2000000) (disch := first | decide | omega | (simp only [List.length_append, List.length_cons, List.length_nil, List.length_take, List.length_drop]; omega)) only [hz', go_sem]; rfl) (h := ?_) | refine RunD.notA (h := ?_))); refine RunD.nil ?_; refine ⟨by kernel_rfl, ?_⟩; try simp only [InBlock, Then]) | refine Tri.cF (by first | (simp only [hz', go_sem]; done) | fail) ?_ | refine Tri.cT (by first | (simp only [hz', go_sem]; done) | fail) ?_ | (refine Tri.skip ?_; try simp only [InBlock, Then]) | (refine Tri.exit ?_; simp only [Then, InBlock, if_true, if_false, ↓reduceIte, Nat.reduceEqDiff]) | refine Tri.seq (Tri.block ?_) | refine Tri.block ?_ | refine Tri.seq ?_ | (refine Tri.ret ?_; refine Con.fin (.inl rfl) (by simp only [Tryd.f78, cfgKX1, resA, resA1, go_sem]; rfl) (by simp only [Obs, and_true, true_and]) (by first | (simp only [kRNum, Con.of, Con.ofO, resV, hz', go_sem]; done) | fail) trivial rfl rfl))
    · have hz' : decide ((0 : UInt64) < n) = true := by
        refine decide_eq_true ?_
        rw [UInt64.lt_iff_toNat_lt]
        have : n.toNat ≠ 0 := fun e => hz (UInt64.toNat_inj.1 e)
        show 0 < n.toNat
        omega
      obtain ⟨k, hk⟩ : ∃ k, 8 - acc.length = k + 1 := by
        cases h8 : 8 - acc.length with
        | zero => rw [h8] at hn; have : n.toNat = 0 := by simpa using hn
                  exact absurd (UInt64.toNat_inj.1 this) hz
        | succ k => exact ⟨k, rfl⟩
      have q1 := (u64_256 n).1
      have q2 := (u64_256 n).2
      have q3 := u8_256 n
      have q4 : List.take (1 + acc.length) (n.toUInt8 :: acc) = n.toUInt8 :: acc := List.take_of_length_le (by rw [List.length_cons]; omega)
      refine Tri.at (by first | (simp only [hz', q1, q2, q3, q4, Con.start, go_sem]; rfl) | rfl) ?_
      iterate 6 (first | ((first | refine Tri.seq (Tri.regT (cfgKX1_ok.pins _) ?_) | refine Tri.rgnT (cfgKX1_ok.pins _) ?_); (repeat (first | refine RunT.oneA (hp := by simp (maxSteps := 2000000) (disch := first | decide | omega | (simp only [List.length_append, List.length_cons, List.length_nil, List.length_take, List.length_drop]; omega)) only [hz', q1, q2, q3, q4, go_sem]; rfl) (h := ?_) | refine RunT.notA (h := ?_))); refine RunT.nil ?_; try simp only [InBlock, Then]) | ((first | refine Tri.seq (Tri.drwT (mixed) (cfgKX1_ok.pins _) ?_) | refine Tri.drnT (mixed) (cfgKX1_ok.pins _) ?_); (repeat (first | refine RunD.oneA (hp := by simp (maxSteps := 2000000) (disch := first | decide | omega | (simp only [List.length_append, List.length_cons, List.length_nil, List.length_take, List.length_drop]; omega)) only [hz', q1, q2, q3, q4, go_sem]; rfl) (h := ?_) | refine RunD.notA (h := ?_))); refine RunD.nil ?_; refine ⟨by kernel_rfl, ?_⟩; try simp only [InBlock, Then]) | refine Tri.cF (by first | (simp only [hz', q1, q2, q3, q4, go_sem]; done) | fail) ?_ | refine Tri.cT (by first | (simp only [hz', q1, q2, q3, q4, go_sem]; done) | fail) ?_ | (refine Tri.skip ?_; try simp only [InBlock, Then]) | (refine Tri.exit ?_; simp only [Then, InBlock, if_true, if_false, ↓reduceIte, Nat.reduceEqDiff]) | refine Tri.seq (Tri.block ?_) | refine Tri.block ?_ | refine Tri.seq ?_ | (refine Tri.ret ?_; refine Con.fin (.inl rfl) (by simp only [Tryd.f78, cfgKX1, resA, resA1, go_sem]; rfl) (by simp only [Obs, and_true, true_and]) (by first | (simp only [kRNum, Con.of, Con.ofO, resV, hz', q1, q2, q3, q4, go_sem]; done) | fail) trivial rfl rfl))
      refine Tri.rel true 0 rfl ?_ rfl rfl ?_
      · simp only [AS.blk, go_sem]
        repeat' constructor
      refine Tri.at (by first | (simp only [hz', q1, q2, q3, q4, Con.start, go_sem]; rfl) | rfl) ?_
      repeat (first | ((first | refine Tri.seq (Tri.regT (cfgKX1_ok.pins _) ?_) | refine Tri.rgnT (cfgKX1_ok.pins _) ?_); (repeat (first | refine RunT.oneA (hp := by simp (maxSteps := 2000000) (disch := first | decide | omega | (simp only [List.length_append, List.length_cons, List.length_nil, List.length_take, List.length_drop]; omega)) only [hz', q1, q2, q3, q4, go_sem]; rfl) (h := ?_) | refine RunT.notA (h := ?_))); refine RunT.nil ?_; try simp only [InBlock, Then]) | ((first | refine Tri.seq (Tri.drwT (mixed) (cfgKX1_ok.pins _) ?_) | refine Tri.drnT (mixed) (cfgKX1_ok.pins _) ?_); (repeat (first | refine RunD.oneA (hp := by simp (maxSteps := 2000000) (disch := first | decide | omega | (simp only [List.length_append, List.length_cons, List.length_nil, List.length_take, List.length_drop]; omega)) only [hz', q1, q2, q3, q4, go_sem]; rfl) (h := ?_) | refine RunD.notA (h := ?_))); refine RunD.nil ?_; refine ⟨by kernel_rfl, ?_⟩; try simp only [InBlock, Then]) | refine Tri.cF (by first | (simp only [hz', q1, q2, q3, q4, go_sem]; done) | fail) ?_ | refine Tri.cT (by first | (simp only [hz', q1, q2, q3, q4, go_sem]; done) | fail) ?_ | (refine Tri.skip ?_; try simp only [InBlock, Then]) | (refine Tri.exit ?_; simp only [Then, InBlock, if_true, if_false, ↓reduceIte, Nat.reduceEqDiff]) | refine Tri.seq (Tri.block ?_) | refine Tri.block ?_ | refine Tri.seq ?_ | (refine Tri.ret ?_; refine Con.fin (.inl rfl) (by simp only [Tryd.f78, cfgKX1, resA, resA1, go_sem]; rfl) (by simp only [Obs, and_true, true_and]) (by first | (simp only [kRNum, Con.of, Con.ofO, resV, hz', q1, q2, q3, q4, go_sem]; done) | fail) trivial rfl rfl))
      refine ⟨(n >>> 8, n.toUInt8 :: acc), ⟨?_, ?_, ?_⟩, ?_, Wk.of ?_ ?_ rfl rfl⟩
      · show (n.toUInt8 :: acc).length ≤ 8
        rw [List.length_cons]; omega
      · show (n >>> 8).toNat < 256 ^ (8 - (n.toUInt8 :: acc).length)
        rw [List.length_cons, show 8 - (acc.length + 1) = k by omega]
        exact shr8_lt (by rw [← hk]; exact hn)
      · show (leN (8 - (n.toUInt8 :: acc).length) (n >>> 8)).reverse ++ (n.toUInt8 :: acc) = numS n0
        rw [List.length_cons, show 8 - (acc.length + 1) = k by omega, ← he, hk, leN, if_neg hz, List.reverse_cons, List.append_assoc]
        rfl
      · show 8 - (n.toUInt8 :: acc).length < 8 - acc.length
        rw [List.length_cons]; omega
      · simp only [lessTs, List.reduceReplicate, List.cons_append, List.nil_append] <;> ((repeat' apply And.intro) <;> first | with_reducible rfl | exact True.intro | exact congrArg (fun z : Int => some (AV.int IntKind.i64 z)) (show (_ : Int) = _ by omega) | exact congrArg (fun z : Nat => some (AV.tsl _ _ _ _ _ z)) (show (_ : Nat) = _ by omega) | exact arrEq (by omega) (by with_reducible rfl))
      · simp only [lessTs, List.reduceReplicate, List.cons_append, List.nil_append] <;> ((repeat' apply And.intro) <;> first | with_reducible rfl | exact True.intro | exact congrArg (fun z : Int => some (AV.int IntKind.i64 z)) (show (_ : Int) = _ by omega) | exact congrArg (fun z : Nat => some (AV.tsl _ _ _ _ _ z)) (show (_ : Nat) = _ by omega) | exact arrEq (by omega) (by with_reducible rfl))
theorem rnu_sum : FSumOK Tryd.prog cfgKX1.G 78 kRNum.sum := Con.sumOK cfgKX1_ok kRNum Tryd.func78 rfl rfl (Con.of_inv _ _ _) rnu_body
end
def rflB (t : Int) (v : List UInt8) : List UInt8 := [UInt8.ofInt t, UInt8.ofInt ((v.length / 256 : Nat) : Int), UInt8.ofInt ((v.length % 256 : Nat) : Int)] ++ v
def kRFld : Con := Con.of [.v (.int .i64), .v (.slice true (.int .u8))] (fun x => [List.length (α := UInt8) x.2.1 ≤ 1000000]) (fun x => ⟨.pure (.slice true (.int .u8)) (rflB (toI .i64 x.1) x.2.1), []⟩)
section
attribute [local go_sem] Tryd.f62 kRFld cfgKX1 tyTab
theorem rfd_body (p : kRFld.Par) (hp : ∀ q ∈ kRFld.pre p, q) : BodyOK Tryd.prog cfgKX1 Tryd.f62 (Tryd.f62.body.get rfl) kRFld p := by
  obtain ⟨(t : Int), (v : List UInt8), u⟩ := p
  obtain ⟨h0, _⟩ := Obs.of hp
  replace h0 : v.length ≤ 1000000 := h0
  refine ⟨?_, Nat.zero_le _, rfl, rfl⟩
  show Tri _ _ _ (Code.seq _ (Code.seq _ (Code.seq _ _))) _
  have t3 : List.take 3 [UInt8.ofInt t, UInt8.ofInt ((v.length / 256 : Nat) : Int), UInt8.ofInt ((v.length % 256 : Nat) : Int)] = [UInt8.ofInt t, UInt8.ofInt ((v.length / 256 : Nat) : Int), UInt8.ofInt ((v.length % 256 : Nat) : Int)] := rfl
  have t4 : List.take (3 + v.length) (UInt8.ofInt t :: UInt8.ofInt ((v.length / 256 : Nat) : Int) :: UInt8.ofInt ((v.length % 256 : Nat) : Int) :: v) = rflB t v := List.take_of_length_le (by simp only [List.length_cons]; omega)
  refine Tri.at (by first | (simp only [t3, Con.start, go_sem]; rfl) | rfl) ?_
  repeat (first | ((first | refine Tri.seq (Tri.regT (cfgKX1_ok.pins _) ?_) | refine Tri.rgnT (cfgKX1_ok.pins _) ?_); (repeat (first | refine RunT.oneA (hp := by simp (maxSteps := 2000000) (disch := first | decide | omega | (simp only [List.length_append, List.length_cons, List.length_nil, List.length_take, List.length_drop]; omega)) only [t3, go_sem]; rfl) (h := ?_) | refine RunT.notA (h := ?_))); refine RunT.nil ?_; try simp only [InBlock, Then]) | ((first | refine Tri.seq (Tri.drwT (mixed) (cfgKX1_ok.pins _) ?_) | refine Tri.drnT (mixed) (cfgKX1_ok.pins _) ?_); (repeat (first | refine RunD.oneA (hp := by simp (maxSteps := 2000000) (disch := first | decide | omega | (simp only [List.length_append, List.length_cons, List.length_nil, List.length_take, List.length_drop]; omega)) only [t3, go_sem]; rfl) (h := ?_) | refine RunD.notA (h := ?_))); refine RunD.nil ?_; refine ⟨by kernel_rfl, ?_⟩; try simp only [InBlock, Then]) | refine Tri.cF (by first | (simp only [t3, go_sem]; done) | fail) ?_ | refine Tri.cT (by first | (simp only [t3, go_sem]; done) | fail) ?_ | (refine Tri.skip ?_; try simp only [InBlock, Then]) | (refine Tri.exit ?_; simp only [Then, InBlock, if_true, if_false, ↓reduceIte, Nat.reduceEqDiff]) | refine Tri.seq (Tri.block ?_) | refine Tri.block ?_ | refine Tri.seq ?_ | (refine Tri.ret ?_; refine Con.fin (.inl rfl) (by simp only [Tryd.f62, cfgKX1, resA, resA1, go_sem]; rfl) (by simp only [Obs, and_true, true_and]) (by first | (simp only [kRFld, Con.of, Con.ofO, resV, t3, go_sem]; done) | fail) trivial rfl rfl))
  refine Tri.rel true 0 rfl ?_ rfl rfl ?_
  · simp only [AS.blk, go_sem]
    repeat' constructor
  refine Tri.at (by first | (simp only [t4, Con.start, go_sem]; rfl) | rfl) ?_
  refine Tri.ret ?_
  refine Con.fin (.inl rfl) (by simp only [Tryd.f62, cfgKX1, resA, resA1, go_sem]; rfl) (by simp only [Obs, and_true, true_and]) ?_ ?_ rfl rfl
  · rfl
  · exact True.intro
theorem rfd_sum : FSumOK Tryd.prog cfgKX1.G 62 kRFld.sum := Con.sumOK cfgKX1_ok kRFld Tryd.func62 rfl rfl (Con.of_inv _ _ _) rfd_body
end
theorem rfl_flB {t : Int} {v : List UInt8} (h : v.length ≤ 65535) : rflB t v = flBK ((t, v, ()) : flK.T) := by
  have e1 : UInt8.ofInt (shrT .i64 ((v.length : Nat) : Int) 8) = UInt8.ofInt ((v.length / 256 : Nat) : Int) := by rw [shr8i]
  have e2 : UInt8.ofInt ((v.length % 256 : Nat) : Int) = UInt8.ofInt ((v.length : Nat) : Int) := by
    apply UInt8.toNat_inj.1
    rw [ofInt8 _ (by omega), ofInt8 _ (by omega)]
    omega
  show [UInt8.ofInt t, UInt8.ofInt ((v.length / 256 : Nat) : Int), UInt8.ofInt ((v.length % 256 : Nat) : Int)] ++ v = [UInt8.ofInt t, UInt8.ofInt (shrT .i64 ((v.length : Nat) : Int) 8), UInt8.ofInt ((v.length : Nat) : Int)] ++ v
  rw [e1, e2]
end Go.Proofs.YtjdeaphfamenaaaDoor

namespace Go.Proofs.YtjdeaphfamenaaaDoor
open Go.Vc Go.Proofs
set_option maxRecDepth 10000
set_option maxHeartbeats 4000000
def kSpk : Con := Con.of [] (fun _ => []) (fun _ => ⟨.bool true, []⟩)
theorem sp_1 : prV [104, 111, 115, 116, 47, 98, 108, 117, 101, 64, 76, 65, 78, 68] = .agg [.pure (.slice true .str) [[104, 111, 115, 116], [98, 108, 117, 101]], .str [76, 65, 78, 68]] := by
  rw [prV, if_pos (by decide)]; rfl
theorem sp_2 : pcS [104, 111, 115, 116, 47, 98, 108, 117, 101, 64, 76, 65, 78, 68] = 0 := by decide
theorem sp_3 : prV [97, 64, 98, 64, 99] = .pure nmK ([], [], ()) := by
  rw [prV, if_neg (by decide)]
theorem sp_4 : pcS [97, 64, 98, 64, 99] = 30 := by decide
def cfgO1 : Cfg2 := { ty := tyTab, fn := fun | 25 => some kPrs.sum | _ => none, G := gNone, pin := [], eq := fun _ => none }
theorem cfgO1_ok : CfgOK Tryd.prog cfgO1 := ⟨tysOK, (fun f s h => by
  simp only [cfgO1] at h
  split at h
  · injection h with h; subst h; exact .inl prs_sum
  · cases h), (fun t d h => by cases h)⟩
section
attribute [local go_sem] Tryd.f17 kSpk kPrs cfgO1 tyTab
theorem spk_body (p : kSpk.Par) (hp : ∀ q ∈ kSpk.pre p, q) : BodyOK Tryd.prog cfgO1 Tryd.f17 (Tryd.f17.body.get rfl) kSpk p := by
  obtain ⟨⟩ := p
  refine ⟨?_, Nat.zero_le _, rfl, rfl⟩
  show Tri _ _ _ (Code.seq _ (Code.seq _ (Code.seq _ (Code.seq _ _)))) _
  have e1 : decide ((0 : Int) = 0) = true := rfl
  have e2 : decide (((2 : Nat) : Int) = 2) = true := rfl
  have e3 : strEq [98, 108, 117, 101] [98, 108, 117, 101] = true := rfl
  have e4 : strEq [76, 65, 78, 68] [76, 65, 78, 68] = true := rfl
  have e5 : decide ((30 : Int) = 30) = true := rfl
  refine Tri.at (by first | (simp only [sp_1, sp_2, sp_3, sp_4, e1, e2, e3, e4, e5, Int.reduceToNat, List.getD_cons_succ, Con.start, go_sem]; rfl) | rfl) ?_
  repeat (first | ((first | refine Tri.seq (Tri.regT (cfgO1_ok.pins _) ?_) | refine Tri.rgnT (cfgO1_ok.pins _) ?_); (repeat (first | refine RunT.oneA (hp := by simp (maxSteps := 2000000) (disch := first | decide | omega | (simp only [List.length_append, List.length_cons, List.length_nil, List.length_take, List.length_drop]; omega)) only [sp_1, sp_2, sp_3, sp_4, e1, e2, e3, e4, e5, Int.reduceToNat, List.getD_cons_succ, go_sem]; rfl) (h := ?_) | refine RunT.notA (h := ?_))); refine RunT.nil ?_; try simp only [InBlock, Then]) | refine Tri.cF (by first | (simp only [sp_1, sp_2, sp_3, sp_4, e1, e2, e3, e4, e5, Int.reduceToNat, List.getD_cons_succ, go_sem]; done) | fail) ?_ | refine Tri.cT (by first | (simp only [sp_1, sp_2, sp_3, sp_4, e1, e2, e3, e4, e5, Int.reduceToNat, List.getD_cons_succ, go_sem]; done) | fail) ?_ | (refine Tri.skip ?_; try simp only [InBlock, Then]) | (refine Tri.exit ?_; simp only [Then, InBlock, if_true, if_false, ↓reduceIte, Nat.reduceEqDiff]) | refine Tri.seq (Tri.block ?_) | refine Tri.block ?_ | refine Tri.seq ?_ | (refine Tri.ret ?_; refine Con.fin (.inl rfl) (by simp only [Tryd.f17, cfgO1, resA, resA1, go_sem]; rfl) (by simp only [Obs, and_true, true_and]) (by first | (simp only [kSpk, Con.of, Con.ofO, resV, sp_1, sp_2, sp_3, sp_4, e1, e2, e3, e4, e5, Int.reduceToNat, List.getD_cons_succ, go_sem]; done) | fail) trivial rfl rfl))
theorem spk_sum : FSumOK Tryd.prog cfgO1.G 17 kSpk.sum := Con.sumOK cfgO1_ok kSpk Tryd.func17 rfl rfl (Con.of_inv _ _ _) spk_body
end
end Go.Proofs.YtjdeaphfamenaaaDoor

namespace Go.Proofs.YtjdeaphfamenaaaDoor
open Go.Vc Go.Proofs
set_option maxRecDepth 10000
set_option maxHeartbeats 4000000
theorem getD_take1 (s : List UInt8) (i : Nat) (h : i < s.length) : s.take (i + 1) = s.take i ++ [s.getD i 0] := by
  rw [List.take_add_one, List.getElem?_eq_getElem h, List.getD_eq_getElem?_getD, List.getElem?_eq_getElem h]; rfl
theorem idx_take (s : List UInt8) (c : UInt8) (i : Nat) (h : i < s.length) : Lib.indexByte (s.take (i + 1)) c = if Lib.indexByte (s.take i) c < 0 then (if s.getD i 0 = c then (i : Int) else -1) else Lib.indexByte (s.take i) c := by
  rw [getD_take1 s i h]
  have hl : (s.take i).length = i := by rw [List.length_take]; omega
  split
  · rename_i hn
    have hc := idx_none hn
    split
    · rename_i e
      rw [e, idx_app [] hc, hl]
    · rename_i e
      refine idx_notin fun hm => ?_
      rcases List.mem_append.1 hm with hm | hm
      · exact hc hm
      · exact e (List.mem_singleton.1 hm).symm
  · rename_i hn
    obtain ⟨m, hm⟩ : ∃ m : Nat, Lib.indexByte (s.take i) c = (m : Int) := ⟨(Lib.indexByte (s.take i) c).toNat, by omega⟩
    have hr := (idx_range (s.take i) c).2
    obtain ⟨h1, h2⟩ := idx_some hm
    rw [hm]
    have h3 : s.take i ++ [s.getD i 0] = (s.take i).take m ++ c :: ((s.take i).drop (m + 1) ++ [s.getD i 0]) := by
      rw [← List.cons_append, ← List.append_assoc, ← h1]
    rw [h3, idx_app _ h2, List.length_take]
    omega
def pq (s : List UInt8) (fr i : Nat) : List UInt8 := List.take (i - fr) (List.drop fr s)
theorem pq_split (s : List UInt8) {fr i m : Nat} (h1 : fr ≤ i) (h2 : i ≤ m) : (s.take m).drop fr = pq s fr i ++ (s.take m).drop i := by
  have h3 : (s.take m).drop fr = ((s.take m).drop fr).take (i - fr) ++ ((s.take m).drop fr).drop (i - fr) := (List.take_append_drop _ _).symm
  rw [h3, List.drop_drop, show fr + (i - fr) = i by omega, List.drop_take, List.take_take, Nat.min_eq_left (by omega)]
  rfl
theorem pq_succ (s : List UInt8) {fr i : Nat} (h1 : fr ≤ i) (h2 : i < s.length) : pq s fr (i + 1) = pq s fr i ++ [s.getD i 0] := by
  have h3 : i - fr < (s.drop fr).length := by rw [List.length_drop]; omega
  have h4 := getD_take1 (s.drop fr) (i - fr) h3
  rw [pq, show i + 1 - fr = i - fr + 1 by omega, h4, pq, List.getD_eq_getElem?_getD, List.getElem?_drop, show fr + (i - fr) = i by omega, ← List.getD_eq_getElem?_getD]
theorem pq_cut (s : List UInt8) {fr i m : Nat} (h1 : fr ≤ i) (h2 : i < m) (hm : m ≤ s.length) (hc : s.getD i 0 = 47) (hq : (47 : UInt8) ∉ pq s fr i) : splS 47 ((s.take m).drop fr) = pq s fr i :: splS 47 ((s.take m).drop (i + 1)) := by
  have h3 : (s.take m).drop i = 47 :: (s.take m).drop (i + 1) := by
    have hl : i < (s.take m).length := by rw [List.length_take]; omega
    rw [List.drop_eq_getElem_cons hl]
    congr 1
    rw [List.getElem_take, ← hc, List.getD_eq_getElem?_getD, List.getElem?_eq_getElem (by omega)]
    rfl
  rw [pq_split s h1 (Nat.le_of_lt h2), h3, spl_app _ hq]
theorem pq_end (s : List UInt8) {fr m : Nat} (h1 : fr ≤ m) (hm : m ≤ s.length) (hq : (47 : UInt8) ∉ pq s fr m) : splS 47 ((s.take m).drop fr) = [pq s fr m] := by
  rw [pq_split s h1 (Nat.le_refl m), List.drop_eq_nil_of_le (by rw [List.length_take]; omega), List.append_nil, spl_one hq]
def prR (s : List UInt8) : AV := if rgS (pwS s) = true then .agg [.pure (.slice true .str) (splS 47 (cutA s 64)), .str (cutR s 64)] else .agg [.nilsl, .str []]
def kPrsR : Con := Con.of [.v .str] (fun x => [List.length (α := UInt8) x.1 ≤ 1000000000]) (fun x => ⟨.tuple [prR x.1, .bool (rgS (pwS x.1))], []⟩)
def cfgS1 : Cfg2 := { ty := tyTabZ, fn := fun | 24 => some kRight.sum | _ => none, G := gNone, pin := [], eq := fun _ => none }
theorem cfgS1_ok : CfgOK Tryd.prog cfgS1 := ⟨tyTabZ_ok, (fun f s h => by
  simp only [cfgS1] at h
  split at h
  · injection h with h; subst h; exact .inl right_sum
  · cases h), (fun t d h => by cases h)⟩
section
attribute [local go_sem] Tryd.f28 kPrsR kRight cfgS1 tyTabZ tyTab
theorem prsR_body (p : kPrsR.Par) (hp : ∀ q ∈ kPrsR.pre p, q) : BodyOK Tryd.prog cfgS1 Tryd.f28 (Tryd.f28.body.get rfl) kPrsR p := by
  obtain ⟨(s : List UInt8), u⟩ := p
  obtain ⟨h0, _⟩ := Obs.of hp
  replace h0 : s.length ≤ 1000000000 := h0
  refine ⟨?_, Nat.zero_le _, (by show (AV.tuple [prR s, .bool (rgS (pwS s))]).strict = true; unfold prR; split <;> rfl), rfl⟩
  show Tri _ _ _ (Code.seq _ (Code.seq _ (Code.seq (Code.seq _ (Code.block _ (Code.loop (Code.seq (Code.seq _ (Code.cond _ _ _)) (Code.seq (Code.block _ (Code.seq _ (Code.cond _ _ _))) _))))) (Code.seq (Code.seq _ (Code.cond _ (Code.seq _ _) _)) (Code.seq _ (Code.seq (Code.seq _ (Code.block _ (Code.loop (Code.seq (Code.seq _ (Code.cond _ _ _)) (Code.seq (Code.block _ (Code.seq _ (Code.cond _ (Code.seq _ _) _))) _))))) (Code.seq (Code.seq _ (Code.cond _ (Code.seq _ _) _)) (Code.seq _ _)))))))) _
  refine Tri.at (by first | (simp only [go_sem, Con.start, go_sem]; rfl) | rfl) ?_
  repeat (first | ((first | refine Tri.seq (Tri.regT (cfgS1_ok.pins _) ?_) | refine Tri.rgnT (cfgS1_ok.pins _) ?_); (repeat (first | refine RunT.oneA (hp := by simp (maxSteps := 2000000) (disch := first | decide | omega | (simp only [List.length_append, List.length_cons, List.length_nil, List.length_take, List.length_drop]; omega)) only [go_sem, go_sem]; rfl) (h := ?_) | refine RunT.notA (h := ?_))); refine RunT.nil ?_; try simp only [InBlock, Then]) | refine Tri.cF (by first | (simp only [go_sem, go_sem]; done) | fail) ?_ | refine Tri.cT (by first | (simp only [go_sem, go_sem]; done) | fail) ?_ | (refine Tri.skip ?_; try simp only [InBlock, Then]) | (refine Tri.exit ?_; simp only [Then, InBlock, if_true, if_false, ↓reduceIte, Nat.reduceEqDiff]) | refine Tri.seq (Tri.block ?_) | refine Tri.block ?_ | refine Tri.seq ?_ | (refine Tri.ret ?_; refine Con.fin (.inl rfl) (by simp only [Tryd.f28, cfgS1, resA, resA1, go_sem]; rfl) (by simp only [Obs, and_true, true_and]) (by first | (simp only [kPrsR, Con.of, Con.ofO, resV, go_sem, go_sem]; done) | fail) trivial rfl rfl))
  refine Tri.loop (fun i : Nat => (⟨[some (.str s), none, some (.ptr 0 [] 0), some (.bool false), some (.int .i64 (Lib.indexByte (s.take i) 64)), some (.int .i64 (i : Int))] ++ List.replicate 56 none, [.live (.agg [.nilsl, .str []])]⟩ : AS)) (fun i => i ≤ s.length) (fun i => s.length - i) 0 ?_ (Nat.zero_le _) ?_
  · refine Wk.of ?_ ?_ rfl rfl
    · simp only [lessTs, List.reduceReplicate, List.cons_append, List.nil_append, List.take_zero, Lib.indexByte] <;> ((repeat' apply And.intro) <;> first | with_reducible rfl | exact True.intro | exact congrArg (fun z : Int => some (AV.int IntKind.i64 z)) (show (_ : Int) = _ by omega) | exact congrArg (fun z : Nat => some (AV.tsl _ _ _ _ _ z)) (show (_ : Nat) = _ by omega) | exact arrEq (by omega) (by with_reducible rfl))
    · simp only [lessHs] <;> ((repeat' apply And.intro) <;> first | with_reducible rfl | exact True.intro | exact congrArg (fun z : Int => some (AV.int IntKind.i64 z)) (show (_ : Int) = _ by omega) | exact congrArg (fun z : Nat => some (AV.tsl _ _ _ _ _ z)) (show (_ : Nat) = _ by omega) | exact arrEq (by omega) (by with_reducible rfl))
  · intro i hi
    by_cases h1 : i < s.length
    · have h1' : decide ((i : Int) < (s.length : Int)) = true := decide_eq_true (by omega)
      have hst := idx_take s 64 i h1
      by_cases h2 : Lib.indexByte (s.take i) 64 < 0
      · have h2' : decide (Lib.indexByte (s.take i) 64 < 0) = true := decide_eq_true h2
        have hge := Lib.indexByte_ge (s.take i) 64
        have h2e : Lib.indexByte (s.take i) 64 = -1 := by omega
        rw [if_pos h2] at hst
        by_cases h3 : s.getD i 0 = 64
        · have h3' : decide (s.getD i 0 = 64) = true := decide_eq_true h3
          rw [if_pos h3] at hst
          refine Tri.at (by first | (simp only [go_sem]; rfl) | rfl) ?_
          repeat (first | ((first | refine Tri.seq (Tri.regT (cfgS1_ok.pins _) ?_) | refine Tri.rgnT (cfgS1_ok.pins _) ?_); (repeat (first | refine RunT.oneA (hp := by simp (maxSteps := 2000000) (disch := first | decide | omega | (simp only [List.length_append, List.length_cons, List.length_nil, List.length_take, List.length_drop]; omega)) only [h1', h2', h3', go_sem]; rfl) (h := ?_) | refine RunT.notA (h := ?_))); refine RunT.nil ?_; try simp only [InBlock, Then]) | refine Tri.cF (by first | (simp only [go_sem]; done) | fail) ?_ | refine Tri.cT (by first | (simp only [go_sem]; done) | fail) ?_ | (refine Tri.skip ?_; try simp only [Then]) | (refine Tri.exit ?_; simp only [Then, InBlock, if_true, if_false, ↓reduceIte, Nat.reduceEqDiff]) | refine Tri.seq (Tri.block ?_) | refine Tri.block ?_ | refine Tri.seq ?_ | (refine Tri.ret ?_; refine Con.fin (.inl rfl) (by simp only [Tryd.f28, cfgS1, resA, resA1, go_sem]; rfl) (by simp only [Obs, and_true, true_and]) (by first | (simp only [kPrsR, Con.of, Con.ofO, resV, h1', h2', h3', go_sem]; done) | fail) trivial rfl rfl))
          refine ⟨i + 1, (by omega), (by omega), Wk.of ?_ ?_ rfl rfl⟩
          · simp only [lessTs, List.reduceReplicate, List.cons_append, List.nil_append, hst] <;> ((repeat' apply And.intro) <;> first | with_reducible rfl | exact True.intro | exact congrArg (fun z : Int => some (AV.int IntKind.i64 z)) (show (_ : Int) = _ by omega) | exact congrArg (fun z : Nat => some (AV.tsl _ _ _ _ _ z)) (show (_ : Nat) = _ by omega) | exact arrEq (by omega) (by with_reducible rfl))
          · exact ⟨rfl, trivial⟩
        · have h3' : decide (s.getD i 0 = 64) = false := decide_eq_false h3
          rw [if_neg h3, ← h2e] at hst
          refine Tri.at (by first | (simp only [go_sem]; rfl) | rfl) ?_
          repeat (first | ((first | refine Tri.seq (Tri.regT (cfgS1_ok.pins _) ?_) | refine Tri.rgnT (cfgS1_ok.pins _) ?_); (repeat (first | refine RunT.oneA (hp := by simp (maxSteps := 2000000) (disch := first | decide | omega | (simp only [List.length_append, List.length_cons, List.length_nil, List.length_take, List.length_drop]; omega)) only [h1', h3', go_sem]; rfl) (h := ?_) | refine RunT.notA (h := ?_))); refine RunT.nil ?_; try simp only [Then]) | refine Tri.cF (by first | (simp only [go_sem]; done) | fail) ?_ | refine Tri.cT (by first | (simp only [go_sem]; done) | fail) ?_ | (refine Tri.skip ?_; try simp only [InBlock, Then]) | (refine Tri.exit ?_; simp only [Then, InBlock, if_true, if_false, ↓reduceIte, Nat.reduceEqDiff]) | refine Tri.seq (Tri.block ?_) | refine Tri.block ?_ | refine Tri.seq ?_ | (refine Tri.ret ?_; refine Con.fin (.inl rfl) (by simp only [Tryd.f28, cfgS1, resA, resA1, go_sem]; rfl) (by simp only [Obs, and_true, true_and]) (by first | (simp only [kPrsR, Con.of, Con.ofO, resV, h1', h2', h3', go_sem]; done) | fail) trivial rfl rfl))
          refine ⟨i + 1, (by omega), (by omega), Wk.of ?_ ?_ rfl rfl⟩
          · simp only [lessTs, List.reduceReplicate, List.cons_append, List.nil_append, hst] <;> ((repeat' apply And.intro) <;> first | with_reducible rfl | exact True.intro | exact congrArg (fun z : Int => some (AV.int IntKind.i64 z)) (show (_ : Int) = _ by omega) | exact congrArg (fun z : Nat => some (AV.tsl _ _ _ _ _ z)) (show (_ : Nat) = _ by omega) | exact arrEq (by omega) (by with_reducible rfl))
          · exact ⟨rfl, trivial⟩
      · have h2' : decide (Lib.indexByte (s.take i) 64 < 0) = false := decide_eq_false h2
        rw [if_neg h2] at hst
        cases h3 : decide (s.getD i 0 = 64)
        all_goals
          refine Tri.at (by first | (simp only [go_sem]; rfl) | rfl) ?_
          repeat (first | ((first | refine Tri.seq (Tri.regT (cfgS1_ok.pins _) ?_) | refine Tri.rgnT (cfgS1_ok.pins _) ?_); (repeat (first | refine RunT.oneA (hp := by simp (maxSteps := 2000000) (disch := first | decide | omega | (simp only [List.length_append, List.length_cons, List.length_nil, List.length_take, List.length_drop]; omega)) only [h1', h2', h3, go_sem]; rfl) (h := ?_) | refine RunT.notA (h := ?_))); refine RunT.nil ?_; try simp only [Then]) | refine Tri.cF (by first | (simp only [go_sem]; done) | fail) ?_ | refine Tri.cT (by first | (simp only [go_sem]; done) | fail) ?_ | (refine Tri.skip ?_; try simp only [InBlock, Then]) | (refine Tri.exit ?_; simp only [Then, InBlock, if_true, if_false, ↓reduceIte, Nat.reduceEqDiff]) | refine Tri.seq (Tri.block ?_) | refine Tri.block ?_ | refine Tri.seq ?_ | (refine Tri.ret ?_; refine Con.fin (.inl rfl) (by simp only [Tryd.f28, cfgS1, resA, resA1, go_sem]; rfl) (by simp only [Obs, and_true, true_and]) (by first | (simp only [kPrsR, Con.of, Con.ofO, resV, h1', h2', h3, go_sem]; done) | fail) trivial rfl rfl))
          refine ⟨i + 1, (by omega), (by omega), Wk.of ?_ ?_ rfl rfl⟩
          · simp only [lessTs, List.reduceReplicate, List.cons_append, List.nil_append, hst] <;> ((repeat' apply And.intro) <;> first | with_reducible rfl | exact True.intro | exact congrArg (fun z : Int => some (AV.int IntKind.i64 z)) (show (_ : Int) = _ by omega) | exact congrArg (fun z : Nat => some (AV.tsl _ _ _ _ _ z)) (show (_ : Nat) = _ by omega) | exact arrEq (by omega) (by with_reducible rfl))
          · exact ⟨rfl, trivial⟩
    · have h1' : decide ((i : Int) < (s.length : Int)) = false := decide_eq_false (by omega)
      rw [List.take_of_length_le (by omega)]
      by_cases h2 : Lib.indexByte s 64 < 0
      · have h2' : decide (Lib.indexByte s 64 < 0) = true := decide_eq_true h2
        have e1 := pw_nat h2
        have e2 : prR s = .agg [.nilsl, .str []] := by rw [prR, e1]; rfl
        refine Tri.at (by first | (simp only [go_sem]; rfl) | rfl) ?_
        repeat (first | ((first | refine Tri.seq (Tri.regT (cfgS1_ok.pins _) ?_) | refine Tri.rgnT (cfgS1_ok.pins _) ?_); (repeat (first | refine RunT.oneA (hp := by simp (maxSteps := 2000000) (disch := first | decide | omega | (simp only [List.length_append, List.length_cons, List.length_nil, List.length_take, List.length_drop]; omega)) only [h1', h2', go_sem]; rfl) (h := ?_) | refine RunT.notA (h := ?_))); refine RunT.nil ?_; try simp only [InBlock, Then]) | refine Tri.cF (by first | (simp only [go_sem]; done) | fail) ?_ | refine Tri.cT (by first | (simp only [go_sem]; done) | fail) ?_ | (refine Tri.skip ?_; try simp only [InBlock, Then]) | (refine Tri.exit ?_; simp only [Then, InBlock, ↓reduceIte]) | refine Tri.seq (Tri.block ?_) | refine Tri.block ?_ | refine Tri.seq ?_ | (refine Tri.ret ?_; refine Con.fin (.inl rfl) (by simp only [Tryd.f28, cfgS1, resA, resA1, go_sem]; rfl) (by simp only [Obs, and_true]) (by first | (simp only [kPrsR, Con.of, resV, e1, e2, go_sem]; done) | fail) trivial rfl rfl))
        refine Tri.ret ?_
        refine Con.fin (.inl rfl) (by simp only [Tryd.f28, cfgS1, resA, resA1, go_sem]; rfl) (by simp only [Obs, and_true]) ?_ ?_ ?_ rfl
        · show AV.tuple [.agg [.nilsl, .str []], .bool false] = AV.tuple [prR s, .bool (rgS (pwS s))]
          rw [e1, e2]
        · exact True.intro
        · show (AS.mk [some (.tuple [prR s, .bool (rgS (pwS s))])] []).closed = true
          rw [e2]; rfl
      · obtain ⟨m, hm⟩ : ∃ m : Nat, Lib.indexByte s 64 = (m : Int) := ⟨(Lib.indexByte s 64).toNat, by omega⟩
        have hml : m < s.length := by have := (idx_range s 64).2; omega
        have h2' : decide ((m : Int) < 0) = false := decide_eq_false (by omega)
        have hA : cutA s 64 = s.take m := by rw [cutA, if_neg h2, hm, Int.toNat_natCast]
        have hR : cutR s 64 = s.drop (m + 1) := by rw [cutR, if_neg h2, hm, Int.toNat_natCast]
        have h64 : s.getD m 0 = 64 := by
          have h3 := (idx_some hm).1
          have h4 : s.getD m 0 = (s.take m ++ 64 :: s.drop (m + 1)).getD m 0 := congrArg (fun z : List UInt8 => z.getD m 0) h3
          rw [h4, List.getD_eq_getElem?_getD, List.getElem?_append_right (by rw [List.length_take]; omega), List.length_take, Nat.min_eq_left (by omega), Nat.sub_self]
          rfl
        have htk : List.take (s.length - (m + 1)) (List.drop (m + 1) s) = List.drop (m + 1) s := List.take_of_length_le (by rw [List.length_drop]; exact Nat.le_refl _)
        refine Tri.at (by first | (simp only [hm, go_sem]; rfl) | rfl) ?_
        repeat (first | ((first | refine Tri.seq (Tri.regT (cfgS1_ok.pins _) ?_) | refine Tri.rgnT (cfgS1_ok.pins _) ?_); (repeat (first | refine RunT.oneA (hp := by simp (maxSteps := 2000000) (disch := first | decide | omega | (simp only [List.length_append, List.length_cons, List.length_nil, List.length_take, List.length_drop]; omega)) only [h1', h2', htk, go_sem]; rfl) (h := ?_) | refine RunT.notA (h := ?_))); refine RunT.nil ?_; try simp only [InBlock, Then]) | refine Tri.cF (by first | (simp only [go_sem]; done) | fail) ?_ | refine Tri.cT (by first | (simp only [go_sem]; done) | fail) ?_ | (refine Tri.skip ?_; try simp only [Then]) | (refine Tri.exit ?_; simp only [Then, InBlock, ↓reduceIte]) | refine Tri.seq (Tri.block ?_) | refine Tri.block ?_ | refine Tri.seq ?_ | (refine Tri.ret ?_; refine Con.fin (.inl rfl) (by simp only [Tryd.f28, cfgS1, resA, resA1, go_sem]; rfl) (by simp only [Obs, and_true, true_and]) (by first | (simp only [kPrsR, Con.of, Con.ofO, resV, h1', hm, h2', htk, Int.natCast_one, go_sem]; done) | fail) trivial rfl rfl))
        refine Tri.ph 1 0 .str 1 rfl rfl rfl ?_
        refine Tri.at (by first | (simp only [phS, go_sem]; rfl) | rfl) ?_
        refine Tri.loop (fun v : Nat × Nat × List (List UInt8) => (⟨[some (.str s), none, some (.ptr 0 [] 0), some (.bool false), some (.int .i64 (m : Int)), none, some (.ptr 1 [] 0), some (.int .i64 (v.2.1 : Int)), some (.int .i64 (v.1 : Int))] ++ List.replicate 53 none, [.live (.agg [.nilsl, .str []]), .live (.agg [.tsl 2 [] 0 0 1 v.2.2.length, .str (List.drop (m + 1) s)]), .live (.pure (.arr v.2.2.length .str) v.2.2)]⟩ : AS))
          (fun v => (v.1 ≤ m ∧ v.2.1 ≤ v.1 ∧ splS 47 (s.take m) = v.2.2 ++ splS 47 ((s.take m).drop v.2.1) ∧ (47 : UInt8) ∉ pq s v.2.1 v.1 ∧ v.2.2.length ≤ v.1) ∨ (v.1 = m + 1 ∧ splS 47 (s.take m) = v.2.2)) (fun v => m + 1 - v.1) (0, 0, []) ?_ (.inl ⟨Nat.zero_le _, Nat.le_refl _, rfl, (by simp [pq]), Nat.le_refl _⟩) ?_
        · refine Wk.of ?_ ?_ rfl rfl
          · simp only [lessTs, List.reduceReplicate, List.cons_append, List.nil_append] <;> ((repeat' apply And.intro) <;> first | with_reducible rfl | exact True.intro | exact congrArg (fun z : Int => some (AV.int IntKind.i64 z)) (show (_ : Int) = _ by omega) | exact congrArg (fun z : Nat => some (AV.tsl _ _ _ _ _ z)) (show (_ : Nat) = _ by omega) | exact arrEq (by omega) (by with_reducible rfl))
          · simp only [lessHs, List.length_nil] <;> ((repeat' apply And.intro) <;> first | with_reducible rfl | exact True.intro | exact congrArg (fun z : Int => some (AV.int IntKind.i64 z)) (show (_ : Int) = _ by omega) | exact congrArg (fun z : Nat => some (AV.tsl _ _ _ _ _ z)) (show (_ : Nat) = _ by omega) | exact arrEq (by omega) (by with_reducible rfl))
        · intro ⟨i, fr, pc⟩ hinv
          by_cases h3 : i ≤ m
          · have h3' : decide ((m : Int) < (i : Int)) = false := decide_eq_false (by omega)
            obtain ⟨hi1, hfr, hsp, hq, hpl⟩ : i ≤ m ∧ fr ≤ i ∧ splS 47 (s.take m) = pc ++ splS 47 ((s.take m).drop fr) ∧ (47 : UInt8) ∉ pq s fr i ∧ pc.length ≤ i := by
              rcases hinv with hinv | hinv
              · exact hinv
              · have : i = m + 1 := hinv.1
                omega
            clear hinv
            have htq : List.take pc.length pc = pc := List.take_length
            by_cases h4 : s.getD i 0 = 47
            · have h4' : decide (s.getD i 0 = 47) = true := decide_eq_true h4
              have hne : i ≠ m := by rintro rfl; rw [h64] at h4; exact absurd h4 (by decide)
              have hcut := pq_cut s hfr (show i < m by omega) (by omega) h4 hq
              refine Tri.at (by first | (simp only [go_sem]; rfl) | rfl) ?_
              repeat (first | ((first | refine Tri.seq (Tri.regT (cfgS1_ok.pins _) ?_) | refine Tri.rgnT (cfgS1_ok.pins _) ?_); (repeat (first | refine RunT.oneA (hp := by simp (maxSteps := 2000000) (disch := first | decide | omega | (simp only [List.length_append, List.length_cons, List.length_nil, List.length_take, List.length_drop]; omega)) only [h3', h4', go_sem]; rfl) (h := ?_) | refine RunT.notA (h := ?_))); refine RunT.nil ?_; try simp only [InBlock, Then]) | ((first | refine Tri.seq (Tri.drwT (mixed) (cfgS1_ok.pins _) ?_) | refine Tri.drnT (mixed) (cfgS1_ok.pins _) ?_); (repeat (first | refine RunD.oneA (hp := by simp (maxSteps := 2000000) (disch := first | decide | omega | (simp only [List.length_append, List.length_cons, List.length_nil, List.length_take, List.length_drop]; omega)) only [htq, go_sem]; rfl) (h := ?_) | refine RunD.notA (h := ?_))); refine RunD.nil ?_; refine ⟨by kernel_rfl, ?_⟩; try simp only [InBlock, Then]) | refine Tri.cF (by first | (simp only [go_sem]; done) | fail) ?_ | refine Tri.cT (by first | (simp only [go_sem]; done) | fail) ?_ | (refine Tri.skip ?_; try simp only [Then]) | (refine Tri.exit ?_; simp only [Then, InBlock, if_true, if_false, ↓reduceIte, Nat.reduceEqDiff]) | refine Tri.seq (Tri.block ?_) | refine Tri.block ?_ | refine Tri.seq ?_ | (refine Tri.ret ?_; refine Con.fin (.inl rfl) (by simp only [Tryd.f28, cfgS1, resA, resA1, go_sem]; rfl) (by simp only [Obs, and_true, true_and]) (by first | (simp only [kPrsR, Con.of, Con.ofO, resV, h3', h4', htq, go_sem]; done) | fail) trivial rfl rfl))
              refine ⟨(i + 1, i + 1, pc ++ [pq s fr i]), .inl ⟨(by show i + 1 ≤ m; omega), Nat.le_refl _, (by show splS 47 (s.take m) = (pc ++ [pq s fr i]) ++ splS 47 ((s.take m).drop (i + 1)); rw [hsp, hcut, List.append_assoc]; rfl), (by simp [pq]), (by show (pc ++ [pq s fr i]).length ≤ i + 1; rw [List.length_append]; exact Nat.add_le_add_right hpl 1)⟩, (by show m + 1 - (i + 1) < m + 1 - i; omega), Wk.of ?_ ?_ rfl rfl⟩
              · simp only [lessTs, List.reduceReplicate, List.cons_append, List.nil_append] <;> ((repeat' apply And.intro) <;> first | with_reducible rfl | exact True.intro | exact congrArg (fun z : Int => some (AV.int IntKind.i64 z)) (show (_ : Int) = _ by omega) | exact congrArg (fun z : Nat => some (AV.tsl _ _ _ _ _ z)) (show (_ : Nat) = _ by omega) | exact arrEq (by omega) (by with_reducible rfl))
              · exact ⟨rfl, (by show Slot.live (.agg [.tsl 2 [] 0 0 1 (pc.length + 1), .str (List.drop (m + 1) s)]) = Slot.live (.agg [.tsl 2 [] 0 0 1 (pc ++ [pq s fr i]).length, .str (List.drop (m + 1) s)]); rw [List.length_append]; rfl), arrEq (by show pc.length + 1 = (pc ++ [pq s fr i]).length; rw [List.length_append]; rfl) rfl, trivial⟩
            · have h4' : decide (s.getD i 0 = 47) = false := decide_eq_false h4
              by_cases h5 : i = m
              · have h5' : decide ((i : Int) = (m : Int)) = true := decide_eq_true (by omega)
                have hend := pq_end s (show fr ≤ m by omega) (by omega) (by rw [h5] at hq; exact hq)
                refine Tri.at (by first | (simp only [go_sem]; rfl) | rfl) ?_
                repeat (first | ((first | refine Tri.seq (Tri.regT (cfgS1_ok.pins _) ?_) | refine Tri.rgnT (cfgS1_ok.pins _) ?_); (repeat (first | refine RunT.oneA (hp := by simp (maxSteps := 2000000) (disch := first | decide | omega | (simp only [List.length_append, List.length_cons, List.length_nil, List.length_take, List.length_drop]; omega)) only [h3', h4', h5', go_sem]; rfl) (h := ?_) | refine RunT.notA (h := ?_))); refine RunT.nil ?_; try simp only [InBlock, Then]) | ((first | refine Tri.seq (Tri.drwT (mixed) (cfgS1_ok.pins _) ?_) | refine Tri.drnT (mixed) (cfgS1_ok.pins _) ?_); (repeat (first | refine RunD.oneA (hp := by simp (maxSteps := 2000000) (disch := first | decide | omega | (simp only [List.length_append, List.length_cons, List.length_nil, List.length_take, List.length_drop]; omega)) only [htq, go_sem]; rfl) (h := ?_) | refine RunD.notA (h := ?_))); refine RunD.nil ?_; refine ⟨by kernel_rfl, ?_⟩; try simp only [InBlock, Then]) | refine Tri.cF (by first | (simp only [go_sem]; done) | fail) ?_ | refine Tri.cT (by first | (simp only [go_sem]; done) | fail) ?_ | (refine Tri.skip ?_; try simp only [Then]) | (refine Tri.exit ?_; simp only [Then, InBlock, if_true, if_false, ↓reduceIte, Nat.reduceEqDiff]) | refine Tri.seq (Tri.block ?_) | refine Tri.block ?_ | refine Tri.seq ?_ | (refine Tri.ret ?_; refine Con.fin (.inl rfl) (by simp only [Tryd.f28, cfgS1, resA, resA1, go_sem]; rfl) (by simp only [Obs, and_true, true_and]) (by first | (simp only [kPrsR, Con.of, Con.ofO, resV, h3', h4', h5', htq, go_sem]; done) | fail) trivial rfl rfl))
                refine ⟨(i + 1, i + 1, pc ++ [pq s fr i]), .inr ⟨(by show i + 1 = m + 1; omega), (by show splS 47 (s.take m) = pc ++ [pq s fr i]; rw [hsp, hend, h5])⟩, (by show m + 1 - (i + 1) < m + 1 - i; omega), Wk.of ?_ ?_ rfl rfl⟩
                · simp only [lessTs, List.reduceReplicate, List.cons_append, List.nil_append] <;> ((repeat' apply And.intro) <;> first | with_reducible rfl | exact True.intro | exact congrArg (fun z : Int => some (AV.int IntKind.i64 z)) (show (_ : Int) = _ by omega) | exact congrArg (fun z : Nat => some (AV.tsl _ _ _ _ _ z)) (show (_ : Nat) = _ by omega) | exact arrEq (by omega) (by with_reducible rfl))
                · exact ⟨rfl, (by show Slot.live (.agg [.tsl 2 [] 0 0 1 (pc.length + 1), .str (List.drop (m + 1) s)]) = Slot.live (.agg [.tsl 2 [] 0 0 1 (pc ++ [pq s fr i]).length, .str (List.drop (m + 1) s)]); rw [List.length_append]; rfl), arrEq (by show pc.length + 1 = (pc ++ [pq s fr i]).length; rw [List.length_append]; rfl) rfl, trivial⟩
              · have h5' : decide ((i : Int) = (m : Int)) = false := decide_eq_false (by omega)
                have hsu := pq_succ s hfr (show i < s.length by omega)
                refine Tri.at (by first | (simp only [go_sem]; rfl) | rfl) ?_
                repeat (first | ((first | refine Tri.seq (Tri.regT (cfgS1_ok.pins _) ?_) | refine Tri.rgnT (cfgS1_ok.pins _) ?_); (repeat (first | refine RunT.oneA (hp := by simp (maxSteps := 2000000) (disch := first | decide | omega | (simp only [List.length_append, List.length_cons, List.length_nil, List.length_take, List.length_drop]; omega)) only [h3', h4', h5', go_sem]; rfl) (h := ?_) | refine RunT.notA (h := ?_))); refine RunT.nil ?_; try simp only [Then]) | ((first | refine Tri.seq (Tri.drwT (mixed) (cfgS1_ok.pins _) ?_) | refine Tri.drnT (mixed) (cfgS1_ok.pins _) ?_); (repeat (first | refine RunD.oneA (hp := by simp (maxSteps := 2000000) (disch := first | decide | omega | (simp only [List.length_append, List.length_cons, List.length_nil, List.length_take, List.length_drop]; omega)) only [h3', h4', h5', htq, go_sem]; rfl) (h := ?_) | refine RunD.notA (h := ?_))); refine RunD.nil ?_; refine ⟨by kernel_rfl, ?_⟩; try simp only [InBlock, Then]) | refine Tri.cF (by first | (simp only [go_sem]; done) | fail) ?_ | refine Tri.cT (by first | (simp only [go_sem]; done) | fail) ?_ | (refine Tri.skip ?_; try simp only [InBlock, Then]) | (refine Tri.exit ?_; simp only [Then, InBlock, if_true, if_false, ↓reduceIte, Nat.reduceEqDiff]) | refine Tri.seq (Tri.block ?_) | refine Tri.block ?_ | refine Tri.seq ?_ | (refine Tri.ret ?_; refine Con.fin (.inl rfl) (by simp only [Tryd.f28, cfgS1, resA, resA1, go_sem]; rfl) (by simp only [Obs, and_true, true_and]) (by first | (simp only [kPrsR, Con.of, Con.ofO, resV, h3', h4', h5', htq, go_sem]; done) | fail) trivial rfl rfl))
                refine ⟨(i + 1, fr, pc), .inl ⟨(by show i + 1 ≤ m; omega), (by show fr ≤ i + 1; omega), hsp, (by
                    show (47 : UInt8) ∉ pq s fr (i + 1)
                    rw [hsu]
                    intro hm'
                    rcases List.mem_append.1 hm' with hm' | hm'
                    · exact hq hm'
                    · exact h4 (List.mem_singleton.1 hm').symm), (by show pc.length ≤ i + 1; omega)⟩, (by show m + 1 - (i + 1) < m + 1 - i; omega), Wk.of ?_ ?_ rfl rfl⟩
                · simp only [lessTs, List.reduceReplicate, List.cons_append, List.nil_append] <;> ((repeat' apply And.intro) <;> first | with_reducible rfl | exact True.intro | exact congrArg (fun z : Int => some (AV.int IntKind.i64 z)) (show (_ : Int) = _ by omega) | exact congrArg (fun z : Nat => some (AV.tsl _ _ _ _ _ z)) (show (_ : Nat) = _ by omega) | exact arrEq (by omega) (by with_reducible rfl))
                · exact ⟨rfl, rfl, rfl, trivial⟩
          · have h3' : decide ((m : Int) < (i : Int)) = true := decide_eq_true (by omega)
            have hpc : splS 47 (s.take m) = pc := by
              rcases hinv with hinv | hinv
              · have : i ≤ m := hinv.1
                omega
              · exact hinv.2
            clear hinv
            have hpw : pwS s = (pc, s.drop (m + 1), ()) := by rw [pwS, hA, hR, hpc]
            have hpl : pc.length ≤ 1000000001 := by
              have := spl_len_le 47 (s.take m)
              rw [hpc, List.length_take] at this
              omega
            have hpm : ∀ y ∈ pc, List.length y ≤ 1000000000 := by
              intro y hy
              rw [← hpc] at hy
              have := spl_mem 47 _ y hy
              rw [List.length_take] at this
              omega
            have hrl : (List.drop (m + 1) s).length ≤ 1000000000 := by rw [List.length_drop]; omega
            have htq : List.take pc.length pc = pc := List.take_length
            cases hr : rgS (pc, s.drop (m + 1), ()) with
            | false =>
              have e1 : rgS (pwS s) = false := by rw [hpw]; exact hr
              have e2 : prR s = .agg [.nilsl, .str []] := by rw [prR, e1]; rfl
              refine Tri.at (by first | (simp only [go_sem]; rfl) | rfl) ?_
              repeat (first | ((first | refine Tri.seq (Tri.regT (cfgS1_ok.pins _) ?_) | refine Tri.rgnT (cfgS1_ok.pins _) ?_); (repeat (first | refine RunT.oneA (hp := by simp (maxSteps := 2000000) (disch := first | decide | omega | (simp only [List.length_append, List.length_cons, List.length_nil, List.length_take, List.length_drop]; omega)) only [h3', htq, hr, go_sem]; rfl) (h := ?_) | refine RunT.notA (h := ?_))); refine RunT.nil ?_; try simp only []) | refine Tri.cF (by first | (simp only [go_sem]; done) | fail) ?_ | refine Tri.cT (by first | (simp only [go_sem]; done) | fail) ?_ | (refine Tri.skip ?_; try simp only [InBlock, Then]) | (refine Tri.exit ?_; simp only [Then, InBlock, ↓reduceIte]) | refine Tri.seq (Tri.block ?_) | refine Tri.block ?_ | refine Tri.seq ?_ | (refine Tri.ret ?_; refine Con.fin (.inl rfl) (by simp only [Tryd.f28, cfgS1, resA, resA1, go_sem]; rfl) (by simp only [Obs, and_true]) (by first | (simp only [kPrsR, Con.of, resV, go_sem]; done) | fail) trivial rfl rfl))
              refine Tri.ret ?_
              refine Con.fin (.inl rfl) (by simp only [Tryd.f28, cfgS1, resA, resA1, go_sem]; rfl) (by simp only [Obs, and_true]) ?_ ?_ ?_ rfl
              · show AV.tuple [.agg [.nilsl, .str []], .bool false] = AV.tuple [prR s, .bool (rgS (pwS s))]
                rw [e1, e2]
              · exact True.intro
              · show (AS.mk [some (.tuple [prR s, .bool (rgS (pwS s))])] []).closed = true
                rw [e2]; rfl
            | true =>
              have e1 : rgS (pwS s) = true := by rw [hpw]; exact hr
              have e2 : prR s = .agg [.pure (.slice true .str) pc, .str (s.drop (m + 1))] := by rw [prR, e1, if_pos rfl, hA, hR, hpc]
              refine Tri.at (by first | (simp only [go_sem]; rfl) | rfl) ?_
              repeat (first | ((first | refine Tri.seq (Tri.regT (cfgS1_ok.pins _) ?_) | refine Tri.rgnT (cfgS1_ok.pins _) ?_); (repeat (first | refine RunT.oneA (hp := by simp (maxSteps := 2000000) (disch := first | decide | omega | (simp only [List.length_append, List.length_cons, List.length_nil, List.length_take, List.length_drop]; omega)) only [h3', htq, hr, go_sem]; rfl) (h := ?_) | refine RunT.notA (h := ?_))); refine RunT.nil ?_; try simp only []) | refine Tri.cF (by first | (simp only [go_sem]; done) | fail) ?_ | refine Tri.cT (by first | (simp only [go_sem]; done) | fail) ?_ | (refine Tri.skip ?_; try simp only [Then]) | (refine Tri.exit ?_; simp only [Then, InBlock, ↓reduceIte]) | refine Tri.seq (Tri.block ?_) | refine Tri.block ?_ | refine Tri.seq ?_ | (refine Tri.ret ?_; refine Con.fin (.inl rfl) (by simp only [Tryd.f28, cfgS1, resA, resA1, go_sem]; rfl) (by simp only [Obs, and_true]) (by first | (simp only [kPrsR, Con.of, resV, go_sem]; done) | fail) trivial rfl rfl))
              refine Tri.rel true 2 rfl ?_ rfl rfl ?_
              · simp only [go_sem]
                repeat' constructor
              refine Tri.at (by first | (simp only [htq, go_sem]; rfl) | rfl) ?_
              refine Tri.ret ?_
              refine Con.fin (.inl rfl) (by simp only [Tryd.f28, cfgS1, resA, resA1, go_sem]; rfl) (by simp only [Obs, and_true]) ?_ ?_ ?_ rfl
              · show AV.tuple [.agg [.pure (.slice true .str) pc, .str (s.drop (m + 1))], .bool true] = AV.tuple [prR s, .bool (rgS (pwS s))]
                rw [e1, e2]
              · exact True.intro
              · show (AS.mk [some (.tuple [prR s, .bool (rgS (pwS s))])] []).closed = true
                rw [e2]; rfl
theorem prsR_sum : FSumOK Tryd.prog cfgS1.G 28 kPrsR.sum := Con.sumOK cfgS1_ok kPrsR Tryd.func28 rfl rfl (Con.of_inv _ _ _) prsR_body
end
end Go.Proofs.YtjdeaphfamenaaaDoor

namespace Go.Proofs.YtjdeaphfamenaaaDoor
open Go.Vc Go.Proofs
set_option maxRecDepth 10000
set_option maxHeartbeats 4000000
def kRNmd : Con := Con.of [.v .str] (fun x => [List.length (α := UInt8) x.1 ≤ 1000000000]) (fun x => ⟨.bool (rgS (pwS x.1)), []⟩)
def cfgKY1 : Cfg2 := { ty := tyTab, fn := fun | 28 => some kPrsR.sum | _ => none, G := gNone, pin := [], eq := fun _ => none }
theorem cfgKY1_ok : CfgOK Tryd.prog cfgKY1 := ⟨tysOK, (fun f s h => by
  simp only [cfgKY1] at h
  split at h
  · injection h with h; subst h; exact .inl prsR_sum
  · cases h), (fun t d h => by cases h)⟩
section
attribute [local go_sem] Tryd.f91 kRNmd kPrsR cfgKY1 tyTab
theorem rnd_body (p : kRNmd.Par) (hp : ∀ q ∈ kRNmd.pre p, q) : BodyOK Tryd.prog cfgKY1 Tryd.f91 (Tryd.f91.body.get rfl) kRNmd p := by
  obtain ⟨(s : List UInt8), u⟩ := p
  obtain ⟨h0, _⟩ := Obs.of hp
  replace h0 : s.length ≤ 1000000000 := h0
  refine ⟨?_, Nat.zero_le _, rfl, rfl⟩
  show Tri _ _ _ (Code.seq _ (Code.seq _ (Code.seq _ _))) _
  cases hr : rgS (pwS s) with
  | false =>
    have e2 : prR s = .agg [.nilsl, .str []] := by rw [prR, hr]; rfl
    refine Tri.at (by first | (simp only [hr, e2, Con.start, go_sem]; rfl) | rfl) ?_
    repeat (first | ((first | refine Tri.seq (Tri.regT (cfgKY1_ok.pins _) ?_) | refine Tri.rgnT (cfgKY1_ok.pins _) ?_); (repeat (first | refine RunT.oneA (hp := by simp (maxSteps := 2000000) (disch := first | decide | omega | (simp only [List.length_append, List.length_cons, List.length_nil, List.length_take, List.length_drop]; omega)) only [hr, e2, go_sem]; rfl) (h := ?_) | refine RunT.notA (h := ?_))); refine RunT.nil ?_; try simp only [InBlock, Then]) | refine Tri.cF (by first | (simp only [hr, e2, go_sem]; done) | fail) ?_ | refine Tri.cT (by first | (simp only [hr, e2, go_sem]; done) | fail) ?_ | (refine Tri.skip ?_; try simp only [InBlock, Then]) | (refine Tri.exit ?_; simp only [Then, InBlock, if_true, if_false, ↓reduceIte, Nat.reduceEqDiff]) | refine Tri.seq (Tri.block ?_) | refine Tri.block ?_ | refine Tri.seq ?_ | (refine Tri.ret ?_; refine Con.fin (.inl rfl) (by simp only [Tryd.f91, cfgKY1, resA, resA1, go_sem]; rfl) (by simp only [Obs, and_true, true_and]) (by first | (simp only [kRNmd, Con.of, Con.ofO, resV, hr, e2, go_sem]; done) | fail) trivial rfl rfl))
  | true =>
    have e2 : prR s = .agg [.pure (.slice true .str) (splS 47 (cutA s 64)), .str (cutR s 64)] := by rw [prR, hr]; rfl
    refine Tri.at (by first | (simp only [hr, e2, Con.start, go_sem]; rfl) | rfl) ?_
    repeat (first | ((first | refine Tri.seq (Tri.regT (cfgKY1_ok.pins _) ?_) | refine Tri.rgnT (cfgKY1_ok.pins _) ?_); (repeat (first | refine RunT.oneA (hp := by simp (maxSteps := 2000000) (disch := first | decide | omega | (simp only [List.length_append, List.length_cons, List.length_nil, List.length_take, List.length_drop]; omega)) only [hr, e2, go_sem]; rfl) (h := ?_) | refine RunT.notA (h := ?_))); refine RunT.nil ?_; try simp only [InBlock, Then]) | refine Tri.cF (by first | (simp only [hr, e2, go_sem]; done) | fail) ?_ | refine Tri.cT (by first | (simp only [hr, e2, go_sem]; done) | fail) ?_ | (refine Tri.skip ?_; try simp only [InBlock, Then]) | (refine Tri.exit ?_; simp only [Then, InBlock, if_true, if_false, ↓reduceIte, Nat.reduceEqDiff]) | refine Tri.seq (Tri.block ?_) | refine Tri.block ?_ | refine Tri.seq ?_ | (refine Tri.ret ?_; refine Con.fin (.inl rfl) (by simp only [Tryd.f91, cfgKY1, resA, resA1, go_sem]; rfl) (by simp only [Obs, and_true, true_and]) (by first | (simp only [kRNmd, Con.of, Con.ofO, resV, hr, e2, go_sem]; done) | fail) trivial rfl rfl))
theorem rnd_sum : FSumOK Tryd.prog cfgKY1.G 91 kRNmd.sum := Con.sumOK cfgKY1_ok kRNmd Tryd.func91 rfl rfl (Con.of_inv _ _ _) rnd_body
end
theorem strEq_nil_r (l : List UInt8) : strEq l [] = strEq [] l := by
  cases l with
  | nil => rfl
  | cons x r => rw [strEq, strEq, decide_eq_false (by simp), decide_eq_false (by simp)]
theorem strEq_nil_len (l : List UInt8) : strEq [] l = !decide ((0 : Int) < ((l.length : Nat) : Int)) := by
  cases l with
  | nil => rfl
  | cons x r =>
    rw [strEq, decide_eq_false (by simp), decide_eq_true (by rw [List.length_cons]; omega : (0 : Int) < (((x :: r).length : Nat) : Int))]
    rfl
theorem zero_eq_i (x : Int) : decide ((0 : Int) = x) = decide (x = 0) := by
  by_cases h : x = 0
  · rw [h]
  · rw [decide_eq_false h, decide_eq_false (fun e => h e.symm)]
def kRRt : Con := Con.of [.v krK] (fun x => [List.length (α := UInt8) x.1.2.1 ≤ 1000000000, List.length (α := UInt8) x.1.2.2.1 ≤ 1000000000]) (fun x => ⟨.bool (fdR x.1).isSome, []⟩)
def cfgKY2 : Cfg2 := { ty := tyTabM, fn := fun | 35 => some kHs.sum | 91 => some kRNmd.sum | _ => none, G := gNone, pin := [], eq := fun _ => none }
theorem cfgKY2_ok : CfgOK Tryd.prog cfgKY2 := ⟨tyTabM_ok, (fun f s h => by
  simp only [cfgKY2] at h
  split at h
  · injection h with h; subst h; exact .inl hs_sum
  · injection h with h; subst h; exact .inl rnd_sum
  · cases h), (fun t d h => by cases h)⟩
end Go.Proofs.YtjdeaphfamenaaaDoor

namespace Go.Proofs.YtjdeaphfamenaaaDoor
open Go.Vc Go.Proofs
set_option maxRecDepth 10000
set_option maxHeartbeats 4000000
section
attribute [local go_sem] Tryd.f77 kRRt kHs kRNmd cfgKY2 tyTabM tyTabK tyTab
theorem rrt_1 (p : kRRt.Par) (hp : ∀ q ∈ kRRt.pre p, q) (hk : (p.1.1 : Int) = 1) : BodyOK Tryd.prog cfgKY2 Tryd.f77 (Tryd.f77.body.get rfl) kRRt p := by
  obtain ⟨⟨(kd : Int), (cl : List UInt8), (sv : List UInt8), (no : UInt64), (en : Int), (fl : Int), (ti : List UInt8), (se : List UInt8), (co : Int), u1⟩, u⟩ := p
  obtain ⟨hc, hs, _⟩ := Obs.of hp
  replace hc : cl.length ≤ 1000000000 := hc
  replace hs : sv.length ≤ 1000000000 := hs
  replace hk : kd = 1 := hk
  subst hk
  refine ⟨?_, Nat.zero_le _, rfl, rfl⟩
  show Tri _ _ _ (Code.seq _ (Code.seq _ (Code.seq (Code.seq _ (Code.cond _ (Code.seq _ _) _)) (Code.seq (Code.seq _ (Code.cond _ (Code.seq _ _) _)) (Code.seq (Code.seq _ (Code.cond _ (Code.seq _ _) _)) (Code.seq (Code.seq _ (Code.cond _ (Code.seq _ _) _)) (Code.seq (Code.seq _ (Code.cond _ (Code.seq _ _) _)) (Code.seq (Code.seq _ (Code.cond _ (Code.seq _ _) _)) (Code.seq (Code.seq _ (Code.cond _ (Code.seq _ _) _)) (Code.seq _ _)))))))))) _
  have z1 : decide ((1 : Int) < 1) = false := rfl
  have z7 : decide ((7 : Int) < 1) = false := rfl
  have q32 : hsM (1 : Int) 32 = true := by decide
  have q33 : hsM (1 : Int) 33 = true := by decide
  have q35 : hsM (1 : Int) 35 = true := by decide
  have q36 : hsM (1 : Int) 36 = true := by decide
  have q37 : hsM (1 : Int) 37 = false := by decide
  have q38 : hsM (1 : Int) 38 = false := by decide
  have q39 : hsM (1 : Int) 39 = false := by decide
  cases a32 : rgS (pwS cl)
  case false =>
    have e : (fdR ((1 : Int), cl, sv, no, en, fl, ti, se, co, ())).isSome = false := by
      rw [fd_1]
      rw [Bool.eq_false_iff]; intro h
      first | (rw [a32] at h; simp at h; done) | (simp only [Bool.and_eq_true, Bool.not_eq_true', Bool.not_eq_false', strEq_nil_r, strEq_nil_len, zero_eq_i, decide_eq_true_eq, decide_eq_false_iff_not] at h; simp only [Bool.and_eq_true, Bool.not_eq_true', Bool.not_eq_false', strEq_nil_r, strEq_nil_len, zero_eq_i, decide_eq_true_eq, decide_eq_false_iff_not] at a32; omega)
    refine Tri.at (by first | (simp only [Con.start, go_sem]; rfl) | rfl) ?_
    repeat (first | ((first | refine Tri.seq (Tri.regT (cfgKY2_ok.pins _) ?_) | refine Tri.rgnT (cfgKY2_ok.pins _) ?_); (repeat (first | refine RunT.oneA (hp := by simp (maxSteps := 2000000) (disch := first | decide | omega | (simp only [List.length_append, List.length_cons, List.length_nil, List.length_take, List.length_drop]; omega)) only [q32, a32, go_sem]; rfl) (h := ?_) | refine RunT.notA (h := ?_))); refine RunT.nil ?_; try simp only [InBlock, Then]) | refine Tri.cF (by first | (simp only [go_sem]; done) | fail) ?_ | refine Tri.cT (by first | (simp only [go_sem]; done) | fail) ?_ | (refine Tri.skip ?_; try simp only [Then]) | (refine Tri.exit ?_; simp only [Then, InBlock, if_true, if_false, ↓reduceIte, Nat.reduceEqDiff]) | refine Tri.seq (Tri.block ?_) | refine Tri.block ?_ | refine Tri.seq ?_ | (refine Tri.ret ?_; refine Con.fin (.inl rfl) (by simp only [Tryd.f77, cfgKY2, resA, resA1, go_sem]; rfl) (by simp only [Obs]) (by first | (simp only [kRRt, Con.of, resV, e, go_sem]; done) | fail) trivial rfl rfl))
  case true =>
    refine Tri.at (by first | (simp only [Con.start, go_sem]; rfl) | rfl) ?_
    repeat (first | ((first | refine Tri.seq (Tri.regT (cfgKY2_ok.pins _) ?_) | refine Tri.rgnT (cfgKY2_ok.pins _) ?_); (repeat (first | refine RunT.oneA (hp := by simp (maxSteps := 2000000) (disch := first | decide | omega | (simp only [List.length_append, List.length_cons, List.length_nil, List.length_take, List.length_drop]; omega)) only [q32, a32, go_sem]; rfl) (h := ?_) | refine RunT.notA (h := ?_))); refine RunT.nil ?_; try simp only [InBlock, Then]) | refine Tri.cF (by first | (simp only [go_sem]; done) | fail) ?_ | refine Tri.cT (by first | (simp only [go_sem]; done) | fail) ?_ | (refine Tri.skip ?_; try simp only [Then]) | (refine Tri.exit ?_; simp only [Then, InBlock, if_true, if_false, ↓reduceIte, Nat.reduceEqDiff]) | refine Tri.seq (Tri.block ?_) | refine Tri.block ?_ | refine Tri.seq ?_ | (refine Tri.ret ?_; refine Con.fin (.inl rfl) (by simp only [Tryd.f77, cfgKY2, resA, resA1, go_sem]; rfl) (by simp only [Obs, and_true, true_and]) (by first | (simp only [kRRt, Con.of, Con.ofO, resV, z1, z7, q32, a32, go_sem]; done) | fail) trivial rfl rfl))
    cases a33 : rgS (pwS sv)
    case false =>
      have e : (fdR ((1 : Int), cl, sv, no, en, fl, ti, se, co, ())).isSome = false := by
        rw [fd_1]
        rw [Bool.eq_false_iff]; intro h
        first | (rw [a33] at h; simp at h; done) | (simp only [Bool.and_eq_true, Bool.not_eq_true', Bool.not_eq_false', strEq_nil_r, strEq_nil_len, zero_eq_i, decide_eq_true_eq, decide_eq_false_iff_not] at h; simp only [Bool.and_eq_true, Bool.not_eq_true', Bool.not_eq_false', strEq_nil_r, strEq_nil_len, zero_eq_i, decide_eq_true_eq, decide_eq_false_iff_not] at a33; omega)
      refine Tri.at (by first | (simp only [q33, a33, e, Con.start, go_sem]; rfl) | rfl) ?_
      repeat (first | ((first | refine Tri.seq (Tri.regT (cfgKY2_ok.pins _) ?_) | refine Tri.rgnT (cfgKY2_ok.pins _) ?_); (repeat (first | refine RunT.oneA (hp := by simp (maxSteps := 2000000) (disch := first | decide | omega | (simp only [List.length_append, List.length_cons, List.length_nil, List.length_take, List.length_drop]; omega)) only [q33, a33, go_sem]; rfl) (h := ?_) | refine RunT.notA (h := ?_))); refine RunT.nil ?_; try simp only [Then]) | refine Tri.cF (by first | (simp only [go_sem]; done) | fail) ?_ | refine Tri.cT (by first | (simp only [go_sem]; done) | fail) ?_ | (refine Tri.skip ?_; try simp only [InBlock, Then]) | (refine Tri.exit ?_; simp only [Then, InBlock, if_true, if_false, ↓reduceIte, Nat.reduceEqDiff]) | refine Tri.seq (Tri.block ?_) | refine Tri.block ?_ | refine Tri.seq ?_ | (refine Tri.ret ?_; refine Con.fin (.inl rfl) (by simp only [Tryd.f77, cfgKY2, resA, resA1, go_sem]; rfl) (by simp only [Obs]) (by first | (simp only [kRRt, Con.of, resV, e, go_sem]; done) | fail) trivial rfl rfl))
    case true =>
      refine Tri.at (by first | (simp only [q33, a33, Con.start, go_sem]; rfl) | rfl) ?_
      repeat (first | ((first | refine Tri.seq (Tri.regT (cfgKY2_ok.pins _) ?_) | refine Tri.rgnT (cfgKY2_ok.pins _) ?_); (repeat (first | refine RunT.oneA (hp := by simp (maxSteps := 2000000) (disch := first | decide | omega | (simp only [List.length_append, List.length_cons, List.length_nil, List.length_take, List.length_drop]; omega)) only [q33, a33, go_sem]; rfl) (h := ?_) | refine RunT.notA (h := ?_))); refine RunT.nil ?_; try simp only [Then]) | refine Tri.cF (by first | (simp only [go_sem]; done) | fail) ?_ | refine Tri.cT (by first | (simp only [go_sem]; done) | fail) ?_ | (refine Tri.skip ?_; try simp only [Then]) | (refine Tri.exit ?_; simp only [Then, InBlock, if_true, if_false, ↓reduceIte, Nat.reduceEqDiff]) | refine Tri.seq (Tri.block ?_) | refine Tri.block ?_ | refine Tri.seq ?_ | (refine Tri.ret ?_; refine Con.fin (.inl rfl) (by simp only [Tryd.f77, cfgKY2, resA, resA1, go_sem]; rfl) (by simp only [Obs, and_true, true_and]) (by first | (simp only [kRRt, Con.of, Con.ofO, resV, q33, a33, go_sem]; done) | fail) trivial rfl rfl))
      cases b35 : decide (en < 0)
      case true =>
        have e : (fdR ((1 : Int), cl, sv, no, en, fl, ti, se, co, ())).isSome = false := by
          rw [fd_1]
          rw [Bool.eq_false_iff]; intro h
          first | (rw [b35] at h; simp at h; done) | (simp only [Bool.and_eq_true, Bool.not_eq_true', Bool.not_eq_false', strEq_nil_r, strEq_nil_len, zero_eq_i, decide_eq_true_eq, decide_eq_false_iff_not] at h; simp only [Bool.and_eq_true, Bool.not_eq_true', Bool.not_eq_false', strEq_nil_r, strEq_nil_len, zero_eq_i, decide_eq_true_eq, decide_eq_false_iff_not] at b35; omega)
        refine Tri.at (by first | (simp only [q35, b35, e, Con.start, go_sem]; rfl) | rfl) ?_
        repeat (first | ((first | refine Tri.seq (Tri.regT (cfgKY2_ok.pins _) ?_) | refine Tri.rgnT (cfgKY2_ok.pins _) ?_); (repeat (first | refine RunT.oneA (hp := by simp (maxSteps := 2000000) (disch := first | decide | omega | (simp only [List.length_append, List.length_cons, List.length_nil, List.length_take, List.length_drop]; omega)) only [b35, go_sem]; rfl) (h := ?_) | refine RunT.notA (h := ?_))); refine RunT.nil ?_; try simp only [Then]) | refine Tri.cF (by first | (simp only [go_sem]; done) | fail) ?_ | refine Tri.cT (by first | (simp only [go_sem]; done) | fail) ?_ | (refine Tri.skip ?_; try simp only [InBlock, Then]) | (refine Tri.exit ?_; simp only [Then, InBlock, if_true, if_false, ↓reduceIte, Nat.reduceEqDiff]) | refine Tri.seq (Tri.block ?_) | refine Tri.block ?_ | refine Tri.seq ?_ | (refine Tri.ret ?_; refine Con.fin (.inl rfl) (by simp only [Tryd.f77, cfgKY2, resA, resA1, go_sem]; rfl) (by simp only [Obs]) (by first | (simp only [kRRt, Con.of, resV, e, go_sem]; done) | fail) trivial rfl rfl))
      case false =>
        cases c35 : decide ((1099511627776 : Int) < en)
        case true =>
          have e : (fdR ((1 : Int), cl, sv, no, en, fl, ti, se, co, ())).isSome = false := by
            rw [fd_1]
            rw [Bool.eq_false_iff]; intro h
            first | (rw [c35] at h; simp at h; done) | (simp only [Bool.and_eq_true, Bool.not_eq_true', Bool.not_eq_false', strEq_nil_r, strEq_nil_len, zero_eq_i, decide_eq_true_eq, decide_eq_false_iff_not] at h; simp only [Bool.and_eq_true, Bool.not_eq_true', Bool.not_eq_false', strEq_nil_r, strEq_nil_len, zero_eq_i, decide_eq_true_eq, decide_eq_false_iff_not] at c35; omega)
          refine Tri.at (by first | (simp only [q35, b35, c35, e, Con.start, go_sem]; rfl) | rfl) ?_
          repeat (first | ((first | refine Tri.seq (Tri.regT (cfgKY2_ok.pins _) ?_) | refine Tri.rgnT (cfgKY2_ok.pins _) ?_); (repeat (first | refine RunT.oneA (hp := by simp (maxSteps := 2000000) (disch := first | decide | omega | (simp only [List.length_append, List.length_cons, List.length_nil, List.length_take, List.length_drop]; omega)) only [b35, c35, go_sem]; rfl) (h := ?_) | refine RunT.notA (h := ?_))); refine RunT.nil ?_; try simp only [Then]) | refine Tri.cF (by first | (simp only [go_sem]; done) | fail) ?_ | refine Tri.cT (by first | (simp only [go_sem]; done) | fail) ?_ | (refine Tri.skip ?_; try simp only [InBlock, Then]) | (refine Tri.exit ?_; simp only [Then, InBlock, if_true, if_false, ↓reduceIte, Nat.reduceEqDiff]) | refine Tri.seq (Tri.block ?_) | refine Tri.block ?_ | refine Tri.seq ?_ | (refine Tri.ret ?_; refine Con.fin (.inl rfl) (by simp only [Tryd.f77, cfgKY2, resA, resA1, go_sem]; rfl) (by simp only [Obs]) (by first | (simp only [kRRt, Con.of, resV, e, go_sem]; done) | fail) trivial rfl rfl))
        case false =>
          refine Tri.at (by first | (simp only [q35, b35, c35, Con.start, go_sem]; rfl) | rfl) ?_
          repeat (first | ((first | refine Tri.seq (Tri.regT (cfgKY2_ok.pins _) ?_) | refine Tri.rgnT (cfgKY2_ok.pins _) ?_); (repeat (first | refine RunT.oneA (hp := by simp (maxSteps := 2000000) (disch := first | decide | omega | (simp only [List.length_append, List.length_cons, List.length_nil, List.length_take, List.length_drop]; omega)) only [q35, b35, c35, go_sem]; rfl) (h := ?_) | refine RunT.notA (h := ?_))); refine RunT.nil ?_; try simp only [Then]) | refine Tri.cF (by first | (simp only [go_sem]; done) | fail) ?_ | refine Tri.cT (by first | (simp only [go_sem]; done) | fail) ?_ | (refine Tri.skip ?_; try simp only [Then]) | (refine Tri.exit ?_; simp only [Then, InBlock, if_true, if_false, ↓reduceIte, Nat.reduceEqDiff]) | refine Tri.seq (Tri.block ?_) | refine Tri.block ?_ | refine Tri.seq ?_ | (refine Tri.ret ?_; refine Con.fin (.inl rfl) (by simp only [Tryd.f77, cfgKY2, resA, resA1, go_sem]; rfl) (by simp only [Obs, and_true, true_and]) (by first | (simp only [kRRt, Con.of, Con.ofO, resV, q35, b35, c35, go_sem]; done) | fail) trivial rfl rfl))
          cases b36 : decide (fl < 0)
          case true =>
            have e : (fdR ((1 : Int), cl, sv, no, en, fl, ti, se, co, ())).isSome = false := by
              rw [fd_1]
              rw [Bool.eq_false_iff]; intro h
              first | (rw [b36] at h; simp at h; done) | (simp only [Bool.and_eq_true, Bool.not_eq_true', Bool.not_eq_false', strEq_nil_r, strEq_nil_len, zero_eq_i, decide_eq_true_eq, decide_eq_false_iff_not] at h; simp only [Bool.and_eq_true, Bool.not_eq_true', Bool.not_eq_false', strEq_nil_r, strEq_nil_len, zero_eq_i, decide_eq_true_eq, decide_eq_false_iff_not] at b36; omega)
            refine Tri.at (by first | (simp only [q36, b36, e, Con.start, go_sem]; rfl) | rfl) ?_
            repeat (first | ((first | refine Tri.seq (Tri.regT (cfgKY2_ok.pins _) ?_) | refine Tri.rgnT (cfgKY2_ok.pins _) ?_); (repeat (first | refine RunT.oneA (hp := by simp (maxSteps := 2000000) (disch := first | decide | omega | (simp only [List.length_append, List.length_cons, List.length_nil, List.length_take, List.length_drop]; omega)) only [b36, go_sem]; rfl) (h := ?_) | refine RunT.notA (h := ?_))); refine RunT.nil ?_; try simp only [Then]) | refine Tri.cF (by first | (simp only [go_sem]; done) | fail) ?_ | refine Tri.cT (by first | (simp only [go_sem]; done) | fail) ?_ | (refine Tri.skip ?_; try simp only [InBlock, Then]) | (refine Tri.exit ?_; simp only [Then, InBlock, if_true, if_false, ↓reduceIte, Nat.reduceEqDiff]) | refine Tri.seq (Tri.block ?_) | refine Tri.block ?_ | refine Tri.seq ?_ | (refine Tri.ret ?_; refine Con.fin (.inl rfl) (by simp only [Tryd.f77, cfgKY2, resA, resA1, go_sem]; rfl) (by simp only [Obs]) (by first | (simp only [kRRt, Con.of, resV, e, go_sem]; done) | fail) trivial rfl rfl))
          case false =>
            cases c36 : decide ((3 : Int) < fl)
            case true =>
              have e : (fdR ((1 : Int), cl, sv, no, en, fl, ti, se, co, ())).isSome = false := by
                rw [fd_1]
                rw [Bool.eq_false_iff]; intro h
                first | (rw [c36] at h; simp at h; done) | (simp only [Bool.and_eq_true, Bool.not_eq_true', Bool.not_eq_false', strEq_nil_r, strEq_nil_len, zero_eq_i, decide_eq_true_eq, decide_eq_false_iff_not] at h; simp only [Bool.and_eq_true, Bool.not_eq_true', Bool.not_eq_false', strEq_nil_r, strEq_nil_len, zero_eq_i, decide_eq_true_eq, decide_eq_false_iff_not] at c36; omega)
              refine Tri.at (by first | (simp only [q36, b36, c36, e, Con.start, go_sem]; rfl) | rfl) ?_
              repeat (first | ((first | refine Tri.seq (Tri.regT (cfgKY2_ok.pins _) ?_) | refine Tri.rgnT (cfgKY2_ok.pins _) ?_); (repeat (first | refine RunT.oneA (hp := by simp (maxSteps := 2000000) (disch := first | decide | omega | (simp only [List.length_append, List.length_cons, List.length_nil, List.length_take, List.length_drop]; omega)) only [b36, c36, go_sem]; rfl) (h := ?_) | refine RunT.notA (h := ?_))); refine RunT.nil ?_; try simp only [Then]) | refine Tri.cF (by first | (simp only [go_sem]; done) | fail) ?_ | refine Tri.cT (by first | (simp only [go_sem]; done) | fail) ?_ | (refine Tri.skip ?_; try simp only [InBlock, Then]) | (refine Tri.exit ?_; simp only [Then, InBlock, if_true, if_false, ↓reduceIte, Nat.reduceEqDiff]) | refine Tri.seq (Tri.block ?_) | refine Tri.block ?_ | refine Tri.seq ?_ | (refine Tri.ret ?_; refine Con.fin (.inl rfl) (by simp only [Tryd.f77, cfgKY2, resA, resA1, go_sem]; rfl) (by simp only [Obs]) (by first | (simp only [kRRt, Con.of, resV, e, go_sem]; done) | fail) trivial rfl rfl))
            case false =>
              refine Tri.at (by first | (simp only [q36, b36, c36, Con.start, go_sem]; rfl) | rfl) ?_
              repeat (first | ((first | refine Tri.seq (Tri.regT (cfgKY2_ok.pins _) ?_) | refine Tri.rgnT (cfgKY2_ok.pins _) ?_); (repeat (first | refine RunT.oneA (hp := by simp (maxSteps := 2000000) (disch := first | decide | omega | (simp only [List.length_append, List.length_cons, List.length_nil, List.length_take, List.length_drop]; omega)) only [q36, b36, c36, go_sem]; rfl) (h := ?_) | refine RunT.notA (h := ?_))); refine RunT.nil ?_; try simp only [Then]) | refine Tri.cF (by first | (simp only [go_sem]; done) | fail) ?_ | refine Tri.cT (by first | (simp only [go_sem]; done) | fail) ?_ | (refine Tri.skip ?_; try simp only [Then]) | (refine Tri.exit ?_; simp only [Then, InBlock, if_true, if_false, ↓reduceIte, Nat.reduceEqDiff]) | refine Tri.seq (Tri.block ?_) | refine Tri.block ?_ | refine Tri.seq ?_ | (refine Tri.ret ?_; refine Con.fin (.inl rfl) (by simp only [Tryd.f77, cfgKY2, resA, resA1, go_sem]; rfl) (by simp only [Obs, and_true, true_and]) (by first | (simp only [kRRt, Con.of, Con.ofO, resV, q36, b36, c36, go_sem]; done) | fail) trivial rfl rfl))
              cases b37 : decide ((3000 : Int) < ((ti.length : Nat) : Int))
              case true =>
                have e : (fdR ((1 : Int), cl, sv, no, en, fl, ti, se, co, ())).isSome = false := by
                  rw [fd_1]
                  rw [Bool.eq_false_iff]; intro h
                  first | (rw [b37] at h; simp at h; done) | (simp only [Bool.and_eq_true, Bool.not_eq_true', strEq_nil_len, zero_eq_i, decide_eq_true_eq, decide_eq_false_iff_not] at h; simp only [decide_eq_true_eq] at b37; omega)
                refine Tri.at (by first | (simp only [q37, q38, b37, e, Con.start, go_sem]; rfl) | rfl) ?_
                repeat (first | ((first | refine Tri.seq (Tri.regT (cfgKY2_ok.pins _) ?_) | refine Tri.rgnT (cfgKY2_ok.pins _) ?_); (repeat (first | refine RunT.oneA (hp := by simp (maxSteps := 2000000) (disch := first | decide | omega | (simp only [List.length_append, List.length_cons, List.length_nil, List.length_take, List.length_drop]; omega)) only [b37, go_sem]; rfl) (h := ?_) | refine RunT.notA (h := ?_))); refine RunT.nil ?_; try simp only [Then]) | refine Tri.cF (by first | (simp only [go_sem]; done) | fail) ?_ | refine Tri.cT (by first | (simp only [go_sem]; done) | fail) ?_ | (refine Tri.skip ?_; try simp only [InBlock, Then]) | (refine Tri.exit ?_; simp only [Then, InBlock, if_true, if_false, ↓reduceIte, Nat.reduceEqDiff]) | refine Tri.seq (Tri.block ?_) | refine Tri.block ?_ | refine Tri.seq ?_ | (refine Tri.ret ?_; refine Con.fin (.inl rfl) (by simp only [Tryd.f77, cfgKY2, resA, resA1, go_sem]; rfl) (by simp only [Obs]) (by first | (simp only [kRRt, Con.of, resV, e, go_sem]; done) | fail) trivial rfl rfl))
              case false =>
                cases c37 : decide ((0 : Int) < ((ti.length : Nat) : Int))
                case true =>
                  have e : (fdR ((1 : Int), cl, sv, no, en, fl, ti, se, co, ())).isSome = false := by
                    rw [fd_1]
                    rw [Bool.eq_false_iff]; intro h
                    first | (rw [c37] at h; simp at h; done) | (simp only [Bool.and_eq_true, Bool.not_eq_true', strEq_nil_len, zero_eq_i, decide_eq_true_eq, decide_eq_false_iff_not] at h; simp only [decide_eq_true_eq] at c37; omega)
                  refine Tri.at (by first | (simp only [q37, q38, b37, c37, e, Con.start, go_sem]; rfl) | rfl) ?_
                  repeat (first | ((first | refine Tri.seq (Tri.regT (cfgKY2_ok.pins _) ?_) | refine Tri.rgnT (cfgKY2_ok.pins _) ?_); (repeat (first | refine RunT.oneA (hp := by simp (maxSteps := 2000000) (disch := first | decide | omega | (simp only [List.length_append, List.length_cons, List.length_nil, List.length_take, List.length_drop]; omega)) only [q37, b37, c37, go_sem]; rfl) (h := ?_) | refine RunT.notA (h := ?_))); refine RunT.nil ?_; try simp only [Then]) | refine Tri.cF (by first | (simp only [go_sem]; done) | fail) ?_ | refine Tri.cT (by first | (simp only [go_sem]; done) | fail) ?_ | (refine Tri.skip ?_; try simp only [InBlock, Then]) | (refine Tri.exit ?_; simp only [Then, InBlock, if_true, if_false, ↓reduceIte, Nat.reduceEqDiff]) | refine Tri.seq (Tri.block ?_) | refine Tri.block ?_ | refine Tri.seq ?_ | (refine Tri.ret ?_; refine Con.fin (.inl rfl) (by simp only [Tryd.f77, cfgKY2, resA, resA1, go_sem]; rfl) (by simp only [Obs]) (by first | (simp only [kRRt, Con.of, resV, e, go_sem]; done) | fail) trivial rfl rfl))
                case false =>
                  cases b38 : decide ((3000 : Int) < ((se.length : Nat) : Int))
                  case true =>
                    have e : (fdR ((1 : Int), cl, sv, no, en, fl, ti, se, co, ())).isSome = false := by
                      rw [fd_1]
                      rw [Bool.eq_false_iff]; intro h
                      first | (rw [b38] at h; simp at h; done) | (simp only [Bool.and_eq_true, Bool.not_eq_true', strEq_nil_len, zero_eq_i, decide_eq_true_eq, decide_eq_false_iff_not] at h; simp only [decide_eq_true_eq] at b38; omega)
                    refine Tri.at (by first | (simp only [q37, q38, b37, c37, b38, e, Con.start, go_sem]; rfl) | rfl) ?_
                    repeat (first | ((first | refine Tri.seq (Tri.regT (cfgKY2_ok.pins _) ?_) | refine Tri.rgnT (cfgKY2_ok.pins _) ?_); (repeat (first | refine RunT.oneA (hp := by simp (maxSteps := 2000000) (disch := first | decide | omega | (simp only [List.length_append, List.length_cons, List.length_nil, List.length_take, List.length_drop]; omega)) only [q37, b37, c37, b38, go_sem]; rfl) (h := ?_) | refine RunT.notA (h := ?_))); refine RunT.nil ?_; try simp only [Then]) | refine Tri.cF (by first | (simp only [go_sem]; done) | fail) ?_ | refine Tri.cT (by first | (simp only [go_sem]; done) | fail) ?_ | (refine Tri.skip ?_; try simp only [InBlock, Then]) | (refine Tri.exit ?_; simp only [Then, InBlock, if_true, if_false, ↓reduceIte, Nat.reduceEqDiff]) | refine Tri.seq (Tri.block ?_) | refine Tri.block ?_ | refine Tri.seq ?_ | (refine Tri.ret ?_; refine Con.fin (.inl rfl) (by simp only [Tryd.f77, cfgKY2, resA, resA1, go_sem]; rfl) (by simp only [Obs]) (by first | (simp only [kRRt, Con.of, resV, e, go_sem]; done) | fail) trivial rfl rfl))
                  case false =>
                    cases c38 : decide ((0 : Int) < ((se.length : Nat) : Int))
                    case true =>
                      have e : (fdR ((1 : Int), cl, sv, no, en, fl, ti, se, co, ())).isSome = false := by
                        rw [fd_1]
                        rw [Bool.eq_false_iff]; intro h
                        first | (rw [c38] at h; simp at h; done) | (simp only [Bool.and_eq_true, Bool.not_eq_true', strEq_nil_len, zero_eq_i, decide_eq_true_eq, decide_eq_false_iff_not] at h; simp only [decide_eq_true_eq] at c38; omega)
                      refine Tri.at (by first | (simp only [q37, q38, b37, c37, b38, c38, e, Con.start, go_sem]; rfl) | rfl) ?_
                      repeat (first | ((first | refine Tri.seq (Tri.regT (cfgKY2_ok.pins _) ?_) | refine Tri.rgnT (cfgKY2_ok.pins _) ?_); (repeat (first | refine RunT.oneA (hp := by simp (maxSteps := 2000000) (disch := first | decide | omega | (simp only [List.length_append, List.length_cons, List.length_nil, List.length_take, List.length_drop]; omega)) only [q37, q38, b37, c37, b38, c38, go_sem]; rfl) (h := ?_) | refine RunT.notA (h := ?_))); refine RunT.nil ?_; try simp only [Then]) | refine Tri.cF (by first | (simp only [go_sem]; done) | fail) ?_ | refine Tri.cT (by first | (simp only [go_sem]; done) | fail) ?_ | (refine Tri.skip ?_; try simp only [InBlock, Then]) | (refine Tri.exit ?_; simp only [Then, InBlock, if_true, if_false, ↓reduceIte, Nat.reduceEqDiff]) | refine Tri.seq (Tri.block ?_) | refine Tri.block ?_ | refine Tri.seq ?_ | (refine Tri.ret ?_; refine Con.fin (.inl rfl) (by simp only [Tryd.f77, cfgKY2, resA, resA1, go_sem]; rfl) (by simp only [Obs]) (by first | (simp only [kRRt, Con.of, resV, e, go_sem]; done) | fail) trivial rfl rfl))
                    case false =>
                      refine Tri.at (by first | (simp only [q37, q38, b37, c37, b38, c38, Con.start, go_sem]; rfl) | rfl) ?_
                      repeat (first | ((first | refine Tri.seq (Tri.regT (cfgKY2_ok.pins _) ?_) | refine Tri.rgnT (cfgKY2_ok.pins _) ?_); (repeat (first | refine RunT.oneA (hp := by simp (maxSteps := 2000000) (disch := first | decide | omega | (simp only [List.length_append, List.length_cons, List.length_nil, List.length_take, List.length_drop]; omega)) only [q37, q38, b37, c37, b38, c38, go_sem]; rfl) (h := ?_) | refine RunT.notA (h := ?_))); refine RunT.nil ?_; try simp only [Then]) | refine Tri.cF (by first | (simp only [go_sem]; done) | fail) ?_ | refine Tri.cT (by first | (simp only [go_sem]; done) | fail) ?_ | (refine Tri.skip ?_; try simp only [Then]) | (refine Tri.exit ?_; simp only [Then, InBlock, if_true, if_false, ↓reduceIte, Nat.reduceEqDiff]) | refine Tri.seq (Tri.block ?_) | refine Tri.block ?_ | refine Tri.seq ?_ | (refine Tri.ret ?_; refine Con.fin (.inl rfl) (by simp only [Tryd.f77, cfgKY2, resA, resA1, go_sem]; rfl) (by simp only [Obs, and_true, true_and]) (by first | (simp only [kRRt, Con.of, Con.ofO, resV, q37, q38, b37, c37, b38, c38, go_sem]; done) | fail) trivial rfl rfl))
                      cases d39 : decide (co = 0)
                      case false =>
                        have e : (fdR ((1 : Int), cl, sv, no, en, fl, ti, se, co, ())).isSome = false := by
                          rw [fd_1]
                          rw [Bool.eq_false_iff]; intro h
                          first | (rw [d39] at h; simp at h; done) | (simp only [Bool.and_eq_true, Bool.not_eq_true', strEq_nil_len, zero_eq_i, decide_eq_true_eq, decide_eq_false_iff_not] at h; simp only [decide_eq_false_iff_not] at d39; omega)
                        refine Tri.at (by first | (simp only [q39, go_sem]; rfl) | rfl) ?_
                        repeat (first | ((first | refine Tri.seq (Tri.regT (cfgKY2_ok.pins _) ?_) | refine Tri.rgnT (cfgKY2_ok.pins _) ?_); (repeat (first | refine RunT.oneA (hp := by simp (maxSteps := 2000000) (disch := first | decide | omega | (simp only [List.length_append, List.length_cons, List.length_nil, List.length_take, List.length_drop]; omega)) only [d39, go_sem]; rfl) (h := ?_) | refine RunT.notA (h := ?_))); refine RunT.nil ?_; try simp only [InBlock, Then]) | refine Tri.cF (by first | (simp only [go_sem]; done) | fail) ?_ | refine Tri.cT (by first | (simp only [go_sem]; done) | fail) ?_ | (refine Tri.skip ?_; try simp only [Then]) | (refine Tri.exit ?_; simp only [Then, InBlock, if_true, if_false, ↓reduceIte, Nat.reduceEqDiff]) | refine Tri.seq (Tri.block ?_) | refine Tri.block ?_ | refine Tri.seq ?_ | (refine Tri.ret ?_; refine Con.fin (.inl rfl) (by simp only [Tryd.f77, cfgKY2, resA, resA1, go_sem]; rfl) (by simp only [Obs]) (by first | (simp only [kRRt, Con.of, resV, e, go_sem]; done) | fail) trivial rfl rfl))
                      case true =>
                        have e : (fdR ((1 : Int), cl, sv, no, en, fl, ti, se, co, ())).isSome = true := by
                          rw [fd_1]
                          simp only [Bool.and_eq_true, Bool.not_eq_true', strEq_nil_len, zero_eq_i, decide_eq_true_eq, decide_eq_false_iff_not] at a32 a33 b35 c35 b36 c36 b37 c37 b38 c38 d39 ⊢
                          repeat' apply And.intro
                          all_goals first | assumption | omega
                        refine Tri.at (by first | (simp only [q39, go_sem]; rfl) | rfl) ?_
                        repeat (first | ((first | refine Tri.seq (Tri.regT (cfgKY2_ok.pins _) ?_) | refine Tri.rgnT (cfgKY2_ok.pins _) ?_); (repeat (first | refine RunT.oneA (hp := by simp (maxSteps := 2000000) (disch := first | decide | omega | (simp only [List.length_append, List.length_cons, List.length_nil, List.length_take, List.length_drop]; omega)) only [d39, go_sem]; rfl) (h := ?_) | refine RunT.notA (h := ?_))); refine RunT.nil ?_; try simp only [InBlock, Then]) | refine Tri.cF (by first | (simp only [go_sem]; done) | fail) ?_ | refine Tri.cT (by first | (simp only [go_sem]; done) | fail) ?_ | (refine Tri.skip ?_; try simp only [Then]) | (refine Tri.exit ?_; simp only [Then, InBlock, if_true, if_false, ↓reduceIte, Nat.reduceEqDiff]) | refine Tri.seq (Tri.block ?_) | refine Tri.block ?_ | refine Tri.seq ?_ | (refine Tri.ret ?_; refine Con.fin (.inl rfl) (by simp only [Tryd.f77, cfgKY2, resA, resA1, go_sem]; rfl) (by simp only [Obs]) (by first | (simp only [kRRt, Con.of, resV, e, go_sem]; done) | fail) trivial rfl rfl))
theorem rrt_2 (p : kRRt.Par) (hp : ∀ q ∈ kRRt.pre p, q) (hk : (p.1.1 : Int) = 2) : BodyOK Tryd.prog cfgKY2 Tryd.f77 (Tryd.f77.body.get rfl) kRRt p := by
  obtain ⟨⟨(kd : Int), (cl : List UInt8), (sv : List UInt8), (no : UInt64), (en : Int), (fl : Int), (ti : List UInt8), (se : List UInt8), (co : Int), u1⟩, u⟩ := p
  obtain ⟨hc, hs, _⟩ := Obs.of hp
  replace hc : cl.length ≤ 1000000000 := hc
  replace hs : sv.length ≤ 1000000000 := hs
  replace hk : kd = 2 := hk
  subst hk
  refine ⟨?_, Nat.zero_le _, rfl, rfl⟩
  show Tri _ _ _ (Code.seq _ (Code.seq _ (Code.seq (Code.seq _ (Code.cond _ (Code.seq _ _) _)) (Code.seq (Code.seq _ (Code.cond _ (Code.seq _ _) _)) (Code.seq (Code.seq _ (Code.cond _ (Code.seq _ _) _)) (Code.seq (Code.seq _ (Code.cond _ (Code.seq _ _) _)) (Code.seq (Code.seq _ (Code.cond _ (Code.seq _ _) _)) (Code.seq (Code.seq _ (Code.cond _ (Code.seq _ _) _)) (Code.seq (Code.seq _ (Code.cond _ (Code.seq _ _) _)) (Code.seq _ _)))))))))) _
  have z1 : decide ((2 : Int) < 1) = false := rfl
  have z7 : decide ((7 : Int) < 2) = false := rfl
  have q32 : hsM (2 : Int) 32 = false := by decide
  have q33 : hsM (2 : Int) 33 = true := by decide
  have q35 : hsM (2 : Int) 35 = true := by decide
  have q36 : hsM (2 : Int) 36 = true := by decide
  have q37 : hsM (2 : Int) 37 = true := by decide
  have q38 : hsM (2 : Int) 38 = true := by decide
  have q39 : hsM (2 : Int) 39 = false := by decide
  cases a32 : strEq cl []
  case false =>
    have e : (fdR ((2 : Int), cl, sv, no, en, fl, ti, se, co, ())).isSome = false := by
      rw [fd_2]
      rw [Bool.eq_false_iff]; intro h
      first | (rw [a32] at h; simp at h; done) | (simp only [Bool.and_eq_true, Bool.not_eq_true', strEq_nil_len, zero_eq_i, decide_eq_true_eq, decide_eq_false_iff_not] at h; simp only [Bool.not_eq_false', strEq_nil_r, strEq_nil_len, decide_eq_true_eq] at a32; omega)
    refine Tri.at (by first | (simp only [Con.start, go_sem]; rfl) | rfl) ?_
    repeat (first | ((first | refine Tri.seq (Tri.regT (cfgKY2_ok.pins _) ?_) | refine Tri.rgnT (cfgKY2_ok.pins _) ?_); (repeat (first | refine RunT.oneA (hp := by simp (maxSteps := 2000000) (disch := first | decide | omega | (simp only [List.length_append, List.length_cons, List.length_nil, List.length_take, List.length_drop]; omega)) only [q32, a32, go_sem]; rfl) (h := ?_) | refine RunT.notA (h := ?_))); refine RunT.nil ?_; try simp only [InBlock, Then]) | refine Tri.cF (by first | (simp only [go_sem]; done) | fail) ?_ | refine Tri.cT (by first | (simp only [go_sem]; done) | fail) ?_ | (refine Tri.skip ?_; try simp only [Then]) | (refine Tri.exit ?_; simp only [Then, InBlock, if_true, if_false, ↓reduceIte, Nat.reduceEqDiff]) | refine Tri.seq (Tri.block ?_) | refine Tri.block ?_ | refine Tri.seq ?_ | (refine Tri.ret ?_; refine Con.fin (.inl rfl) (by simp only [Tryd.f77, cfgKY2, resA, resA1, go_sem]; rfl) (by simp only [Obs]) (by first | (simp only [kRRt, Con.of, resV, e, go_sem]; done) | fail) trivial rfl rfl))
  case true =>
    refine Tri.at (by first | (simp only [Con.start, go_sem]; rfl) | rfl) ?_
    repeat (first | ((first | refine Tri.seq (Tri.regT (cfgKY2_ok.pins _) ?_) | refine Tri.rgnT (cfgKY2_ok.pins _) ?_); (repeat (first | refine RunT.oneA (hp := by simp (maxSteps := 2000000) (disch := first | decide | omega | (simp only [List.length_append, List.length_cons, List.length_nil, List.length_take, List.length_drop]; omega)) only [q32, a32, go_sem]; rfl) (h := ?_) | refine RunT.notA (h := ?_))); refine RunT.nil ?_; try simp only [InBlock, Then]) | refine Tri.cF (by first | (simp only [go_sem]; done) | fail) ?_ | refine Tri.cT (by first | (simp only [go_sem]; done) | fail) ?_ | (refine Tri.skip ?_; try simp only [Then]) | (refine Tri.exit ?_; simp only [Then, InBlock, if_true, if_false, ↓reduceIte, Nat.reduceEqDiff]) | refine Tri.seq (Tri.block ?_) | refine Tri.block ?_ | refine Tri.seq ?_ | (refine Tri.ret ?_; refine Con.fin (.inl rfl) (by simp only [Tryd.f77, cfgKY2, resA, resA1, go_sem]; rfl) (by simp only [Obs, and_true, true_and]) (by first | (simp only [kRRt, Con.of, Con.ofO, resV, z1, z7, q32, a32, go_sem]; done) | fail) trivial rfl rfl))
    cases a33 : rgS (pwS sv)
    case false =>
      have e : (fdR ((2 : Int), cl, sv, no, en, fl, ti, se, co, ())).isSome = false := by
        rw [fd_2]
        rw [Bool.eq_false_iff]; intro h
        first | (rw [a33] at h; simp at h; done) | (simp only [Bool.and_eq_true, Bool.not_eq_true', Bool.not_eq_false', strEq_nil_r, strEq_nil_len, zero_eq_i, decide_eq_true_eq, decide_eq_false_iff_not] at h; simp only [Bool.and_eq_true, Bool.not_eq_true', Bool.not_eq_false', strEq_nil_r, strEq_nil_len, zero_eq_i, decide_eq_true_eq, decide_eq_false_iff_not] at a33; omega)
      refine Tri.at (by first | (simp only [q33, a33, e, Con.start, go_sem]; rfl) | rfl) ?_
      repeat (first | ((first | refine Tri.seq (Tri.regT (cfgKY2_ok.pins _) ?_) | refine Tri.rgnT (cfgKY2_ok.pins _) ?_); (repeat (first | refine RunT.oneA (hp := by simp (maxSteps := 2000000) (disch := first | decide | omega | (simp only [List.length_append, List.length_cons, List.length_nil, List.length_take, List.length_drop]; omega)) only [q33, a33, go_sem]; rfl) (h := ?_) | refine RunT.notA (h := ?_))); refine RunT.nil ?_; try simp only [Then]) | refine Tri.cF (by first | (simp only [go_sem]; done) | fail) ?_ | refine Tri.cT (by first | (simp only [go_sem]; done) | fail) ?_ | (refine Tri.skip ?_; try simp only [InBlock, Then]) | (refine Tri.exit ?_; simp only [Then, InBlock, if_true, if_false, ↓reduceIte, Nat.reduceEqDiff]) | refine Tri.seq (Tri.block ?_) | refine Tri.block ?_ | refine Tri.seq ?_ | (refine Tri.ret ?_; refine Con.fin (.inl rfl) (by simp only [Tryd.f77, cfgKY2, resA, resA1, go_sem]; rfl) (by simp only [Obs]) (by first | (simp only [kRRt, Con.of, resV, e, go_sem]; done) | fail) trivial rfl rfl))
    case true =>
      refine Tri.at (by first | (simp only [q33, a33, Con.start, go_sem]; rfl) | rfl) ?_
      repeat (first | ((first | refine Tri.seq (Tri.regT (cfgKY2_ok.pins _) ?_) | refine Tri.rgnT (cfgKY2_ok.pins _) ?_); (repeat (first | refine RunT.oneA (hp := by simp (maxSteps := 2000000) (disch := first | decide | omega | (simp only [List.length_append, List.length_cons, List.length_nil, List.length_take, List.length_drop]; omega)) only [q33, a33, go_sem]; rfl) (h := ?_) | refine RunT.notA (h := ?_))); refine RunT.nil ?_; try simp only [Then]) | refine Tri.cF (by first | (simp only [go_sem]; done) | fail) ?_ | refine Tri.cT (by first | (simp only [go_sem]; done) | fail) ?_ | (refine Tri.skip ?_; try simp only [Then]) | (refine Tri.exit ?_; simp only [Then, InBlock, if_true, if_false, ↓reduceIte, Nat.reduceEqDiff]) | refine Tri.seq (Tri.block ?_) | refine Tri.block ?_ | refine Tri.seq ?_ | (refine Tri.ret ?_; refine Con.fin (.inl rfl) (by simp only [Tryd.f77, cfgKY2, resA, resA1, go_sem]; rfl) (by simp only [Obs, and_true, true_and]) (by first | (simp only [kRRt, Con.of, Con.ofO, resV, q33, a33, go_sem]; done) | fail) trivial rfl rfl))
      cases b35 : decide (en < 0)
      case true =>
        have e : (fdR ((2 : Int), cl, sv, no, en, fl, ti, se, co, ())).isSome = false := by
          rw [fd_2]
          rw [Bool.eq_false_iff]; intro h
          first | (rw [b35] at h; simp at h; done) | (simp only [Bool.and_eq_true, Bool.not_eq_true', Bool.not_eq_false', strEq_nil_r, strEq_nil_len, zero_eq_i, decide_eq_true_eq, decide_eq_false_iff_not] at h; simp only [Bool.and_eq_true, Bool.not_eq_true', Bool.not_eq_false', strEq_nil_r, strEq_nil_len, zero_eq_i, decide_eq_true_eq, decide_eq_false_iff_not] at b35; omega)
        refine Tri.at (by first | (simp only [q35, b35, e, Con.start, go_sem]; rfl) | rfl) ?_
        repeat (first | ((first | refine Tri.seq (Tri.regT (cfgKY2_ok.pins _) ?_) | refine Tri.rgnT (cfgKY2_ok.pins _) ?_); (repeat (first | refine RunT.oneA (hp := by simp (maxSteps := 2000000) (disch := first | decide | omega | (simp only [List.length_append, List.length_cons, List.length_nil, List.length_take, List.length_drop]; omega)) only [b35, go_sem]; rfl) (h := ?_) | refine RunT.notA (h := ?_))); refine RunT.nil ?_; try simp only [Then]) | refine Tri.cF (by first | (simp only [go_sem]; done) | fail) ?_ | refine Tri.cT (by first | (simp only [go_sem]; done) | fail) ?_ | (refine Tri.skip ?_; try simp only [InBlock, Then]) | (refine Tri.exit ?_; simp only [Then, InBlock, if_true, if_false, ↓reduceIte, Nat.reduceEqDiff]) | refine Tri.seq (Tri.block ?_) | refine Tri.block ?_ | refine Tri.seq ?_ | (refine Tri.ret ?_; refine Con.fin (.inl rfl) (by simp only [Tryd.f77, cfgKY2, resA, resA1, go_sem]; rfl) (by simp only [Obs]) (by first | (simp only [kRRt, Con.of, resV, e, go_sem]; done) | fail) trivial rfl rfl))
      case false =>
        cases c35 : decide ((1099511627776 : Int) < en)
        case true =>
          have e : (fdR ((2 : Int), cl, sv, no, en, fl, ti, se, co, ())).isSome = false := by
            rw [fd_2]
            rw [Bool.eq_false_iff]; intro h
            first | (rw [c35] at h; simp at h; done) | (simp only [Bool.and_eq_true, Bool.not_eq_true', Bool.not_eq_false', strEq_nil_r, strEq_nil_len, zero_eq_i, decide_eq_true_eq, decide_eq_false_iff_not] at h; simp only [Bool.and_eq_true, Bool.not_eq_true', Bool.not_eq_false', strEq_nil_r, strEq_nil_len, zero_eq_i, decide_eq_true_eq, decide_eq_false_iff_not] at c35; omega)
          refine Tri.at (by first | (simp only [q35, b35, c35, e, Con.start, go_sem]; rfl) | rfl) ?_
          repeat (first | ((first | refine Tri.seq (Tri.regT (cfgKY2_ok.pins _) ?_) | refine Tri.rgnT (cfgKY2_ok.pins _) ?_); (repeat (first | refine RunT.oneA (hp := by simp (maxSteps := 2000000) (disch := first | decide | omega | (simp only [List.length_append, List.length_cons, List.length_nil, List.length_take, List.length_drop]; omega)) only [b35, c35, go_sem]; rfl) (h := ?_) | refine RunT.notA (h := ?_))); refine RunT.nil ?_; try simp only [Then]) | refine Tri.cF (by first | (simp only [go_sem]; done) | fail) ?_ | refine Tri.cT (by first | (simp only [go_sem]; done) | fail) ?_ | (refine Tri.skip ?_; try simp only [InBlock, Then]) | (refine Tri.exit ?_; simp only [Then, InBlock, if_true, if_false, ↓reduceIte, Nat.reduceEqDiff]) | refine Tri.seq (Tri.block ?_) | refine Tri.block ?_ | refine Tri.seq ?_ | (refine Tri.ret ?_; refine Con.fin (.inl rfl) (by simp only [Tryd.f77, cfgKY2, resA, resA1, go_sem]; rfl) (by simp only [Obs]) (by first | (simp only [kRRt, Con.of, resV, e, go_sem]; done) | fail) trivial rfl rfl))
        case false =>
          refine Tri.at (by first | (simp only [q35, b35, c35, Con.start, go_sem]; rfl) | rfl) ?_
          repeat (first | ((first | refine Tri.seq (Tri.regT (cfgKY2_ok.pins _) ?_) | refine Tri.rgnT (cfgKY2_ok.pins _) ?_); (repeat (first | refine RunT.oneA (hp := by simp (maxSteps := 2000000) (disch := first | decide | omega | (simp only [List.length_append, List.length_cons, List.length_nil, List.length_take, List.length_drop]; omega)) only [q35, b35, c35, go_sem]; rfl) (h := ?_) | refine RunT.notA (h := ?_))); refine RunT.nil ?_; try simp only [Then]) | refine Tri.cF (by first | (simp only [go_sem]; done) | fail) ?_ | refine Tri.cT (by first | (simp only [go_sem]; done) | fail) ?_ | (refine Tri.skip ?_; try simp only [Then]) | (refine Tri.exit ?_; simp only [Then, InBlock, if_true, if_false, ↓reduceIte, Nat.reduceEqDiff]) | refine Tri.seq (Tri.block ?_) | refine Tri.block ?_ | refine Tri.seq ?_ | (refine Tri.ret ?_; refine Con.fin (.inl rfl) (by simp only [Tryd.f77, cfgKY2, resA, resA1, go_sem]; rfl) (by simp only [Obs, and_true, true_and]) (by first | (simp only [kRRt, Con.of, Con.ofO, resV, q35, b35, c35, go_sem]; done) | fail) trivial rfl rfl))
          cases b36 : decide (fl < 0)
          case true =>
            have e : (fdR ((2 : Int), cl, sv, no, en, fl, ti, se, co, ())).isSome = false := by
              rw [fd_2]
              rw [Bool.eq_false_iff]; intro h
              first | (rw [b36] at h; simp at h; done) | (simp only [Bool.and_eq_true, Bool.not_eq_true', Bool.not_eq_false', strEq_nil_r, strEq_nil_len, zero_eq_i, decide_eq_true_eq, decide_eq_false_iff_not] at h; simp only [Bool.and_eq_true, Bool.not_eq_true', Bool.not_eq_false', strEq_nil_r, strEq_nil_len, zero_eq_i, decide_eq_true_eq, decide_eq_false_iff_not] at b36; omega)
            refine Tri.at (by first | (simp only [q36, b36, e, Con.start, go_sem]; rfl) | rfl) ?_
            repeat (first | ((first | refine Tri.seq (Tri.regT (cfgKY2_ok.pins _) ?_) | refine Tri.rgnT (cfgKY2_ok.pins _) ?_); (repeat (first | refine RunT.oneA (hp := by simp (maxSteps := 2000000) (disch := first | decide | omega | (simp only [List.length_append, List.length_cons, List.length_nil, List.length_take, List.length_drop]; omega)) only [b36, go_sem]; rfl) (h := ?_) | refine RunT.notA (h := ?_))); refine RunT.nil ?_; try simp only [Then]) | refine Tri.cF (by first | (simp only [go_sem]; done) | fail) ?_ | refine Tri.cT (by first | (simp only [go_sem]; done) | fail) ?_ | (refine Tri.skip ?_; try simp only [InBlock, Then]) | (refine Tri.exit ?_; simp only [Then, InBlock, if_true, if_false, ↓reduceIte, Nat.reduceEqDiff]) | refine Tri.seq (Tri.block ?_) | refine Tri.block ?_ | refine Tri.seq ?_ | (refine Tri.ret ?_; refine Con.fin (.inl rfl) (by simp only [Tryd.f77, cfgKY2, resA, resA1, go_sem]; rfl) (by simp only [Obs]) (by first | (simp only [kRRt, Con.of, resV, e, go_sem]; done) | fail) trivial rfl rfl))
          case false =>
            cases c36 : decide ((3 : Int) < fl)
            case true =>
              have e : (fdR ((2 : Int), cl, sv, no, en, fl, ti, se, co, ())).isSome = false := by
                rw [fd_2]
                rw [Bool.eq_false_iff]; intro h
                first | (rw [c36] at h; simp at h; done) | (simp only [Bool.and_eq_true, Bool.not_eq_true', Bool.not_eq_false', strEq_nil_r, strEq_nil_len, zero_eq_i, decide_eq_true_eq, decide_eq_false_iff_not] at h; simp only [Bool.and_eq_true, Bool.not_eq_true', Bool.not_eq_false', strEq_nil_r, strEq_nil_len, zero_eq_i, decide_eq_true_eq, decide_eq_false_iff_not] at c36; omega)
              refine Tri.at (by first | (simp only [q36, b36, c36, e, Con.start, go_sem]; rfl) | rfl) ?_
              repeat (first | ((first | refine Tri.seq (Tri.regT (cfgKY2_ok.pins _) ?_) | refine Tri.rgnT (cfgKY2_ok.pins _) ?_); (repeat (first | refine RunT.oneA (hp := by simp (maxSteps := 2000000) (disch := first | decide | omega | (simp only [List.length_append, List.length_cons, List.length_nil, List.length_take, List.length_drop]; omega)) only [b36, c36, go_sem]; rfl) (h := ?_) | refine RunT.notA (h := ?_))); refine RunT.nil ?_; try simp only [Then]) | refine Tri.cF (by first | (simp only [go_sem]; done) | fail) ?_ | refine Tri.cT (by first | (simp only [go_sem]; done) | fail) ?_ | (refine Tri.skip ?_; try simp only [InBlock, Then]) | (refine Tri.exit ?_; simp only [Then, InBlock, if_true, if_false, ↓reduceIte, Nat.reduceEqDiff]) | refine Tri.seq (Tri.block ?_) | refine Tri.block ?_ | refine Tri.seq ?_ | (refine Tri.ret ?_; refine Con.fin (.inl rfl) (by simp only [Tryd.f77, cfgKY2, resA, resA1, go_sem]; rfl) (by simp only [Obs]) (by first | (simp only [kRRt, Con.of, resV, e, go_sem]; done) | fail) trivial rfl rfl))
            case false =>
              refine Tri.at (by first | (simp only [q36, b36, c36, Con.start, go_sem]; rfl) | rfl) ?_
              repeat (first | ((first | refine Tri.seq (Tri.regT (cfgKY2_ok.pins _) ?_) | refine Tri.rgnT (cfgKY2_ok.pins _) ?_); (repeat (first | refine RunT.oneA (hp := by simp (maxSteps := 2000000) (disch := first | decide | omega | (simp only [List.length_append, List.length_cons, List.length_nil, List.length_take, List.length_drop]; omega)) only [q36, b36, c36, go_sem]; rfl) (h := ?_) | refine RunT.notA (h := ?_))); refine RunT.nil ?_; try simp only [Then]) | refine Tri.cF (by first | (simp only [go_sem]; done) | fail) ?_ | refine Tri.cT (by first | (simp only [go_sem]; done) | fail) ?_ | (refine Tri.skip ?_; try simp only [Then]) | (refine Tri.exit ?_; simp only [Then, InBlock, if_true, if_false, ↓reduceIte, Nat.reduceEqDiff]) | refine Tri.seq (Tri.block ?_) | refine Tri.block ?_ | refine Tri.seq ?_ | (refine Tri.ret ?_; refine Con.fin (.inl rfl) (by simp only [Tryd.f77, cfgKY2, resA, resA1, go_sem]; rfl) (by simp only [Obs, and_true, true_and]) (by first | (simp only [kRRt, Con.of, Con.ofO, resV, q36, b36, c36, go_sem]; done) | fail) trivial rfl rfl))
              cases b37 : decide ((3000 : Int) < ((ti.length : Nat) : Int))
              case true =>
                have e : (fdR ((2 : Int), cl, sv, no, en, fl, ti, se, co, ())).isSome = false := by
                  rw [fd_2]
                  rw [Bool.eq_false_iff]; intro h
                  first | (rw [b37] at h; simp at h; done) | (simp only [Bool.and_eq_true, Bool.not_eq_true', Bool.not_eq_false', strEq_nil_r, strEq_nil_len, zero_eq_i, decide_eq_true_eq, decide_eq_false_iff_not] at h; simp only [Bool.and_eq_true, Bool.not_eq_true', Bool.not_eq_false', strEq_nil_r, strEq_nil_len, zero_eq_i, decide_eq_true_eq, decide_eq_false_iff_not] at b37; omega)
                refine Tri.at (by first | (simp only [q37, q38, b37, e, Con.start, go_sem]; rfl) | rfl) ?_
                repeat (first | ((first | refine Tri.seq (Tri.regT (cfgKY2_ok.pins _) ?_) | refine Tri.rgnT (cfgKY2_ok.pins _) ?_); (repeat (first | refine RunT.oneA (hp := by simp (maxSteps := 2000000) (disch := first | decide | omega | (simp only [List.length_append, List.length_cons, List.length_nil, List.length_take, List.length_drop]; omega)) only [b37, go_sem]; rfl) (h := ?_) | refine RunT.notA (h := ?_))); refine RunT.nil ?_; try simp only [Then]) | refine Tri.cF (by first | (simp only [go_sem]; done) | fail) ?_ | refine Tri.cT (by first | (simp only [go_sem]; done) | fail) ?_ | (refine Tri.skip ?_; try simp only [InBlock, Then]) | (refine Tri.exit ?_; simp only [Then, InBlock, if_true, if_false, ↓reduceIte, Nat.reduceEqDiff]) | refine Tri.seq (Tri.block ?_) | refine Tri.block ?_ | refine Tri.seq ?_ | (refine Tri.ret ?_; refine Con.fin (.inl rfl) (by simp only [Tryd.f77, cfgKY2, resA, resA1, go_sem]; rfl) (by simp only [Obs]) (by first | (simp only [kRRt, Con.of, resV, e, go_sem]; done) | fail) trivial rfl rfl))
              case false =>
                cases b38 : decide ((3000 : Int) < ((se.length : Nat) : Int))
                case true =>
                  have e : (fdR ((2 : Int), cl, sv, no, en, fl, ti, se, co, ())).isSome = false := by
                    rw [fd_2]
                    rw [Bool.eq_false_iff]; intro h
                    first | (rw [b38] at h; simp at h; done) | (simp only [Bool.and_eq_true, Bool.not_eq_true', Bool.not_eq_false', strEq_nil_r, strEq_nil_len, zero_eq_i, decide_eq_true_eq, decide_eq_false_iff_not] at h; simp only [Bool.and_eq_true, Bool.not_eq_true', Bool.not_eq_false', strEq_nil_r, strEq_nil_len, zero_eq_i, decide_eq_true_eq, decide_eq_false_iff_not] at b38; omega)
                  refine Tri.at (by first | (simp only [q37, q38, b37, b38, e, Con.start, go_sem]; rfl) | rfl) ?_
                  repeat (first | ((first | refine Tri.seq (Tri.regT (cfgKY2_ok.pins _) ?_) | refine Tri.rgnT (cfgKY2_ok.pins _) ?_); (repeat (first | refine RunT.oneA (hp := by simp (maxSteps := 2000000) (disch := first | decide | omega | (simp only [List.length_append, List.length_cons, List.length_nil, List.length_take, List.length_drop]; omega)) only [q37, b37, b38, go_sem]; rfl) (h := ?_) | refine RunT.notA (h := ?_))); refine RunT.nil ?_; try simp only [Then]) | refine Tri.cF (by first | (simp only [go_sem]; done) | fail) ?_ | refine Tri.cT (by first | (simp only [go_sem]; done) | fail) ?_ | (refine Tri.skip ?_; try simp only [InBlock, Then]) | (refine Tri.exit ?_; simp only [Then, InBlock, if_true, if_false, ↓reduceIte, Nat.reduceEqDiff]) | refine Tri.seq (Tri.block ?_) | refine Tri.block ?_ | refine Tri.seq ?_ | (refine Tri.ret ?_; refine Con.fin (.inl rfl) (by simp only [Tryd.f77, cfgKY2, resA, resA1, go_sem]; rfl) (by simp only [Obs]) (by first | (simp only [kRRt, Con.of, resV, e, go_sem]; done) | fail) trivial rfl rfl))
                case false =>
                  refine Tri.at (by first | (simp only [q37, q38, b37, b38, Con.start, go_sem]; rfl) | rfl) ?_
                  repeat (first | ((first | refine Tri.seq (Tri.regT (cfgKY2_ok.pins _) ?_) | refine Tri.rgnT (cfgKY2_ok.pins _) ?_); (repeat (first | refine RunT.oneA (hp := by simp (maxSteps := 2000000) (disch := first | decide | omega | (simp only [List.length_append, List.length_cons, List.length_nil, List.length_take, List.length_drop]; omega)) only [q37, q38, b37, b38, go_sem]; rfl) (h := ?_) | refine RunT.notA (h := ?_))); refine RunT.nil ?_; try simp only [Then]) | refine Tri.cF (by first | (simp only [go_sem]; done) | fail) ?_ | refine Tri.cT (by first | (simp only [go_sem]; done) | fail) ?_ | (refine Tri.skip ?_; try simp only [Then]) | (refine Tri.exit ?_; simp only [Then, InBlock, if_true, if_false, ↓reduceIte, Nat.reduceEqDiff]) | refine Tri.seq (Tri.block ?_) | refine Tri.block ?_ | refine Tri.seq ?_ | (refine Tri.ret ?_; refine Con.fin (.inl rfl) (by simp only [Tryd.f77, cfgKY2, resA, resA1, go_sem]; rfl) (by simp only [Obs, and_true, true_and]) (by first | (simp only [kRRt, Con.of, Con.ofO, resV, q37, q38, b37, b38, go_sem]; done) | fail) trivial rfl rfl))
                  cases d39 : decide (co = 0)
                  case false =>
                    have e : (fdR ((2 : Int), cl, sv, no, en, fl, ti, se, co, ())).isSome = false := by
                      rw [fd_2]
                      rw [Bool.eq_false_iff]; intro h
                      first | (rw [d39] at h; simp at h; done) | (simp only [Bool.and_eq_true, Bool.not_eq_true', strEq_nil_len, zero_eq_i, decide_eq_true_eq, decide_eq_false_iff_not] at h; simp only [decide_eq_false_iff_not] at d39; omega)
                    refine Tri.at (by first | (simp only [q39, go_sem]; rfl) | rfl) ?_
                    repeat (first | ((first | refine Tri.seq (Tri.regT (cfgKY2_ok.pins _) ?_) | refine Tri.rgnT (cfgKY2_ok.pins _) ?_); (repeat (first | refine RunT.oneA (hp := by simp (maxSteps := 2000000) (disch := first | decide | omega | (simp only [List.length_append, List.length_cons, List.length_nil, List.length_take, List.length_drop]; omega)) only [d39, go_sem]; rfl) (h := ?_) | refine RunT.notA (h := ?_))); refine RunT.nil ?_; try simp only [InBlock, Then]) | refine Tri.cF (by first | (simp only [go_sem]; done) | fail) ?_ | refine Tri.cT (by first | (simp only [go_sem]; done) | fail) ?_ | (refine Tri.skip ?_; try simp only [Then]) | (refine Tri.exit ?_; simp only [Then, InBlock, if_true, if_false, ↓reduceIte, Nat.reduceEqDiff]) | refine Tri.seq (Tri.block ?_) | refine Tri.block ?_ | refine Tri.seq ?_ | (refine Tri.ret ?_; refine Con.fin (.inl rfl) (by simp only [Tryd.f77, cfgKY2, resA, resA1, go_sem]; rfl) (by simp only [Obs]) (by first | (simp only [kRRt, Con.of, resV, e, go_sem]; done) | fail) trivial rfl rfl))
                  case true =>
                    have e : (fdR ((2 : Int), cl, sv, no, en, fl, ti, se, co, ())).isSome = true := by
                      rw [fd_2]
                      simp only [Bool.and_eq_true, Bool.not_eq_true', strEq_nil_r, strEq_nil_len, zero_eq_i, decide_eq_true_eq, decide_eq_false_iff_not] at a32 a33 b35 c35 b36 c36 b37 b38 d39 ⊢
                      repeat' apply And.intro
                      all_goals first | assumption | omega
                    refine Tri.at (by first | (simp only [q39, go_sem]; rfl) | rfl) ?_
                    repeat (first | ((first | refine Tri.seq (Tri.regT (cfgKY2_ok.pins _) ?_) | refine Tri.rgnT (cfgKY2_ok.pins _) ?_); (repeat (first | refine RunT.oneA (hp := by simp (maxSteps := 2000000) (disch := first | decide | omega | (simp only [List.length_append, List.length_cons, List.length_nil, List.length_take, List.length_drop]; omega)) only [d39, go_sem]; rfl) (h := ?_) | refine RunT.notA (h := ?_))); refine RunT.nil ?_; try simp only [InBlock, Then]) | refine Tri.cF (by first | (simp only [go_sem]; done) | fail) ?_ | refine Tri.cT (by first | (simp only [go_sem]; done) | fail) ?_ | (refine Tri.skip ?_; try simp only [Then]) | (refine Tri.exit ?_; simp only [Then, InBlock, if_true, if_false, ↓reduceIte, Nat.reduceEqDiff]) | refine Tri.seq (Tri.block ?_) | refine Tri.block ?_ | refine Tri.seq ?_ | (refine Tri.ret ?_; refine Con.fin (.inl rfl) (by simp only [Tryd.f77, cfgKY2, resA, resA1, go_sem]; rfl) (by simp only [Obs]) (by first | (simp only [kRRt, Con.of, resV, e, go_sem]; done) | fail) trivial rfl rfl))
end
end Go.Proofs.YtjdeaphfamenaaaDoor
