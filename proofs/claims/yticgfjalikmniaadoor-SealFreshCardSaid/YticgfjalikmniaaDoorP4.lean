/- Part of a proof: Keys that are drawn by symbols are all unlike -/
import Derived.Test.YticgfjalikmniaaDoorP3
set_option linter.unusedVariables false
set_option linter.unusedSimpArgs false
set_option linter.unusedSectionVars false
namespace Go.Proofs.YticgfjalikmniaaDoor
open Go.Vc Go.Proofs
set_option maxRecDepth 10000
set_option maxHeartbeats 4000000
def kFnd : Con := Con.ofO [.o slF, .a (.v k16), .a (.v (.int .i64)), .a (.v (.slice false (.int .u8)))] [] (fun x => [x.1.2.2.2.2.1.i = 0, x.1.2.2.2.2.1.len = x.1.2.2.2.2.1.N, List.length (α := tmK.T) x.1.2.2.2.2.1.xs = x.1.2.2.2.2.1.N, x.1.2.2.2.2.1.N ≤ 1000000, List.length (α := UInt8) x.2.1 = 16, List.length (α := UInt8) x.2.2.2.1 ≤ 100000, ∀ t ∈ x.1.2.2.2.2.1.xs, tmOK t])
  (fun x => ⟨.tuple [.pure (.slice true (.int .u8)) (opB ((slM x.1).fnd x.2.1 x.2.2.1 x.2.2.2.1)), .int .i64 (opE ((slM x.1).fnd x.2.1 x.2.2.1 x.2.2.2.1))], [.agg [.bool (slM x.1).sy, .pure k16 (slM x.1).seed, .int .u64 (slM x.1).dr, .int .u64 (slM x.1).cn, .tsl 1 [] 0 0 18 (List.length (α := tmK.T) (slM x.1).ts)], .pure (.arr (List.length (α := tmK.T) (slM x.1).ts) tmK) (slM x.1).ts]⟩)
def cfgSC : Cfg2 := { ty := tyTabS, fn := fun | 47 => some kClo.sum | 52 => some kNb.sum | _ => none, G := shaG, pin := [], eq := eqS }
theorem cfgSC_ok : CfgOK Tryd.prog cfgSC := ⟨tyTabS_ok, (fun f s h => by
  simp only [cfgSC] at h
  split at h
  · injection h with h; subst h; exact .inl clo_sum
  · injection h with h; subst h; exact .inl number_sum
  · cases h), eqS_ok⟩
section
attribute [local go_sem] Tryd.f51 kFnd kClo kNb cfgSC tyTabS eqS ssM_eta
theorem find_body (p : kFnd.Par) (hp : ∀ q ∈ kFnd.pre p, q) : BodyOK Tryd.prog cfgSC Tryd.f51 (Tryd.f51.body.get rfl) kFnd p := by
  obtain ⟨⟨(sy : Bool), (seed : List UInt8), (dr : UInt64), (cn : UInt64), ⟨N, i0, len, (ts : List tmK.T)⟩, u1⟩, (key : List UInt8), (us : Int), (b : List UInt8), u⟩ := p
  obtain ⟨h0, h1, h2, h3, h4, h5, h6, _⟩ := Obs.of hp
  replace h0 : i0 = 0 := h0
  replace h1 : len = N := h1
  replace h2 : ts.length = N := h2
  replace h3 : N ≤ 1000000 := h3
  replace h4 : key.length = 16 := h4
  replace h5 : b.length ≤ 100000 := h5
  replace h6 : ∀ t ∈ ts, tmOK t := h6
  subst h0 h1 h2
  refine ⟨?_, Nat.le_refl _, rfl, rfl⟩
  show Tri _ _ _ (Code.seq _ (Code.seq (Code.seq _ (Code.cond _ (Code.seq _ _) _)) (Code.seq _ (Code.seq (Code.seq _ (Code.cond _ (Code.seq _ _) _)) (Code.seq _ _))))) _
  by_cases k1 : b.length = 9
  rotate_left
  · have k1' : decide ((b.length : Int) = 9) = false := decide_eq_false (by omega)
    have e1 : (ssM sy seed dr cn ts).fnd key us b = none := if_neg k1
    refine Tri.at (by first | (simp only [k1', Con.start, go_sem]; rfl) | rfl) ?_
    repeat (first | ((first | refine Tri.seq (Tri.regT (cfgSC_ok.pins _) ?_) | refine Tri.rgnT (cfgSC_ok.pins _) ?_); (repeat (first | refine RunT.oneA (hp := by simp (maxSteps := 2000000) (disch := first | decide | omega | (simp only [List.length_append, List.length_cons, List.length_nil, List.length_take, List.length_drop]; omega)) only [k1', go_sem]; rfl) (h := ?_) | refine RunT.notA (h := ?_))); refine RunT.nil ?_; try simp only [InBlock, Then]) | refine Tri.cF (by first | (simp only [k1', go_sem]; done) | fail) ?_ | refine Tri.cT (by first | (simp only [k1', go_sem]; done) | fail) ?_ | (refine Tri.skip ?_; try simp only [InBlock, Then]) | (refine Tri.exit ?_; simp only [Then, InBlock, if_true, if_false, ↓reduceIte, Nat.reduceEqDiff]) | refine Tri.seq (Tri.block ?_) | refine Tri.block ?_ | refine Tri.seq ?_ | (refine Tri.ret ?_; refine Con.fin (.inl rfl) (by simp only [Tryd.f51, cfgSC, resA, resA1, go_sem]; rfl) (by simp only [Obs, and_true, true_and]) (by first | (simp only [kFnd, Con.of, Con.ofO, resV, k1', go_sem]; done) | fail) trivial rfl rfl))
    refine Tri.phT 8 (.int .u8) 1 rfl rfl ?_
    refine Tri.at (by first | (simp only [k1', Con.start, go_sem]; rfl) | rfl) ?_
    refine Tri.rel true 3 rfl ?_ rfl rfl ?_
    · simp only [AS.blk, go_sem]
      repeat' constructor
    refine Tri.at (by first | (simp only [k1', Con.start, go_sem]; rfl) | rfl) ?_
    refine Tri.ret ?_
    refine Con.fin (.inl rfl) (by simp only [Tryd.f51, cfgSC, resA, resA1, go_sem]; rfl) (by simp only [Obs, and_true, true_and]) ?_ ?_ rfl rfl
    · show AV.tuple [.pure (.slice true (.int .u8)) ([] : List UInt8), .int .i64 (40 : Int)] = AV.tuple [.pure (.slice true (.int .u8)) (opB ((ssM sy seed dr cn ts).fnd key us b)), .int .i64 (opE ((ssM sy seed dr cn ts).fnd key us b))]
      rw [e1]
      rfl
    · exact ⟨rfl, rfl, trivial⟩
  have k1' : decide ((b.length : Int) = 9) = true := decide_eq_true (by omega)
  by_cases k2 : b.getD 0 0 = 83
  rotate_left
  · have k2' : decide (b.getD 0 0 = 83) = false := decide_eq_false k2
    have e1 : (ssM sy seed dr cn ts).fnd key us b = none := (if_pos k1).trans (if_neg k2)
    refine Tri.at (by first | (simp only [k1', k2', Con.start, go_sem]; rfl) | rfl) ?_
    repeat (first | ((first | refine Tri.seq (Tri.regT (cfgSC_ok.pins _) ?_) | refine Tri.rgnT (cfgSC_ok.pins _) ?_); (repeat (first | refine RunT.oneA (hp := by simp (maxSteps := 2000000) (disch := first | decide | omega | (simp only [List.length_append, List.length_cons, List.length_nil, List.length_take, List.length_drop]; omega)) only [k1', k2', go_sem]; rfl) (h := ?_) | refine RunT.notA (h := ?_))); refine RunT.nil ?_; try simp only [InBlock, Then]) | refine Tri.cF (by first | (simp only [k1', k2', go_sem]; done) | fail) ?_ | refine Tri.cT (by first | (simp only [k1', k2', go_sem]; done) | fail) ?_ | (refine Tri.skip ?_; try simp only [InBlock, Then]) | (refine Tri.exit ?_; simp only [Then, InBlock, if_true, if_false, ↓reduceIte, Nat.reduceEqDiff]) | refine Tri.seq (Tri.block ?_) | refine Tri.block ?_ | refine Tri.seq ?_ | (refine Tri.ret ?_; refine Con.fin (.inl rfl) (by simp only [Tryd.f51, cfgSC, resA, resA1, go_sem]; rfl) (by simp only [Obs, and_true, true_and]) (by first | (simp only [kFnd, Con.of, Con.ofO, resV, k1', k2', go_sem]; done) | fail) trivial rfl rfl))
    refine Tri.phT 8 (.int .u8) 1 rfl rfl ?_
    refine Tri.at (by first | (simp only [k1', k2', Con.start, go_sem]; rfl) | rfl) ?_
    refine Tri.rel true 3 rfl ?_ rfl rfl ?_
    · simp only [AS.blk, go_sem]
      repeat' constructor
    refine Tri.at (by first | (simp only [k1', k2', Con.start, go_sem]; rfl) | rfl) ?_
    refine Tri.ret ?_
    refine Con.fin (.inl rfl) (by simp only [Tryd.f51, cfgSC, resA, resA1, go_sem]; rfl) (by simp only [Obs, and_true, true_and]) ?_ ?_ rfl rfl
    · show AV.tuple [.pure (.slice true (.int .u8)) ([] : List UInt8), .int .i64 (40 : Int)] = AV.tuple [.pure (.slice true (.int .u8)) (opB ((ssM sy seed dr cn ts).fnd key us b)), .int .i64 (opE ((ssM sy seed dr cn ts).fnd key us b))]
      rw [e1]
      rfl
    · exact ⟨rfl, rfl, trivial⟩
  have k2' : decide (b.getD 0 0 = 83) = true := decide_eq_true k2
  have b1 : List.take (b.length - 1) (List.drop 1 b) = List.drop 1 b := List.take_of_length_le (by rw [List.length_drop]; exact Nat.le_refl _)
  generalize hn : nb (List.drop 1 b) = n
  have hd : (UInt64.ofInt (ts.length : Int)).toNat = ts.length := by
    exact u64_nat (by omega)
  have e0 : (ssM sy seed dr cn ts).fnd key us b = if n.toNat < ts.length then if (ts.getD n.toNat (Kd.dflt tmK)).1 = key then if (ts.getD n.toNat (Kd.dflt tmK)).2.1 = us then some (ts.getD n.toNat (Kd.dflt tmK)).2.2.1 else none else none else none := by
    rw [← hn]
    exact (if_pos k1).trans (if_pos k2)
  by_cases k3 : n.toNat < ts.length
  rotate_left
  · have k3' : decide (n < UInt64.ofInt (ts.length : Int)) = false := decide_eq_false (by rw [UInt64.lt_iff_toNat_lt, hd]; exact k3)
    have e1 : (ssM sy seed dr cn ts).fnd key us b = none := e0.trans (if_neg k3)
    refine Tri.at (by first | (simp only [k1', k2', k3', b1, hn, Con.start, go_sem]; rfl) | rfl) ?_
    repeat (first | ((first | refine Tri.seq (Tri.regT (cfgSC_ok.pins _) ?_) | refine Tri.rgnT (cfgSC_ok.pins _) ?_); (repeat (first | refine RunT.oneA (hp := by simp (maxSteps := 2000000) (disch := first | decide | omega | (simp only [List.length_append, List.length_cons, List.length_nil, List.length_take, List.length_drop]; omega)) only [k1', k2', k3', b1, hn, go_sem]; rfl) (h := ?_) | refine RunT.notA (h := ?_))); refine RunT.nil ?_; try simp only [InBlock, Then]) | ((first | refine Tri.seq (Tri.drwT (mixed) (cfgSC_ok.pins _) ?_) | refine Tri.drnT (mixed) (cfgSC_ok.pins _) ?_); (repeat (first | refine RunD.oneA (hp := by simp (maxSteps := 2000000) (disch := first | decide | omega | (simp only [List.length_append, List.length_cons, List.length_nil, List.length_take, List.length_drop]; omega)) only [k1', k2', k3', b1, hn, go_sem]; rfl) (h := ?_) | refine RunD.notA (h := ?_))); refine RunD.nil ?_; refine ⟨by kernel_rfl, ?_⟩; try simp only [InBlock, Then]) | refine Tri.cF (by first | (simp only [k1', k2', k3', b1, hn, go_sem]; done) | fail) ?_ | refine Tri.cT (by first | (simp only [k1', k2', k3', b1, hn, go_sem]; done) | fail) ?_ | (refine Tri.skip ?_; try simp only [InBlock, Then]) | (refine Tri.exit ?_; simp only [Then, InBlock, if_true, if_false, ↓reduceIte, Nat.reduceEqDiff]) | refine Tri.seq (Tri.block ?_) | refine Tri.block ?_ | refine Tri.seq ?_ | (refine Tri.ret ?_; refine Con.fin (.inl rfl) (by simp only [Tryd.f51, cfgSC, resA, resA1, go_sem]; rfl) (by simp only [Obs, and_true, true_and]) (by first | (simp only [kFnd, Con.of, Con.ofO, resV, k1', k2', k3', b1, hn, go_sem]; done) | fail) trivial rfl rfl))
    refine Tri.phT 8 (.int .u8) 1 rfl rfl ?_
    refine Tri.at (by first | (simp only [k1', k2', k3', b1, hn, Con.start, go_sem]; rfl) | rfl) ?_
    refine Tri.rel true 3 rfl ?_ rfl rfl ?_
    · simp only [AS.blk, go_sem]
      repeat' constructor
    refine Tri.at (by first | (simp only [k1', k2', k3', b1, hn, Con.start, go_sem]; rfl) | rfl) ?_
    refine Tri.ret ?_
    refine Con.fin (.inl rfl) (by simp only [Tryd.f51, cfgSC, resA, resA1, go_sem]; rfl) (by simp only [Obs, and_true, true_and]) ?_ ?_ rfl rfl
    · show AV.tuple [.pure (.slice true (.int .u8)) ([] : List UInt8), .int .i64 (40 : Int)] = AV.tuple [.pure (.slice true (.int .u8)) (opB ((ssM sy seed dr cn ts).fnd key us b)), .int .i64 (opE ((ssM sy seed dr cn ts).fnd key us b))]
      rw [e1]
      rfl
    · exact ⟨rfl, rfl, trivial⟩
  have k3' : decide (n < UInt64.ofInt (ts.length : Int)) = true := decide_eq_true (by rw [UInt64.lt_iff_toNat_lt, hd]; exact k3)
  replace e0 : (ssM sy seed dr cn ts).fnd key us b = if n.toNat < ts.length then if (ts.getD n.toNat ([0, 0, 0, 0, 0, 0, 0, 0, 0, 0, 0, 0, 0, 0, 0, 0], 0, [], ())).1 = key then if (ts.getD n.toNat ([0, 0, 0, 0, 0, 0, 0, 0, 0, 0, 0, 0, 0, 0, 0, 0], 0, [], ())).2.1 = us then some (ts.getD n.toNat ([0, 0, 0, 0, 0, 0, 0, 0, 0, 0, 0, 0, 0, 0, 0, 0], 0, [], ())).2.2.1 else none else none else none := e0
  generalize ht : ts.getD n.toNat ([0, 0, 0, 0, 0, 0, 0, 0, 0, 0, 0, 0, 0, 0, 0, 0], 0, [], ()) = t at e0
  obtain ⟨(tk : List UInt8), (tu : Int), (tp : List UInt8), u9⟩ := t
  replace e0 := e0.trans (if_pos k3)
  by_cases k4 : tk = key
  rotate_left
  · have k4' : eqT k16 tk key = false := decide_eq_false k4
    have e1 : (ssM sy seed dr cn ts).fnd key us b = none := e0.trans (if_neg k4)
    refine Tri.at (by first | (simp only [k1', k2', k3', b1, hn, ht, k4', Con.start, go_sem]; rfl) | rfl) ?_
    repeat (first | ((first | refine Tri.seq (Tri.regT (cfgSC_ok.pins _) ?_) | refine Tri.rgnT (cfgSC_ok.pins _) ?_); (repeat (first | refine RunT.oneA (hp := by simp (maxSteps := 2000000) (disch := first | decide | omega | (simp only [List.length_append, List.length_cons, List.length_nil, List.length_take, List.length_drop]; omega)) only [k1', k2', k3', b1, hn, ht, k4', go_sem]; rfl) (h := ?_) | refine RunT.notA (h := ?_))); refine RunT.nil ?_; try simp only [InBlock, Then]) | ((first | refine Tri.seq (Tri.drwT (mixed) (cfgSC_ok.pins _) ?_) | refine Tri.drnT (mixed) (cfgSC_ok.pins _) ?_); (repeat (first | refine RunD.oneA (hp := by simp (maxSteps := 2000000) (disch := first | decide | omega | (simp only [List.length_append, List.length_cons, List.length_nil, List.length_take, List.length_drop]; omega)) only [k1', k2', k3', b1, hn, ht, k4', go_sem]; rfl) (h := ?_) | refine RunD.notA (h := ?_))); refine RunD.nil ?_; refine ⟨by kernel_rfl, ?_⟩; try simp only [InBlock, Then]) | refine Tri.cF (by first | (simp only [k1', k2', k3', b1, hn, ht, k4', go_sem]; done) | fail) ?_ | refine Tri.cT (by first | (simp only [k1', k2', k3', b1, hn, ht, k4', go_sem]; done) | fail) ?_ | (refine Tri.skip ?_; try simp only [InBlock, Then]) | (refine Tri.exit ?_; simp only [Then, InBlock, if_true, if_false, ↓reduceIte, Nat.reduceEqDiff]) | refine Tri.seq (Tri.block ?_) | refine Tri.block ?_ | refine Tri.seq ?_ | (refine Tri.ret ?_; refine Con.fin (.inl rfl) (by simp only [Tryd.f51, cfgSC, resA, resA1, go_sem]; rfl) (by simp only [Obs, and_true, true_and]) (by first | (simp only [kFnd, Con.of, Con.ofO, resV, k1', k2', k3', b1, hn, ht, k4', go_sem]; done) | fail) trivial rfl rfl))
    refine Tri.phT 8 (.int .u8) 1 rfl rfl ?_
    refine Tri.at (by first | (simp only [k1', k2', k3', b1, hn, ht, k4', Con.start, go_sem]; rfl) | rfl) ?_
    refine Tri.rel true 3 rfl ?_ rfl rfl ?_
    · simp only [AS.blk, go_sem]
      repeat' constructor
    refine Tri.at (by first | (simp only [k1', k2', k3', b1, hn, ht, k4', Con.start, go_sem]; rfl) | rfl) ?_
    refine Tri.ret ?_
    refine Con.fin (.inl rfl) (by simp only [Tryd.f51, cfgSC, resA, resA1, go_sem]; rfl) (by simp only [Obs, and_true, true_and]) ?_ ?_ rfl rfl
    · show AV.tuple [.pure (.slice true (.int .u8)) ([] : List UInt8), .int .i64 (40 : Int)] = AV.tuple [.pure (.slice true (.int .u8)) (opB ((ssM sy seed dr cn ts).fnd key us b)), .int .i64 (opE ((ssM sy seed dr cn ts).fnd key us b))]
      rw [e1]
      rfl
    · exact ⟨rfl, rfl, trivial⟩
  have k4' : eqT k16 tk key = true := decide_eq_true k4
  replace e0 := e0.trans (if_pos k4)
  by_cases k5 : tu = us
  rotate_left
  · have k5' : decide (tu = us) = false := decide_eq_false k5
    have e1 : (ssM sy seed dr cn ts).fnd key us b = none := e0.trans (if_neg k5)
    refine Tri.at (by first | (simp only [k1', k2', k3', b1, hn, ht, k4', k5', Con.start, go_sem]; rfl) | rfl) ?_
    repeat (first | ((first | refine Tri.seq (Tri.regT (cfgSC_ok.pins _) ?_) | refine Tri.rgnT (cfgSC_ok.pins _) ?_); (repeat (first | refine RunT.oneA (hp := by simp (maxSteps := 2000000) (disch := first | decide | omega | (simp only [List.length_append, List.length_cons, List.length_nil, List.length_take, List.length_drop]; omega)) only [k1', k2', k3', b1, hn, ht, k4', k5', go_sem]; rfl) (h := ?_) | refine RunT.notA (h := ?_))); refine RunT.nil ?_; try simp only [InBlock, Then]) | ((first | refine Tri.seq (Tri.drwT (mixed) (cfgSC_ok.pins _) ?_) | refine Tri.drnT (mixed) (cfgSC_ok.pins _) ?_); (repeat (first | refine RunD.oneA (hp := by simp (maxSteps := 2000000) (disch := first | decide | omega | (simp only [List.length_append, List.length_cons, List.length_nil, List.length_take, List.length_drop]; omega)) only [k1', k2', k3', b1, hn, ht, k4', k5', go_sem]; rfl) (h := ?_) | refine RunD.notA (h := ?_))); refine RunD.nil ?_; refine ⟨by kernel_rfl, ?_⟩; try simp only [InBlock, Then]) | refine Tri.cF (by first | (simp only [k1', k2', k3', b1, hn, ht, k4', k5', go_sem]; done) | fail) ?_ | refine Tri.cT (by first | (simp only [k1', k2', k3', b1, hn, ht, k4', k5', go_sem]; done) | fail) ?_ | (refine Tri.skip ?_; try simp only [InBlock, Then]) | (refine Tri.exit ?_; simp only [Then, InBlock, if_true, if_false, ↓reduceIte, Nat.reduceEqDiff]) | refine Tri.seq (Tri.block ?_) | refine Tri.block ?_ | refine Tri.seq ?_ | (refine Tri.ret ?_; refine Con.fin (.inl rfl) (by simp only [Tryd.f51, cfgSC, resA, resA1, go_sem]; rfl) (by simp only [Obs, and_true, true_and]) (by first | (simp only [kFnd, Con.of, Con.ofO, resV, k1', k2', k3', b1, hn, ht, k4', k5', go_sem]; done) | fail) trivial rfl rfl))
    refine Tri.phT 8 (.int .u8) 1 rfl rfl ?_
    refine Tri.at (by first | (simp only [k1', k2', k3', b1, hn, ht, k4', k5', Con.start, go_sem]; rfl) | rfl) ?_
    refine Tri.rel true 3 rfl ?_ rfl rfl ?_
    · simp only [AS.blk, go_sem]
      repeat' constructor
    refine Tri.at (by first | (simp only [k1', k2', k3', b1, hn, ht, k4', k5', Con.start, go_sem]; rfl) | rfl) ?_
    refine Tri.ret ?_
    refine Con.fin (.inl rfl) (by simp only [Tryd.f51, cfgSC, resA, resA1, go_sem]; rfl) (by simp only [Obs, and_true, true_and]) ?_ ?_ rfl rfl
    · show AV.tuple [.pure (.slice true (.int .u8)) ([] : List UInt8), .int .i64 (40 : Int)] = AV.tuple [.pure (.slice true (.int .u8)) (opB ((ssM sy seed dr cn ts).fnd key us b)), .int .i64 (opE ((ssM sy seed dr cn ts).fnd key us b))]
      rw [e1]
      rfl
    · exact ⟨rfl, rfl, trivial⟩
  have k5' : decide (tu = us) = true := decide_eq_true k5
  have e1 : (ssM sy seed dr cn ts).fnd key us b = some tp := e0.trans (if_pos k5)
  have hp : tp.length ≤ 2000 := by
    have h7 : (tk, tu, tp, u9) ∈ ts := by
      rw [← ht, List.getD_eq_getElem?_getD, List.getElem?_eq_getElem k3]
      exact List.getElem_mem k3
    exact h6 _ h7
  refine Tri.at (by first | (simp only [k1', k2', k3', b1, hn, ht, k4', k5', Con.start, go_sem]; rfl) | rfl) ?_
  repeat (first | ((first | refine Tri.seq (Tri.regT (cfgSC_ok.pins _) ?_) | refine Tri.rgnT (cfgSC_ok.pins _) ?_); (repeat (first | refine RunT.oneA (hp := by simp (maxSteps := 2000000) (disch := first | decide | omega | (simp only [List.length_append, List.length_cons, List.length_nil, List.length_take, List.length_drop]; omega)) only [k1', k2', k3', b1, hn, ht, k4', k5', go_sem]; rfl) (h := ?_) | refine RunT.notA (h := ?_))); refine RunT.nil ?_; try simp only [InBlock, Then]) | ((first | refine Tri.seq (Tri.drwT (mixed) (cfgSC_ok.pins _) ?_) | refine Tri.drnT (mixed) (cfgSC_ok.pins _) ?_); (repeat (first | refine RunD.oneA (hp := by simp (maxSteps := 2000000) (disch := first | decide | omega | (simp only [List.length_append, List.length_cons, List.length_nil, List.length_take, List.length_drop]; omega)) only [k1', k2', k3', b1, hn, ht, k4', k5', go_sem]; rfl) (h := ?_) | refine RunD.notA (h := ?_))); refine RunD.nil ?_; refine ⟨by kernel_rfl, ?_⟩; try simp only [InBlock, Then]) | refine Tri.cF (by first | (simp only [k1', k2', k3', b1, hn, ht, k4', k5', go_sem]; done) | fail) ?_ | refine Tri.cT (by first | (simp only [k1', k2', k3', b1, hn, ht, k4', k5', go_sem]; done) | fail) ?_ | (refine Tri.skip ?_; try simp only [InBlock, Then]) | (refine Tri.exit ?_; simp only [Then, InBlock, if_true, if_false, ↓reduceIte, Nat.reduceEqDiff]) | refine Tri.seq (Tri.block ?_) | refine Tri.block ?_ | refine Tri.seq ?_ | (refine Tri.ret ?_; refine Con.fin (.inl rfl) (by simp only [Tryd.f51, cfgSC, resA, resA1, go_sem]; rfl) (by simp only [Obs, and_true, true_and]) (by first | (simp only [kFnd, Con.of, Con.ofO, resV, k1', k2', k3', b1, hn, ht, k4', k5', go_sem]; done) | fail) trivial rfl rfl))
  refine Tri.ret ?_
  refine Con.fin (.inl rfl) (by simp only [Tryd.f51, cfgSC, resA, resA1, go_sem]; rfl) (by simp only [Obs, and_true, true_and]) ?_ ?_ rfl rfl
  · show AV.tuple [.pure (.slice true (.int .u8)) tp, .int .i64 (0 : Int)] = AV.tuple [.pure (.slice true (.int .u8)) (opB ((ssM sy seed dr cn ts).fnd key us b)), .int .i64 (opE ((ssM sy seed dr cn ts).fnd key us b))]
    rw [e1]
    rfl
  · exact ⟨rfl, rfl, trivial⟩
theorem find_sum : FSumOK Tryd.prog cfgSC.G 51 kFnd.sum := Con.sumOK cfgSC_ok kFnd Tryd.func51 rfl rfl (Con.ofO_inv _ _ _ _) find_body
end
def kOpn : Con := Con.ofO [.o slF, .a (.v k16), .a (.v (.int .i64)), .a (.v (.slice false (.int .u8)))] [] (fun x => [x.1.2.2.2.2.1.i = 0, x.1.2.2.2.2.1.len = x.1.2.2.2.2.1.N, List.length (α := tmK.T) x.1.2.2.2.2.1.xs = x.1.2.2.2.2.1.N, x.1.2.2.2.2.1.N ≤ 1000000, List.length (α := UInt8) x.2.1 = 16, List.length (α := UInt8) x.2.2.2.1 ≤ 100000, ∀ t ∈ x.1.2.2.2.2.1.xs, tmOK t])
  (fun x => ⟨.tuple [.pure (.slice true (.int .u8)) (opB ((slM x.1).opn x.2.1 x.2.2.1 x.2.2.2.1)), .int .i64 (opE ((slM x.1).opn x.2.1 x.2.2.1 x.2.2.2.1))], [.agg [.bool (slM x.1).sy, .pure k16 (slM x.1).seed, .int .u64 (slM x.1).dr, .int .u64 (slM x.1).cn, .tsl 1 [] 0 0 18 (List.length (α := tmK.T) (slM x.1).ts)], .pure (.arr (List.length (α := tmK.T) (slM x.1).ts) tmK) (slM x.1).ts]⟩)
def cfgSD : Cfg2 := { ty := tyTabS, fn := fun | 51 => some kFnd.sum | 52 => some kNb.sum | 26 => some kEq.sum | 49 => some kStr.sum | 50 => some kTag.sum | _ => none, G := shaG, pin := [], eq := eqS }
theorem cfgSD_ok : CfgOK Tryd.prog cfgSD := ⟨tyTabS_ok, (fun f s h => by
  simp only [cfgSD] at h
  split at h
  · injection h with h; subst h; exact .inl find_sum
  · injection h with h; subst h; exact .inl number_sum
  · injection h with h; subst h; exact .inl equal_sum
  · injection h with h; subst h; exact .inl str_sum
  · injection h with h; subst h; exact .inl tag_sum
  · cases h), eqS_ok⟩
section
attribute [local go_sem] Tryd.f34 kOpn kFnd kNb kEq kStr kTag cfgSD tyTabS eqS ssM_eta
theorem open_body (p : kOpn.Par) (hp : ∀ q ∈ kOpn.pre p, q) : BodyOK Tryd.prog cfgSD Tryd.f34 (Tryd.f34.body.get rfl) kOpn p := by
  obtain ⟨⟨(sy : Bool), (seed : List UInt8), (dr : UInt64), (cn : UInt64), ⟨N, i0, len, (ts : List tmK.T)⟩, u1⟩, (key : List UInt8), (us : Int), (b : List UInt8), u⟩ := p
  obtain ⟨h0, h1, h2, h3, h4, h5, h6, _⟩ := Obs.of hp
  replace h0 : i0 = 0 := h0
  replace h1 : len = N := h1
  replace h2 : ts.length = N := h2
  replace h3 : N ≤ 1000000 := h3
  replace h4 : key.length = 16 := h4
  replace h5 : b.length ≤ 100000 := h5
  replace h6 : ∀ t ∈ ts, tmOK t := h6
  subst h0 h1 h2
  refine ⟨?_, Nat.le_refl _, rfl, rfl⟩
  show Tri _ _ _ (Code.seq _ (Code.seq (Code.seq _ (Code.cond _ (Code.seq _ _) _)) (Code.seq _ (Code.seq (Code.seq _ (Code.cond _ (Code.seq _ _) _)) (Code.seq _ _))))) _
  cases sy with
  | true =>
    have e1 : (ssM true seed dr cn ts).opn key us b = (ssM true seed dr cn ts).fnd key us b := if_pos rfl
    generalize hf : (ssM true seed dr cn ts).fnd key us b = f at e1
    refine Tri.at (by first | (simp only [hf, Con.start, go_sem]; rfl) | rfl) ?_
    repeat (first | ((first | refine Tri.seq (Tri.regT (cfgSD_ok.pins _) ?_) | refine Tri.rgnT (cfgSD_ok.pins _) ?_); (repeat (first | refine RunT.oneA (hp := by simp (maxSteps := 2000000) (disch := first | decide | omega | (simp only [List.length_append, List.length_cons, List.length_nil, List.length_take, List.length_drop]; omega)) only [hf, go_sem]; rfl) (h := ?_) | refine RunT.notA (h := ?_))); refine RunT.nil ?_; try simp only [InBlock, Then]) | refine Tri.cF (by first | (simp only [hf, go_sem]; done) | fail) ?_ | refine Tri.cT (by first | (simp only [hf, go_sem]; done) | fail) ?_ | (refine Tri.skip ?_; try simp only [InBlock, Then]) | (refine Tri.exit ?_; simp only [Then, InBlock, if_true, if_false, ↓reduceIte, Nat.reduceEqDiff]) | refine Tri.seq (Tri.block ?_) | refine Tri.block ?_ | refine Tri.seq ?_ | (refine Tri.ret ?_; refine Con.fin (.inl rfl) (by simp only [Tryd.f34, cfgSD, resA, resA1, go_sem]; rfl) (by simp only [Obs, and_true, true_and]) (by first | (simp only [kOpn, Con.of, Con.ofO, resV, hf, go_sem]; done) | fail) trivial rfl rfl))
    refine Tri.ret ?_
    refine Con.fin (.inl rfl) (by simp only [Tryd.f34, cfgSD, resA, resA1, go_sem]; rfl) (by simp only [Obs, and_true, true_and]) ?_ ?_ rfl rfl
    · show AV.tuple [.pure (.slice true (.int .u8)) (opB f), .int .i64 (opE f)] = AV.tuple [.pure (.slice true (.int .u8)) (opB ((ssM true seed dr cn ts).opn key us b)), .int .i64 (opE ((ssM true seed dr cn ts).opn key us b))]
      rw [e1]
    · exact ⟨rfl, rfl, trivial⟩
  | false =>
    have e0 : (ssM false seed dr cn ts).opn key us b = if b.length < 24 then none else if 2024 < b.length then none else if b.drop (b.length - 16) = tagS key us (b.take (b.length - 16)) then some (strS key us (nb (b.take 8)) (List.take (b.length - 16 - 8) (List.drop 8 b))) else none := if_neg (by intro e; cases e)
    by_cases k1 : b.length < 24
    · have k1' : decide ((b.length : Int) - 16 < 8) = true := decide_eq_true (by omega)
      have e1 : (ssM false seed dr cn ts).opn key us b = none := e0.trans (if_pos k1)
      refine Tri.at (by first | (simp only [k1', Con.start, go_sem]; rfl) | rfl) ?_
      repeat (first | ((first | refine Tri.seq (Tri.regT (cfgSD_ok.pins _) ?_) | refine Tri.rgnT (cfgSD_ok.pins _) ?_); (repeat (first | refine RunT.oneA (hp := by simp (maxSteps := 2000000) (disch := first | decide | omega | (simp only [List.length_append, List.length_cons, List.length_nil, List.length_take, List.length_drop]; omega)) only [k1', go_sem]; rfl) (h := ?_) | refine RunT.notA (h := ?_))); refine RunT.nil ?_; try simp only [InBlock, Then]) | ((first | refine Tri.seq (Tri.drwT (mixed) (cfgSD_ok.pins _) ?_) | refine Tri.drnT (mixed) (cfgSD_ok.pins _) ?_); (repeat (first | refine RunD.oneA (hp := by simp (maxSteps := 2000000) (disch := first | decide | omega | (simp only [List.length_append, List.length_cons, List.length_nil, List.length_take, List.length_drop]; omega)) only [k1', go_sem]; rfl) (h := ?_) | refine RunD.notA (h := ?_))); refine RunD.nil ?_; refine ⟨by kernel_rfl, ?_⟩; try simp only [InBlock, Then]) | refine Tri.cF (by first | (simp only [k1', go_sem]; done) | fail) ?_ | refine Tri.cT (by first | (simp only [k1', go_sem]; done) | fail) ?_ | (refine Tri.skip ?_; try simp only [InBlock, Then]) | (refine Tri.exit ?_; simp only [Then, InBlock, if_true, if_false, ↓reduceIte, Nat.reduceEqDiff]) | refine Tri.seq (Tri.block ?_) | refine Tri.block ?_ | refine Tri.seq ?_ | (refine Tri.ret ?_; refine Con.fin (.inl rfl) (by simp only [Tryd.f34, cfgSD, resA, resA1, go_sem]; rfl) (by simp only [Obs, and_true, true_and]) (by first | (simp only [kOpn, Con.of, Con.ofO, resV, k1', go_sem]; done) | fail) trivial rfl rfl))
      refine Tri.phT 8 (.int .u8) 1 rfl rfl ?_
      refine Tri.at (by first | (simp only [k1', Con.start, go_sem]; rfl) | rfl) ?_
      refine Tri.rel true 3 rfl ?_ rfl rfl ?_
      · simp only [AS.blk, go_sem]
        repeat' constructor
      refine Tri.at (by first | (simp only [k1', Con.start, go_sem]; rfl) | rfl) ?_
      refine Tri.ret ?_
      refine Con.fin (.inl rfl) (by simp only [Tryd.f34, cfgSD, resA, resA1, go_sem]; rfl) (by simp only [Obs, and_true, true_and]) ?_ ?_ rfl rfl
      · show AV.tuple [.pure (.slice true (.int .u8)) ([] : List UInt8), .int .i64 (40 : Int)] = AV.tuple [.pure (.slice true (.int .u8)) (opB ((ssM false seed dr cn ts).opn key us b)), .int .i64 (opE ((ssM false seed dr cn ts).opn key us b))]
        rw [e1]
        rfl
      · exact ⟨rfl, rfl, trivial⟩
    replace e0 := e0.trans (if_neg k1)
    have k1' : decide ((b.length : Int) - 16 < 8) = false := decide_eq_false (by omega)
    obtain ⟨m, hm⟩ : ∃ m : Nat, (b.length : Int) - 16 = (m : Int) := ⟨b.length - 16, by omega⟩
    have hm2 : b.length - 16 = m := by omega
    rw [hm] at k1'
    rw [hm2] at e0
    by_cases k2 : 2024 < b.length
    · have k2' : decide ((2000 : Int) < (m : Int) - 8) = true := decide_eq_true (by omega)
      have e1 : (ssM false seed dr cn ts).opn key us b = none := e0.trans (if_pos k2)
      refine Tri.at (by first | (simp only [k1', k2', hm, Con.start, go_sem]; rfl) | rfl) ?_
      repeat (first | ((first | refine Tri.seq (Tri.regT (cfgSD_ok.pins _) ?_) | refine Tri.rgnT (cfgSD_ok.pins _) ?_); (repeat (first | refine RunT.oneA (hp := by simp (maxSteps := 2000000) (disch := first | decide | omega | (simp only [List.length_append, List.length_cons, List.length_nil, List.length_take, List.length_drop]; omega)) only [k1', k2', hm, go_sem]; rfl) (h := ?_) | refine RunT.notA (h := ?_))); refine RunT.nil ?_; try simp only [InBlock, Then]) | ((first | refine Tri.seq (Tri.drwT (mixed) (cfgSD_ok.pins _) ?_) | refine Tri.drnT (mixed) (cfgSD_ok.pins _) ?_); (repeat (first | refine RunD.oneA (hp := by simp (maxSteps := 2000000) (disch := first | decide | omega | (simp only [List.length_append, List.length_cons, List.length_nil, List.length_take, List.length_drop]; omega)) only [k1', k2', hm, go_sem]; rfl) (h := ?_) | refine RunD.notA (h := ?_))); refine RunD.nil ?_; refine ⟨by kernel_rfl, ?_⟩; try simp only [InBlock, Then]) | refine Tri.cF (by first | (simp only [k1', k2', hm, go_sem]; done) | fail) ?_ | refine Tri.cT (by first | (simp only [k1', k2', hm, go_sem]; done) | fail) ?_ | (refine Tri.skip ?_; try simp only [InBlock, Then]) | (refine Tri.exit ?_; simp only [Then, InBlock, if_true, if_false, ↓reduceIte, Nat.reduceEqDiff]) | refine Tri.seq (Tri.block ?_) | refine Tri.block ?_ | refine Tri.seq ?_ | (refine Tri.ret ?_; refine Con.fin (.inl rfl) (by simp only [Tryd.f34, cfgSD, resA, resA1, go_sem]; rfl) (by simp only [Obs, and_true, true_and]) (by first | (simp only [kOpn, Con.of, Con.ofO, resV, k1', k2', hm, go_sem]; done) | fail) trivial rfl rfl))
      refine Tri.phT 8 (.int .u8) 1 rfl rfl ?_
      refine Tri.at (by first | (simp only [k1', k2', hm, Con.start, go_sem]; rfl) | rfl) ?_
      refine Tri.rel true 3 rfl ?_ rfl rfl ?_
      · simp only [AS.blk, go_sem]
        repeat' constructor
      refine Tri.at (by first | (simp only [k1', k2', hm, Con.start, go_sem]; rfl) | rfl) ?_
      refine Tri.ret ?_
      refine Con.fin (.inl rfl) (by simp only [Tryd.f34, cfgSD, resA, resA1, go_sem]; rfl) (by simp only [Obs, and_true, true_and]) ?_ ?_ rfl rfl
      · show AV.tuple [.pure (.slice true (.int .u8)) ([] : List UInt8), .int .i64 (40 : Int)] = AV.tuple [.pure (.slice true (.int .u8)) (opB ((ssM false seed dr cn ts).opn key us b)), .int .i64 (opE ((ssM false seed dr cn ts).opn key us b))]
        rw [e1]
        rfl
      · exact ⟨rfl, rfl, trivial⟩
    replace e0 := e0.trans (if_neg k2)
    have k2' : decide ((2000 : Int) < (m : Int) - 8) = false := decide_eq_false (by omega)
    have b1 : List.take (b.length - m) (List.drop m b) = List.drop m b := List.take_of_length_le (by rw [List.length_drop]; exact Nat.le_refl _)
    have b2 : (List.take m b).length = m := by rw [List.length_take]; omega
    have b3 : (List.take (m - 8) (List.drop 8 b)).length = m - 8 := by rw [List.length_take, List.length_drop]; omega
    have b4 : (List.take 8 b).length = 8 := by rw [List.length_take]; omega
    by_cases k3 : b.drop m = tagS key us (b.take m)
    · have k3' : strEq (List.drop m b) (tagS key us (List.take m b)) = true := decide_eq_true k3
      have e1 := e0.trans (if_pos k3)
      refine Tri.at (by first | (simp only [k1', k2', k3', hm, b1, b2, b3, b4, Nat.sub_zero, Con.start, go_sem]; rfl) | rfl) ?_
      repeat (first | ((first | refine Tri.seq (Tri.regT (cfgSD_ok.pins _) ?_) | refine Tri.rgnT (cfgSD_ok.pins _) ?_); (repeat (first | refine RunT.oneA (hp := by simp (maxSteps := 2000000) (disch := first | decide | omega | (simp only [List.length_append, List.length_cons, List.length_nil, List.length_take, List.length_drop]; omega)) only [k1', k2', k3', hm, b1, b2, b3, b4, Nat.sub_zero, go_sem]; rfl) (h := ?_) | refine RunT.notA (h := ?_))); refine RunT.nil ?_; try simp only [InBlock, Then]) | ((first | refine Tri.seq (Tri.drwT (mixed) (cfgSD_ok.pins _) ?_) | refine Tri.drnT (mixed) (cfgSD_ok.pins _) ?_); (repeat (first | refine RunD.oneA (hp := by simp (maxSteps := 2000000) (disch := first | decide | omega | (simp only [List.length_append, List.length_cons, List.length_nil, List.length_take, List.length_drop]; omega)) only [k1', k2', k3', hm, b1, b2, b3, b4, Nat.sub_zero, go_sem]; rfl) (h := ?_) | refine RunD.notA (h := ?_))); refine RunD.nil ?_; refine ⟨by kernel_rfl, ?_⟩; try simp only [InBlock, Then]) | refine Tri.cF (by first | (simp only [k1', k2', k3', hm, b1, b2, b3, b4, Nat.sub_zero, go_sem]; done) | fail) ?_ | refine Tri.cT (by first | (simp only [k1', k2', k3', hm, b1, b2, b3, b4, Nat.sub_zero, go_sem]; done) | fail) ?_ | (refine Tri.skip ?_; try simp only [InBlock, Then]) | (refine Tri.exit ?_; simp only [Then, InBlock, if_true, if_false, ↓reduceIte, Nat.reduceEqDiff]) | refine Tri.seq (Tri.block ?_) | refine Tri.block ?_ | refine Tri.seq ?_ | (refine Tri.ret ?_; refine Con.fin (.inl rfl) (by simp only [Tryd.f34, cfgSD, resA, resA1, go_sem]; rfl) (by simp only [Obs, and_true, true_and]) (by first | (simp only [kOpn, Con.of, Con.ofO, resV, k1', k2', k3', hm, b1, b2, b3, b4, Nat.sub_zero, go_sem]; done) | fail) trivial rfl rfl))
      trace_state
      refine Tri.ret ?_
      refine Con.fin (.inl rfl) (by simp only [Tryd.f34, cfgSD, resA, resA1, go_sem]; rfl) (by simp only [Obs, and_true, true_and]) ?_ ?_ rfl rfl
      · show AV.tuple [.pure (.slice true (.int .u8)) (strS key us (nb (b.take 8)) (List.take (m - 8) (List.drop 8 b))), .int .i64 (0 : Int)] = AV.tuple [.pure (.slice true (.int .u8)) (opB ((ssM false seed dr cn ts).opn key us b)), .int .i64 (opE ((ssM false seed dr cn ts).opn key us b))]
        rw [e1]
        rfl
      · exact ⟨rfl, rfl, trivial⟩
    · have k3' : strEq (List.drop m b) (tagS key us (List.take m b)) = false := decide_eq_false k3
      have e1 := e0.trans (if_neg k3)
      refine Tri.at (by first | (simp only [k1', k2', k3', hm, b1, b2, b3, b4, Nat.sub_zero, Con.start, go_sem]; rfl) | rfl) ?_
      repeat (first | ((first | refine Tri.seq (Tri.regT (cfgSD_ok.pins _) ?_) | refine Tri.rgnT (cfgSD_ok.pins _) ?_); (repeat (first | refine RunT.oneA (hp := by simp (maxSteps := 2000000) (disch := first | decide | omega | (simp only [List.length_append, List.length_cons, List.length_nil, List.length_take, List.length_drop]; omega)) only [k1', k2', k3', hm, b1, b2, b3, b4, Nat.sub_zero, go_sem]; rfl) (h := ?_) | refine RunT.notA (h := ?_))); refine RunT.nil ?_; try simp only [InBlock, Then]) | ((first | refine Tri.seq (Tri.drwT (mixed) (cfgSD_ok.pins _) ?_) | refine Tri.drnT (mixed) (cfgSD_ok.pins _) ?_); (repeat (first | refine RunD.oneA (hp := by simp (maxSteps := 2000000) (disch := first | decide | omega | (simp only [List.length_append, List.length_cons, List.length_nil, List.length_take, List.length_drop]; omega)) only [k1', k2', k3', hm, b1, b2, b3, b4, Nat.sub_zero, go_sem]; rfl) (h := ?_) | refine RunD.notA (h := ?_))); refine RunD.nil ?_; refine ⟨by kernel_rfl, ?_⟩; try simp only [InBlock, Then]) | refine Tri.cF (by first | (simp only [k1', k2', k3', hm, b1, b2, b3, b4, Nat.sub_zero, go_sem]; done) | fail) ?_ | refine Tri.cT (by first | (simp only [k1', k2', k3', hm, b1, b2, b3, b4, Nat.sub_zero, go_sem]; done) | fail) ?_ | (refine Tri.skip ?_; try simp only [InBlock, Then]) | (refine Tri.exit ?_; simp only [Then, InBlock, if_true, if_false, ↓reduceIte, Nat.reduceEqDiff]) | refine Tri.seq (Tri.block ?_) | refine Tri.block ?_ | refine Tri.seq ?_ | (refine Tri.ret ?_; refine Con.fin (.inl rfl) (by simp only [Tryd.f34, cfgSD, resA, resA1, go_sem]; rfl) (by simp only [Obs, and_true, true_and]) (by first | (simp only [kOpn, Con.of, Con.ofO, resV, k1', k2', k3', hm, b1, b2, b3, b4, Nat.sub_zero, go_sem]; done) | fail) trivial rfl rfl))
      refine Tri.phT 8 (.int .u8) 1 rfl rfl ?_
      refine Tri.at (by first | (simp only [k1', k2', k3', hm, b1, b2, b3, b4, Nat.sub_zero, Con.start, go_sem]; rfl) | rfl) ?_
      refine Tri.rel true 3 rfl ?_ rfl rfl ?_
      · simp only [AS.blk, go_sem]
        repeat' constructor
      refine Tri.at (by first | (simp only [k1', k2', k3', hm, b1, b2, b3, b4, Nat.sub_zero, Con.start, go_sem]; rfl) | rfl) ?_
      refine Tri.ret ?_
      refine Con.fin (.inl rfl) (by simp only [Tryd.f34, cfgSD, resA, resA1, go_sem]; rfl) (by simp only [Obs, and_true, true_and]) ?_ ?_ rfl rfl
      · show AV.tuple [.pure (.slice true (.int .u8)) ([] : List UInt8), .int .i64 (40 : Int)] = AV.tuple [.pure (.slice true (.int .u8)) (opB ((ssM false seed dr cn ts).opn key us b)), .int .i64 (opE ((ssM false seed dr cn ts).opn key us b))]
        rw [e1]
        rfl
      · exact ⟨rfl, rfl, trivial⟩
theorem open_sum : FSumOK Tryd.prog cfgSD.G 34 kOpn.sum := Con.sumOK cfgSD_ok kOpn Tryd.func34 rfl rfl (Con.ofO_inv _ _ _ _) open_body
end
end Go.Proofs.YticgfjalikmniaaDoor

namespace Go.Proofs.YticgfjalikmniaaDoor
open Go.Vc Go.Proofs
set_option maxRecDepth 10000
set_option maxHeartbeats 4000000
theorem eqT_k (x : List UInt8) : eqT k16 x x = true := decide_eq_true rfl
theorem strEq_id (x : List UInt8) : strEq x x = true := decide_eq_true rfl
theorem opB_some (d : List UInt8) : opB (some d) = d := rfl
theorem opB_none : opB none = [] := rfl
theorem opE_some (d : List UInt8) : opE (some d) = 0 := rfl
theorem opE_none : opE none = 40 := rfl
def cfgSE : Cfg2 := { ty := tyTabS, fn := fun | 32 => some kNewS.sum | 33 => some kSeal.sum | 34 => some kOpn.sum | _ => none, G := shaG, pin := [], eq := eqS }
theorem cfgSE_ok : CfgOK Tryd.prog cfgSE := ⟨tyTabS_ok, (fun f s h => by
  simp only [cfgSE] at h
  split at h
  · injection h with h; subst h; exact .inl newS_sum
  · injection h with h; subst h; exact .inl seal_sum
  · injection h with h; subst h; exact .inl open_sum
  · cases h), eqS_ok⟩
abbrev zK : List UInt8 := [0, 0, 0, 0, 0, 0, 0, 0, 0, 0, 0, 0, 0, 0, 0, 0]
def kSpk6 : Con := Con.of [] (fun _ => []) (fun _ => ⟨.bool true, []⟩)
section
attribute [local go_sem] Tryd.f31 kSpk6 kNewS kSeal kOpn cfgSE tyTabS eqS ssM_eta slM eqT_k strEq_id
theorem spk6_body (p : kSpk6.Par) (hp : ∀ q ∈ kSpk6.pre p, q) : BodyOK Tryd.prog cfgSE Tryd.f31 (Tryd.f31.body.get rfl) kSpk6 p := by
  refine ⟨?_, Nat.zero_le _, rfl, rfl⟩
  show Tri _ _ _ (Code.seq _ (Code.seq _ (Code.seq (Code.seq _ (Code.cond _ (Code.seq _ _) _)) (Code.seq _ (Code.seq _ (Code.seq _ (Code.seq _ (Code.seq _ _)))))))) _
  have y0 : (ssM true [0, 0, 0, 0, 0, 0, 0, 0, 0, 0, 0, 0, 0, 0, 0, 0] 0 0 []).Sy := ⟨rfl, rfl, fun t ht => by cases ht⟩
  have y1 : ((ssM true [0, 0, 0, 0, 0, 0, 0, 0, 0, 0, 0, 0, 0, 0, 0, 0] 0 0 []).put [1, 0, 0, 0, 0, 0, 0, 0, 0, 0, 0, 0, 0, 0, 0, 0] 2 [120]).Sy := y0.put (Nat.zero_le _)
  have l0 : (ssM true [0, 0, 0, 0, 0, 0, 0, 0, 0, 0, 0, 0, 0, 0, 0, 0] 0 0 []).ts.length ≤ 1 := Nat.zero_le _
  have l1 : ((ssM true [0, 0, 0, 0, 0, 0, 0, 0, 0, 0, 0, 0, 0, 0, 0, 0] 0 0 []).put [1, 0, 0, 0, 0, 0, 0, 0, 0, 0, 0, 0, 0, 0, 0, 0] 2 [120]).ts.length ≤ 1 := Nat.le_refl _
  have hB : (ssM true [0, 0, 0, 0, 0, 0, 0, 0, 0, 0, 0, 0, 0, 0, 0, 0] 0 0 []).box [1, 0, 0, 0, 0, 0, 0, 0, 0, 0, 0, 0, 0, 0, 0, 0] 2 [120] = [83, 0, 0, 0, 0, 0, 0, 0, 0] := by kernel_rfl
  have hE : errS [120] = 0 := rfl
  have q1 : ((ssM true [0, 0, 0, 0, 0, 0, 0, 0, 0, 0, 0, 0, 0, 0, 0, 0] 0 0 []).put [1, 0, 0, 0, 0, 0, 0, 0, 0, 0, 0, 0, 0, 0, 0, 0] 2 [120]).opn [1, 0, 0, 0, 0, 0, 0, 0, 0, 0, 0, 0, 0, 0, 0, 0] 2 [83, 0, 0, 0, 0, 0, 0, 0, 0] = some [120] := by kernel_rfl
  have q2 : ((ssM true [0, 0, 0, 0, 0, 0, 0, 0, 0, 0, 0, 0, 0, 0, 0, 0] 0 0 []).put [1, 0, 0, 0, 0, 0, 0, 0, 0, 0, 0, 0, 0, 0, 0, 0] 2 [120]).opn [2, 0, 0, 0, 0, 0, 0, 0, 0, 0, 0, 0, 0, 0, 0, 0] 2 [83, 0, 0, 0, 0, 0, 0, 0, 0] = none := by kernel_rfl
  have q3 : ((ssM true [0, 0, 0, 0, 0, 0, 0, 0, 0, 0, 0, 0, 0, 0, 0, 0] 0 0 []).put [1, 0, 0, 0, 0, 0, 0, 0, 0, 0, 0, 0, 0, 0, 0, 0] 2 [120]).opn [1, 0, 0, 0, 0, 0, 0, 0, 0, 0, 0, 0, 0, 0, 0, 0] 3 [83, 0, 0, 0, 0, 0, 0, 0, 0] = none := by kernel_rfl
  generalize hs1 : (ssM true [0, 0, 0, 0, 0, 0, 0, 0, 0, 0, 0, 0, 0, 0, 0, 0] 0 0 []).put [1, 0, 0, 0, 0, 0, 0, 0, 0, 0, 0, 0, 0, 0, 0, 0] 2 [120] = s1 at y1 l1 q1 q2 q3
  generalize hs0 : ssM true [0, 0, 0, 0, 0, 0, 0, 0, 0, 0, 0, 0, 0, 0, 0, 0] 0 0 [] = s0 at y0 l0 hB hs1
  have g0 := y0.ok
  have g1 := y1.ok
  refine Tri.at (by first | (simp only [hs0, hs1, hB, hE, q1, q2, q3, opB_some, opB_none, opE_some, opE_none, Con.start, go_sem]; rfl) | rfl) ?_
  repeat (first | ((first | refine Tri.seq (Tri.regT (cfgSE_ok.pins _) ?_) | refine Tri.rgnT (cfgSE_ok.pins _) ?_); (repeat (first | refine RunT.oneA (hp := by simp (maxSteps := 2000000) (disch := first | decide | omega | (simp only [List.length_append, List.length_cons, List.length_nil, List.length_take, List.length_drop]; omega)) only [hs0, hs1, hB, hE, q1, q2, q3, opB_some, opB_none, opE_some, opE_none, go_sem]; rfl) (h := ?_) | refine RunT.notA (h := ?_))); refine RunT.nil ?_; try simp only [InBlock, Then]) | refine Tri.cF (by first | (simp only [hs0, hs1, hB, hE, q1, q2, q3, opB_some, opB_none, opE_some, opE_none, go_sem]; done) | fail) ?_ | refine Tri.cT (by first | (simp only [hs0, hs1, hB, hE, q1, q2, q3, opB_some, opB_none, opE_some, opE_none, go_sem]; done) | fail) ?_ | (refine Tri.skip ?_; try simp only [InBlock, Then]) | (refine Tri.exit ?_; simp only [Then, InBlock, if_true, if_false, ↓reduceIte, Nat.reduceEqDiff]) | refine Tri.seq (Tri.block ?_) | refine Tri.block ?_ | refine Tri.seq ?_ | (refine Tri.ret ?_; refine Con.fin (.inl rfl) (by simp only [Tryd.f31, cfgSE, resA, resA1, go_sem]; rfl) (by simp only [Obs, and_true, true_and]) (by first | (simp only [kSpk6, Con.of, Con.ofO, resV, hs0, hs1, hB, hE, q1, q2, q3, opB_some, opB_none, opE_some, opE_none, go_sem]; done) | fail) trivial rfl rfl))
theorem spk6_sum : FSumOK Tryd.prog cfgSE.G 31 kSpk6.sum := Con.sumOK cfgSE_ok kSpk6 Tryd.func31 rfl rfl (Con.of_inv _ _ _) spk6_body
end
end Go.Proofs.YticgfjalikmniaaDoor
