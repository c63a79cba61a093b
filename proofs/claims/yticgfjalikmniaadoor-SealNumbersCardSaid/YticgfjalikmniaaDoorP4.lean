/- Part of a proof: Boxes that are made one behind the other are all unlike -/
import Derived.Test.YticgfjalikmniaaDoorP3
set_option linter.unusedVariables false
set_option linter.unusedSimpArgs false
set_option linter.unusedSectionVars false
namespace Go.Proofs.YticgfjalikmniaaDoor
open Go.Vc Go.Proofs
set_option maxRecDepth 10000
set_option maxHeartbeats 4000000
def kFnd : Con := Con.ofO [.o slF, .a (.v k16), .a (.v (.int .i64)), .a (.v (.slice false (.int .u8)))] [] (fun x => [x.1.2.2.2.2.1.i = 0, x.1.2.2.2.2.1.len = x.1.2.2.2.2.1.N, List.length (α := tmK.T) x.1.2.2.2.2.1.xs = x.1.2.2.2.2.1.N, x.1.2.2.2.2.1.N ≤ 1000000, List.length (α := UInt8) x.2.1 = 16, List.length (α := UInt8) x.2.2.2.1 ≤ 100000, ∀ t ∈ x.1.2.2.2.2.1.xs, tmOK t])
  (fun x => ⟨.tuple [.pure (.slice true (.int .u8)) (opB ((slM x.1).fnd x.2.1 x.2.2.1 x.2.2.2.1)), .int .i64 (opE ((slM x.1).fnd x.2.1 x.2.2.1 x.2.2.2.1))], [.agg [.bool (slM x.1).sy, .pure k16 (slM x.1).seed, .int .u64 (slM x.1).dr, .int .u64 (slM x.1).cn, .tsl 1 [] 0 0 18 (List.length (α := tmK.T) (slM x.1).ts)], .pure (.arr (List.length (α := tmK.T) (slM x.1).ts) tmK) (slM x.1).ts]⟩)
def cfgSC : Cfg2 := { ty := tyTabS, fn := fun | 47 => some kClo.sum | 52 => some kNb.sum | _ => none, G := shaG, pin := [], eq := eqS }
theorem cfgSC_ok : CfgOK Tryd.prog cfgSC := ⟨tyTabS_ok, (fun f s h => by
  simp only [cfgSC] at h
  split at h
  · injection h with h; subst h; exact .inl clo_sum
  · injection h with h; subst h; exact .inl number_sum
  · cases h), eqS_ok⟩
section
attribute [local go_sem] Tryd.f51 kFnd kClo kNb cfgSC tyTabS eqS ssM_eta
theorem find_body (p : kFnd.Par) (hp : ∀ q ∈ kFnd.pre p, q) : BodyOK Tryd.prog cfgSC Tryd.f51 (Tryd.f51.body.get rfl) kFnd p := by
  obtain ⟨⟨(sy : Bool), (seed : List UInt8), (dr : UInt64), (cn : UInt64), ⟨N, i0, len, (ts : List tmK.T)⟩, u1⟩, (key : List UInt8), (us : Int), (b : List UInt8), u⟩ := p
  obtain ⟨h0, h1, h2, h3, h4, h5, h6, _⟩ := Obs.of hp
  replace h0 : i0 = 0 := h0
  replace h1 : len = N := h1
  replace h2 : ts.length = N := h2
  replace h3 : N ≤ 1000000 := h3
  replace h4 : key.length = 16 := h4
  replace h5 : b.length ≤ 100000 := h5
  replace h6 : ∀ t ∈ ts, tmOK t := h6
  subst h0 h1 h2
  refine ⟨?_, Nat.le_refl _, rfl, rfl⟩
  show Tri _ _ _ (Code.seq _ (Code.seq (Code.seq _ (Code.cond _ (Code.seq _ _) _)) (Code.seq _ (Code.seq (Code.seq _ (Code.cond _ (Code.seq _ _) _)) (Code.seq _ _))))) _
  by_cases k1 : b.length = 9
  rotate_left
  · have k1' : decide ((b.length : Int) = 9) = false := decide_eq_false (by omega)
    have e1 : (ssM sy seed dr cn ts).fnd key us b = none := if_neg k1
    refine Tri.at (by first | (simp only [k1', Con.start, go_sem]; rfl) | rfl) ?_
    repeat (first | ((first | refine Tri.seq (Tri.regT (cfgSC_ok.pins _) ?_) | refine Tri.rgnT (cfgSC_ok.pins _) ?_); (repeat (first | refine RunT.oneA (hp := by simp (maxSteps := 2000000) (disch := first | decide | omega | (simp only [List.length_append, List.length_cons, List.length_nil, List.length_take, List.length_drop]; omega)) only [k1', go_sem]; rfl) (h := ?_) | refine RunT.notA (h := ?_))); refine RunT.nil ?_; try simp only [InBlock, Then]) | refine Tri.cF (by first | (simp only [k1', go_sem]; done) | fail) ?_ | refine Tri.cT (by first | (simp only [k1', go_sem]; done) | fail) ?_ | (refine Tri.skip ?_; try simp only [InBlock, Then]) | (refine Tri.exit ?_; simp only [Then, InBlock, if_true, if_false, ↓reduceIte, Nat.reduceEqDiff]) | refine Tri.seq (Tri.block ?_) | refine Tri.block ?_ | refine Tri.seq ?_ | (refine Tri.ret ?_; refine Con.fin (.inl rfl) (by simp only [Tryd.f51, cfgSC, resA, resA1, go_sem]; rfl) (by simp only [Obs, and_true, true_and]) (by first | (simp only [kFnd, Con.of, Con.ofO, resV, k1', go_sem]; done) | fail) trivial rfl rfl))
    refine Tri.phT 8 (.int .u8) 1 rfl rfl ?_
    refine Tri.at (by first | (simp only [k1', Con.start, go_sem]; rfl) | rfl) ?_
    refine Tri.rel true 3 rfl ?_ rfl rfl ?_
    · simp only [AS.blk, go_sem]
      repeat' constructor
    refine Tri.at (by first | (simp only [k1', Con.start, go_sem]; rfl) | rfl) ?_
    refine Tri.ret ?_
    refine Con.fin (.inl rfl) (by simp only [Tryd.f51, cfgSC, resA, resA1, go_sem]; rfl) (by simp only [Obs, and_true, true_and]) ?_ ?_ rfl rfl
    · show AV.tuple [.pure (.slice true (.int .u8)) ([] : List UInt8), .int .i64 (40 : Int)] = AV.tuple [.pure (.slice true (.int .u8)) (opB ((ssM sy seed dr cn ts).fnd key us b)), .int .i64 (opE ((ssM sy seed dr cn ts).fnd key us b))]
      rw [e1]
      rfl
    · exact ⟨rfl, rfl, trivial⟩
  have k1' : decide ((b.length : Int) = 9) = true := decide_eq_true (by omega)
  by_cases k2 : b.getD 0 0 = 83
  rotate_left
  · have k2' : decide (b.getD 0 0 = 83) = false := decide_eq_false k2
    have e1 : (ssM sy seed dr cn ts).fnd key us b = none := (if_pos k1).trans (if_neg k2)
    refine Tri.at (by first | (simp only [k1', k2', Con.start, go_sem]; rfl) | rfl) ?_
    repeat (first | ((first | refine Tri.seq (Tri.regT (cfgSC_ok.pins _) ?_) | refine Tri.rgnT (cfgSC_ok.pins _) ?_); (repeat (first | refine RunT.oneA (hp := by simp (maxSteps := 2000000) (disch := first | decide | omega | (simp only [List.length_append, List.length_cons, List.length_nil, List.length_take, List.length_drop]; omega)) only [k1', k2', go_sem]; rfl) (h := ?_) | refine RunT.notA (h := ?_))); refine RunT.nil ?_; try simp only [InBlock, Then]) | refine Tri.cF (by first | (simp only [k1', k2', go_sem]; done) | fail) ?_ | refine Tri.cT (by first | (simp only [k1', k2', go_sem]; done) | fail) ?_ | (refine Tri.skip ?_; try simp only [InBlock, Then]) | (refine Tri.exit ?_; simp only [Then, InBlock, if_true, if_false, ↓reduceIte, Nat.reduceEqDiff]) | refine Tri.seq (Tri.block ?_) | refine Tri.block ?_ | refine Tri.seq ?_ | (refine Tri.ret ?_; refine Con.fin (.inl rfl) (by simp only [Tryd.f51, cfgSC, resA, resA1, go_sem]; rfl) (by simp only [Obs, and_true, true_and]) (by first | (simp only [kFnd, Con.of, Con.ofO, resV, k1', k2', go_sem]; done) | fail) trivial rfl rfl))
    refine Tri.phT 8 (.int .u8) 1 rfl rfl ?_
    refine Tri.at (by first | (simp only [k1', k2', Con.start, go_sem]; rfl) | rfl) ?_
    refine Tri.rel true 3 rfl ?_ rfl rfl ?_
    · simp only [AS.blk, go_sem]
      repeat' constructor
    refine Tri.at (by first | (simp only [k1', k2', Con.start, go_sem]; rfl) | rfl) ?_
    refine Tri.ret ?_
    refine Con.fin (.inl rfl) (by simp only [Tryd.f51, cfgSC, resA, resA1, go_sem]; rfl) (by simp only [Obs, and_true, true_and]) ?_ ?_ rfl rfl
    · show AV.tuple [.pure (.slice true (.int .u8)) ([] : List UInt8), .int .i64 (40 : Int)] = AV.tuple [.pure (.slice true (.int .u8)) (opB ((ssM sy seed dr cn ts).fnd key us b)), .int .i64 (opE ((ssM sy seed dr cn ts).fnd key us b))]
      rw [e1]
      rfl
    · exact ⟨rfl, rfl, trivial⟩
  have k2' : decide (b.getD 0 0 = 83) = true := decide_eq_true k2
  have b1 : List.take (b.length - 1) (List.drop 1 b) = List.drop 1 b := List.take_of_length_le (by rw [List.length_drop]; exact Nat.le_refl _)
  generalize hn : nb (List.drop 1 b) = n
  have hd : (UInt64.ofInt (ts.length : Int)).toNat = ts.length := by
    exact u64_nat (by omega)
  have e0 : (ssM sy seed dr cn ts).fnd key us b = if n.toNat < ts.length then if (ts.getD n.toNat (Kd.dflt tmK)).1 = key then if (ts.getD n.toNat (Kd.dflt tmK)).2.1 = us then some (ts.getD n.toNat (Kd.dflt tmK)).2.2.1 else none else none else none := by
    rw [← hn]
    exact (if_pos k1).trans (if_pos k2)
  by_cases k3 : n.toNat < ts.length
  rotate_left
  · have k3' : decide (n < UInt64.ofInt (ts.length : Int)) = false := decide_eq_false (by rw [UInt64.lt_iff_toNat_lt, hd]; exact k3)
    have e1 : (ssM sy seed dr cn ts).fnd key us b = none := e0.trans (if_neg k3)
    refine Tri.at (by first | (simp only [k1', k2', k3', b1, hn, Con.start, go_sem]; rfl) | rfl) ?_
    repeat (first | ((first | refine Tri.seq (Tri.regT (cfgSC_ok.pins _) ?_) | refine Tri.rgnT (cfgSC_ok.pins _) ?_); (repeat (first | refine RunT.oneA (hp := by simp (maxSteps := 2000000) (disch := first | decide | omega | (simp only [List.length_append, List.length_cons, List.length_nil, List.length_take, List.length_drop]; omega)) only [k1', k2', k3', b1, hn, go_sem]; rfl) (h := ?_) | refine RunT.notA (h := ?_))); refine RunT.nil ?_; try simp only [InBlock, Then]) | ((first | refine Tri.seq (Tri.drwT (mixed) (cfgSC_ok.pins _) ?_) | refine Tri.drnT (mixed) (cfgSC_ok.pins _) ?_); (repeat (first | refine RunD.oneA (hp := by simp (maxSteps := 2000000) (disch := first | decide | omega | (simp only [List.length_append, List.length_cons, List.length_nil, List.length_take, List.length_drop]; omega)) only [k1', k2', k3', b1, hn, go_sem]; rfl) (h := ?_) | refine RunD.notA (h := ?_))); refine RunD.nil ?_; refine ⟨by kernel_rfl, ?_⟩; try simp only [InBlock, Then]) | refine Tri.cF (by first | (simp only [k1', k2', k3', b1, hn, go_sem]; done) | fail) ?_ | refine Tri.cT (by first | (simp only [k1', k2', k3', b1, hn, go_sem]; done) | fail) ?_ | (refine Tri.skip ?_; try simp only [InBlock, Then]) | (refine Tri.exit ?_; simp only [Then, InBlock, if_true, if_false, ↓reduceIte, Nat.reduceEqDiff]) | refine Tri.seq (Tri.block ?_) | refine Tri.block ?_ | refine Tri.seq ?_ | (refine Tri.ret ?_; refine Con.fin (.inl rfl) (by simp only [Tryd.f51, cfgSC, resA, resA1, go_sem]; rfl) (by simp only [Obs, and_true, true_and]) (by first | (simp only [kFnd, Con.of, Con.ofO, resV, k1', k2', k3', b1, hn, go_sem]; done) | fail) trivial rfl rfl))
    refine Tri.phT 8 (.int .u8) 1 rfl rfl ?_
    refine Tri.at (by first | (simp only [k1', k2', k3', b1, hn, Con.start, go_sem]; rfl) | rfl) ?_
    refine Tri.rel true 3 rfl ?_ rfl rfl ?_
    · simp only [AS.blk, go_sem]
      repeat' constructor
    refine Tri.at (by first | (simp only [k1', k2', k3', b1, hn, Con.start, go_sem]; rfl) | rfl) ?_
    refine Tri.ret ?_
    refine Con.fin (.inl rfl) (by simp only [Tryd.f51, cfgSC, resA, resA1, go_sem]; rfl) (by simp only [Obs, and_true, true_and]) ?_ ?_ rfl rfl
    · show AV.tuple [.pure (.slice true (.int .u8)) ([] : List UInt8), .int .i64 (40 : Int)] = AV.tuple [.pure (.slice true (.int .u8)) (opB ((ssM sy seed dr cn ts).fnd key us b)), .int .i64 (opE ((ssM sy seed dr cn ts).fnd key us b))]
      rw [e1]
      rfl
    · exact ⟨rfl, rfl, trivial⟩
  have k3' : decide (n < UInt64.ofInt (ts.length : Int)) = true := decide_eq_true (by rw [UInt64.lt_iff_toNat_lt, hd]; exact k3)
  replace e0 : (ssM sy seed dr cn ts).fnd key us b = if n.toNat < ts.length then if (ts.getD n.toNat ([0, 0, 0, 0, 0, 0, 0, 0, 0, 0, 0, 0, 0, 0, 0, 0], 0, [], ())).1 = key then if (ts.getD n.toNat ([0, 0, 0, 0, 0, 0, 0, 0, 0, 0, 0, 0, 0, 0, 0, 0], 0, [], ())).2.1 = us then some (ts.getD n.toNat ([0, 0, 0, 0, 0, 0, 0, 0, 0, 0, 0, 0, 0, 0, 0, 0], 0, [], ())).2.2.1 else none else none else none := e0
  generalize ht : ts.getD n.toNat ([0, 0, 0, 0, 0, 0, 0, 0, 0, 0, 0, 0, 0, 0, 0, 0], 0, [], ()) = t at e0
  obtain ⟨(tk : List UInt8), (tu : Int), (tp : List UInt8), u9⟩ := t
  replace e0 := e0.trans (if_pos k3)
  by_cases k4 : tk = key
  rotate_left
  · have k4' : eqT k16 tk key = false := decide_eq_false k4
    have e1 : (ssM sy seed dr cn ts).fnd key us b = none := e0.trans (if_neg k4)
    refine Tri.at (by first | (simp only [k1', k2', k3', b1, hn, ht, k4', Con.start, go_sem]; rfl) | rfl) ?_
    repeat (first | ((first | refine Tri.seq (Tri.regT (cfgSC_ok.pins _) ?_) | refine Tri.rgnT (cfgSC_ok.pins _) ?_); (repeat (first | refine RunT.oneA (hp := by simp (maxSteps := 2000000) (disch := first | decide | omega | (simp only [List.length_append, List.length_cons, List.length_nil, List.length_take, List.length_drop]; omega)) only [k1', k2', k3', b1, hn, ht, k4', go_sem]; rfl) (h := ?_) | refine RunT.notA (h := ?_))); refine RunT.nil ?_; try simp only [InBlock, Then]) | ((first | refine Tri.seq (Tri.drwT (mixed) (cfgSC_ok.pins _) ?_) | refine Tri.drnT (mixed) (cfgSC_ok.pins _) ?_); (repeat (first | refine RunD.oneA (hp := by simp (maxSteps := 2000000) (disch := first | decide | omega | (simp only [List.length_append, List.length_cons, List.length_nil, List.length_take, List.length_drop]; omega)) only [k1', k2', k3', b1, hn, ht, k4', go_sem]; rfl) (h := ?_) | refine RunD.notA (h := ?_))); refine RunD.nil ?_; refine ⟨by kernel_rfl, ?_⟩; try simp only [InBlock, Then]) | refine Tri.cF (by first | (simp only [k1', k2', k3', b1, hn, ht, k4', go_sem]; done) | fail) ?_ | refine Tri.cT (by first | (simp only [k1', k2', k3', b1, hn, ht, k4', go_sem]; done) | fail) ?_ | (refine Tri.skip ?_; try simp only [InBlock, Then]) | (refine Tri.exit ?_; simp only [Then, InBlock, if_true, if_false, ↓reduceIte, Nat.reduceEqDiff]) | refine Tri.seq (Tri.block ?_) | refine Tri.block ?_ | refine Tri.seq ?_ | (refine Tri.ret ?_; refine Con.fin (.inl rfl) (by simp only [Tryd.f51, cfgSC, resA, resA1, go_sem]; rfl) (by simp only [Obs, and_true, true_and]) (by first | (simp only [kFnd, Con.of, Con.ofO, resV, k1', k2', k3', b1, hn, ht, k4', go_sem]; done) | fail) trivial rfl rfl))
    refine Tri.phT 8 (.int .u8) 1 rfl rfl ?_
    refine Tri.at (by first | (simp only [k1', k2', k3', b1, hn, ht, k4', Con.start, go_sem]; rfl) | rfl) ?_
    refine Tri.rel true 3 rfl ?_ rfl rfl ?_
    · simp only [AS.blk, go_sem]
      repeat' constructor
    refine Tri.at (by first | (simp only [k1', k2', k3', b1, hn, ht, k4', Con.start, go_sem]; rfl) | rfl) ?_
    refine Tri.ret ?_
    refine Con.fin (.inl rfl) (by simp only [Tryd.f51, cfgSC, resA, resA1, go_sem]; rfl) (by simp only [Obs, and_true, true_and]) ?_ ?_ rfl rfl
    · show AV.tuple [.pure (.slice true (.int .u8)) ([] : List UInt8), .int .i64 (40 : Int)] = AV.tuple [.pure (.slice true (.int .u8)) (opB ((ssM sy seed dr cn ts).fnd key us b)), .int .i64 (opE ((ssM sy seed dr cn ts).fnd key us b))]
      rw [e1]
      rfl
    · exact ⟨rfl, rfl, trivial⟩
  have k4' : eqT k16 tk key = true := decide_eq_true k4
  replace e0 := e0.trans (if_pos k4)
  by_cases k5 : tu = us
  rotate_left
  · have k5' : decide (tu = us) = false := decide_eq_false k5
    have e1 : (ssM sy seed dr cn ts).fnd key us b = none := e0.trans (if_neg k5)
    refine Tri.at (by first | (simp only [k1', k2', k3', b1, hn, ht, k4', k5', Con.start, go_sem]; rfl) | rfl) ?_
    repeat (first | ((first | refine Tri.seq (Tri.regT (cfgSC_ok.pins _) ?_) | refine Tri.rgnT (cfgSC_ok.pins _) ?_); (repeat (first | refine RunT.oneA (hp := by simp (maxSteps := 2000000) (disch := first | decide | omega | (simp only [List.length_append, List.length_cons, List.length_nil, List.length_take, List.length_drop]; omega)) only [k1', k2', k3', b1, hn, ht, k4', k5', go_sem]; rfl) (h := ?_) | refine RunT.notA (h := ?_))); refine RunT.nil ?_; try simp only [InBlock, Then]) | ((first | refine Tri.seq (Tri.drwT (mixed) (cfgSC_ok.pins _) ?_) | refine Tri.drnT (mixed) (cfgSC_ok.pins _) ?_); (repeat (first | refine RunD.oneA (hp := by simp (maxSteps := 2000000) (disch := first | decide | omega | (simp only [List.length_append, List.length_cons, List.length_nil, List.length_take, List.length_drop]; omega)) only [k1', k2', k3', b1, hn, ht, k4', k5', go_sem]; rfl) (h := ?_) | refine RunD.notA (h := ?_))); refine RunD.nil ?_; refine ⟨by kernel_rfl, ?_⟩; try simp only [InBlock, Then]) | refine Tri.cF (by first | (simp only [k1', k2', k3', b1, hn, ht, k4', k5', go_sem]; done) | fail) ?_ | refine Tri.cT (by first | (simp only [k1', k2', k3', b1, hn, ht, k4', k5', go_sem]; done) | fail) ?_ | (refine Tri.skip ?_; try simp only [InBlock, Then]) | (refine Tri.exit ?_; simp only [Then, InBlock, if_true, if_false, ↓reduceIte, Nat.reduceEqDiff]) | refine Tri.seq (Tri.block ?_) | refine Tri.block ?_ | refine Tri.seq ?_ | (refine Tri.ret ?_; refine Con.fin (.inl rfl) (by simp only [Tryd.f51, cfgSC, resA, resA1, go_sem]; rfl) (by simp only [Obs, and_true, true_and]) (by first | (simp only [kFnd, Con.of, Con.ofO, resV, k1', k2', k3', b1, hn, ht, k4', k5', go_sem]; done) | fail) trivial rfl rfl))
    refine Tri.phT 8 (.int .u8) 1 rfl rfl ?_
    refine Tri.at (by first | (simp only [k1', k2', k3', b1, hn, ht, k4', k5', Con.start, go_sem]; rfl) | rfl) ?_
    refine Tri.rel true 3 rfl ?_ rfl rfl ?_
    · simp only [AS.blk, go_sem]
      repeat' constructor
    refine Tri.at (by first | (simp only [k1', k2', k3', b1, hn, ht, k4', k5', Con.start, go_sem]; rfl) | rfl) ?_
    refine Tri.ret ?_
    refine Con.fin (.inl rfl) (by simp only [Tryd.f51, cfgSC, resA, resA1, go_sem]; rfl) (by simp only [Obs, and_true, true_and]) ?_ ?_ rfl rfl
    · show AV.tuple [.pure (.slice true (.int .u8)) ([] : List UInt8), .int .i64 (40 : Int)] = AV.tuple [.pure (.slice true (.int .u8)) (opB ((ssM sy seed dr cn ts).fnd key us b)), .int .i64 (opE ((ssM sy seed dr cn ts).fnd key us b))]
      rw [e1]
      rfl
    · exact ⟨rfl, rfl, trivial⟩
  have k5' : decide (tu = us) = true := decide_eq_true k5
  have e1 : (ssM sy seed dr cn ts).fnd key us b = some tp := e0.trans (if_pos k5)
  have hp : tp.length ≤ 2000 := by
    have h7 : (tk, tu, tp, u9) ∈ ts := by
      rw [← ht, List.getD_eq_getElem?_getD, List.getElem?_eq_getElem k3]
      exact List.getElem_mem k3
    exact h6 _ h7
  refine Tri.at (by first | (simp only [k1', k2', k3', b1, hn, ht, k4', k5', Con.start, go_sem]; rfl) | rfl) ?_
  repeat (first | ((first | refine Tri.seq (Tri.regT (cfgSC_ok.pins _) ?_) | refine Tri.rgnT (cfgSC_ok.pins _) ?_); (repeat (first | refine RunT.oneA (hp := by simp (maxSteps := 2000000) (disch := first | decide | omega | (simp only [List.length_append, List.length_cons, List.length_nil, List.length_take, List.length_drop]; omega)) only [k1', k2', k3', b1, hn, ht, k4', k5', go_sem]; rfl) (h := ?_) | refine RunT.notA (h := ?_))); refine RunT.nil ?_; try simp only [InBlock, Then]) | ((first | refine Tri.seq (Tri.drwT (mixed) (cfgSC_ok.pins _) ?_) | refine Tri.drnT (mixed) (cfgSC_ok.pins _) ?_); (repeat (first | refine RunD.oneA (hp := by simp (maxSteps := 2000000) (disch := first | decide | omega | (simp only [List.length_append, List.length_cons, List.length_nil, List.length_take, List.length_drop]; omega)) only [k1', k2', k3', b1, hn, ht, k4', k5', go_sem]; rfl) (h := ?_) | refine RunD.notA (h := ?_))); refine RunD.nil ?_; refine ⟨by kernel_rfl, ?_⟩; try simp only [InBlock, Then]) | refine Tri.cF (by first | (simp only [k1', k2', k3', b1, hn, ht, k4', k5', go_sem]; done) | fail) ?_ | refine Tri.cT (by first | (simp only [k1', k2', k3', b1, hn, ht, k4', k5', go_sem]; done) | fail) ?_ | (refine Tri.skip ?_; try simp only [InBlock, Then]) | (refine Tri.exit ?_; simp only [Then, InBlock, if_true, if_false, ↓reduceIte, Nat.reduceEqDiff]) | refine Tri.seq (Tri.block ?_) | refine Tri.block ?_ | refine Tri.seq ?_ | (refine Tri.ret ?_; refine Con.fin (.inl rfl) (by simp only [Tryd.f51, cfgSC, resA, resA1, go_sem]; rfl) (by simp only [Obs, and_true, true_and]) (by first | (simp only [kFnd, Con.of, Con.ofO, resV, k1', k2', k3', b1, hn, ht, k4', k5', go_sem]; done) | fail) trivial rfl rfl))
  refine Tri.ret ?_
  refine Con.fin (.inl rfl) (by simp only [Tryd.f51, cfgSC, resA, resA1, go_sem]; rfl) (by simp only [Obs, and_true, true_and]) ?_ ?_ rfl rfl
  · show AV.tuple [.pure (.slice true (.int .u8)) tp, .int .i64 (0 : Int)] = AV.tuple [.pure (.slice true (.int .u8)) (opB ((ssM sy seed dr cn ts).fnd key us b)), .int .i64 (opE ((ssM sy seed dr cn ts).fnd key us b))]
    rw [e1]
    rfl
  · exact ⟨rfl, rfl, trivial⟩
theorem find_sum : FSumOK Tryd.prog cfgSC.G 51 kFnd.sum := Con.sumOK cfgSC_ok kFnd Tryd.func51 rfl rfl (Con.ofO_inv _ _ _ _) find_body
end
def kOpn : Con := Con.ofO [.o slF, .a (.v k16), .a (.v (.int .i64)), .a (.v (.slice false (.int .u8)))] [] (fun x => [x.1.2.2.2.2.1.i = 0, x.1.2.2.2.2.1.len = x.1.2.2.2.2.1.N, List.length (α := tmK.T) x.1.2.2.2.2.1.xs = x.1.2.2.2.2.1.N, x.1.2.2.2.2.1.N ≤ 1000000, List.length (α := UInt8) x.2.1 = 16, List.length (α := UInt8) x.2.2.2.1 ≤ 100000, ∀ t ∈ x.1.2.2.2.2.1.xs, tmOK t])
  (fun x => ⟨.tuple [.pure (.slice true (.int .u8)) (opB ((slM x.1).opn x.2.1 x.2.2.1 x.2.2.2.1)), .int .i64 (opE ((slM x.1).opn x.2.1 x.2.2.1 x.2.2.2.1))], [.agg [.bool (slM x.1).sy, .pure k16 (slM x.1).seed, .int .u64 (slM x.1).dr, .int .u64 (slM x.1).cn, .tsl 1 [] 0 0 18 (List.length (α := tmK.T) (slM x.1).ts)], .pure (.arr (List.length (α := tmK.T) (slM x.1).ts) tmK) (slM x.1).ts]⟩)
def cfgSD : Cfg2 := { ty := tyTabS, fn := fun | 51 => some kFnd.sum | 52 => some kNb.sum | 26 => some kEq.sum | 49 => some kStr.sum | 50 => some kTag.sum | _ => none, G := shaG, pin := [], eq := eqS }
theorem cfgSD_ok : CfgOK Tryd.prog cfgSD := ⟨tyTabS_ok, (fun f s h => by
  simp only [cfgSD] at h
  split at h
  · injection h with h; subst h; exact .inl find_sum
  · injection h with h; subst h; exact .inl number_sum
  · injection h with h; subst h; exact .inl equal_sum
  · injection h with h; subst h; exact .inl str_sum
  · injection h with h; subst h; exact .inl tag_sum
  · cases h), eqS_ok⟩
section
attribute [local go_sem] Tryd.f34 kOpn kFnd kNb kEq kStr kTag cfgSD tyTabS eqS ssM_eta
theorem open_body (p : kOpn.Par) (hp : ∀ q ∈ kOpn.pre p, q) : BodyOK Tryd.prog cfgSD Tryd.f34 (Tryd.f34.body.get rfl) kOpn p := by
  obtain ⟨⟨(sy : Bool), (seed : List UInt8), (dr : UInt64), (cn : UInt64), ⟨N, i0, len, (ts : List tmK.T)⟩, u1⟩, (key : List UInt8), (us : Int), (b : List UInt8), u⟩ := p
  obtain ⟨h0, h1, h2, h3, h4, h5, h6, _⟩ := Obs.of hp
  replace h0 : i0 = 0 := h0
  replace h1 : len = N := h1
  replace h2 : ts.length = N := h2
  replace h3 : N ≤ 1000000 := h3
  replace h4 : key.length = 16 := h4
  replace h5 : b.length ≤ 100000 := h5
  replace h6 : ∀ t ∈ ts, tmOK t := h6
  subst h0 h1 h2
  refine ⟨?_, Nat.le_refl _, rfl, rfl⟩
  show Tri _ _ _ (Code.seq _ (Code.seq (Code.seq _ (Code.cond _ (Code.seq _ _) _)) (Code.seq _ (Code.seq (Code.seq _ (Code.cond _ (Code.seq _ _) _)) (Code.seq _ _))))) _
  cases sy with
  | true =>
    have e1 : (ssM true seed dr cn ts).opn key us b = (ssM true seed dr cn ts).fnd key us b := if_pos rfl
    generalize hf : (ssM true seed dr cn ts).fnd key us b = f at e1
    refine Tri.at (by first | (simp only [hf, Con.start, go_sem]; rfl) | rfl) ?_
    repeat (first | ((first | refine Tri.seq (Tri.regT (cfgSD_ok.pins _) ?_) | refine Tri.rgnT (cfgSD_ok.pins _) ?_); (repeat (first | refine RunT.oneA (hp := by simp (maxSteps := 2000000) (disch := first | decide | omega | (simp only [List.length_append, List.length_cons, List.length_nil, List.length_take, List.length_drop]; omega)) only [hf, go_sem]; rfl) (h := ?_) | refine RunT.notA (h := ?_))); refine RunT.nil ?_; try simp only [InBlock, Then]) | refine Tri.cF (by first | (simp only [hf, go_sem]; done) | fail) ?_ | refine Tri.cT (by first | (simp only [hf, go_sem]; done) | fail) ?_ | (refine Tri.skip ?_; try simp only [InBlock, Then]) | (refine Tri.exit ?_; simp only [Then, InBlock, if_true, if_false, ↓reduceIte, Nat.reduceEqDiff]) | refine Tri.seq (Tri.block ?_) | refine Tri.block ?_ | refine Tri.seq ?_ | (refine Tri.ret ?_; refine Con.fin (.inl rfl) (by simp only [Tryd.f34, cfgSD, resA, resA1, go_sem]; rfl) (by simp only [Obs, and_true, true_and]) (by first | (simp only [kOpn, Con.of, Con.ofO, resV, hf, go_sem]; done) | fail) trivial rfl rfl))
    refine Tri.ret ?_
    refine Con.fin (.inl rfl) (by simp only [Tryd.f34, cfgSD, resA, resA1, go_sem]; rfl) (by simp only [Obs, and_true, true_and]) ?_ ?_ rfl rfl
    · show AV.tuple [.pure (.slice true (.int .u8)) (opB f), .int .i64 (opE f)] = AV.tuple [.pure (.slice true (.int .u8)) (opB ((ssM true seed dr cn ts).opn key us b)), .int .i64 (opE ((ssM true seed dr cn ts).opn key us b))]
      rw [e1]
    · exact ⟨rfl, rfl, trivial⟩
  | false =>
    have e0 : (ssM false seed dr cn ts).opn key us b = if b.length < 24 then none else if 2024 < b.length then none else if b.drop (b.length - 16) = tagS key us (b.take (b.length - 16)) then some (strS key us (nb (b.take 8)) (List.take (b.length - 16 - 8) (List.drop 8 b))) else none := if_neg (by intro e; cases e)
    by_cases k1 : b.length < 24
    · have k1' : decide ((b.length : Int) - 16 < 8) = true := decide_eq_true (by omega)
      have e1 : (ssM false seed dr cn ts).opn key us b = none := e0.trans (if_pos k1)
      refine Tri.at (by first | (simp only [k1', Con.start, go_sem]; rfl) | rfl) ?_
      repeat (first | ((first | refine Tri.seq (Tri.regT (cfgSD_ok.pins _) ?_) | refine Tri.rgnT (cfgSD_ok.pins _) ?_); (repeat (first | refine RunT.oneA (hp := by simp (maxSteps := 2000000) (disch := first | decide | omega | (simp only [List.length_append, List.length_cons, List.length_nil, List.length_take, List.length_drop]; omega)) only [k1', go_sem]; rfl) (h := ?_) | refine RunT.notA (h := ?_))); refine RunT.nil ?_; try simp only [InBlock, Then]) | ((first | refine Tri.seq (Tri.drwT (mixed) (cfgSD_ok.pins _) ?_) | refine Tri.drnT (mixed) (cfgSD_ok.pins _) ?_); (repeat (first | refine RunD.oneA (hp := by simp (maxSteps := 2000000) (disch := first | decide | omega | (simp only [List.length_append, List.length_cons, List.length_nil, List.length_take, List.length_drop]; omega)) only [k1', go_sem]; rfl) (h := ?_) | refine RunD.notA (h := ?_))); refine RunD.nil ?_; refine ⟨by kernel_rfl, ?_⟩; try simp only [InBlock, Then]) | refine Tri.cF (by first | (simp only [k1', go_sem]; done) | fail) ?_ | refine Tri.cT (by first | (simp only [k1', go_sem]; done) | fail) ?_ | (refine Tri.skip ?_; try simp only [InBlock, Then]) | (refine Tri.exit ?_; simp only [Then, InBlock, if_true, if_false, ↓reduceIte, Nat.reduceEqDiff]) | refine Tri.seq (Tri.block ?_) | refine Tri.block ?_ | refine Tri.seq ?_ | (refine Tri.ret ?_; refine Con.fin (.inl rfl) (by simp only [Tryd.f34, cfgSD, resA, resA1, go_sem]; rfl) (by simp only [Obs, and_true, true_and]) (by first | (simp only [kOpn, Con.of, Con.ofO, resV, k1', go_sem]; done) | fail) trivial rfl rfl))
      refine Tri.phT 8 (.int .u8) 1 rfl rfl ?_
      refine Tri.at (by first | (simp only [k1', Con.start, go_sem]; rfl) | rfl) ?_
      refine Tri.rel true 3 rfl ?_ rfl rfl ?_
      · simp only [AS.blk, go_sem]
        repeat' constructor
      refine Tri.at (by first | (simp only [k1', Con.start, go_sem]; rfl) | rfl) ?_
      refine Tri.ret ?_
      refine Con.fin (.inl rfl) (by simp only [Tryd.f34, cfgSD, resA, resA1, go_sem]; rfl) (by simp only [Obs, and_true, true_and]) ?_ ?_ rfl rfl
      · show AV.tuple [.pure (.slice true (.int .u8)) ([] : List UInt8), .int .i64 (40 : Int)] = AV.tuple [.pure (.slice true (.int .u8)) (opB ((ssM false seed dr cn ts).opn key us b)), .int .i64 (opE ((ssM false seed dr cn ts).opn key us b))]
        rw [e1]
        rfl
      · exact ⟨rfl, rfl, trivial⟩
    replace e0 := e0.trans (if_neg k1)
    have k1' : decide ((b.length : Int) - 16 < 8) = false := decide_eq_false (by omega)
    obtain ⟨m, hm⟩ : ∃ m : Nat, (b.length : Int) - 16 = (m : Int) := ⟨b.length - 16, by omega⟩
    have hm2 : b.length - 16 = m := by omega
    rw [hm] at k1'
    rw [hm2] at e0
    by_cases k2 : 2024 < b.length
    · have k2' : decide ((2000 : Int) < (m : Int) - 8) = true := decide_eq_true (by omega)
      have e1 : (ssM false seed dr cn ts).opn key us b = none := e0.trans (if_pos k2)
      refine Tri.at (by first | (simp only [k1', k2', hm, Con.start, go_sem]; rfl) | rfl) ?_
      repeat (first | ((first | refine Tri.seq (Tri.regT (cfgSD_ok.pins _) ?_) | refine Tri.rgnT (cfgSD_ok.pins _) ?_); (repeat (first | refine RunT.oneA (hp := by simp (maxSteps := 2000000) (disch := first | decide | omega | (simp only [List.length_append, List.length_cons, List.length_nil, List.length_take, List.length_drop]; omega)) only [k1', k2', hm, go_sem]; rfl) (h := ?_) | refine RunT.notA (h := ?_))); refine RunT.nil ?_; try simp only [InBlock, Then]) | ((first | refine Tri.seq (Tri.drwT (mixed) (cfgSD_ok.pins _) ?_) | refine Tri.drnT (mixed) (cfgSD_ok.pins _) ?_); (repeat (first | refine RunD.oneA (hp := by simp (maxSteps := 2000000) (disch := first | decide | omega | (simp only [List.length_append, List.length_cons, List.length_nil, List.length_take, List.length_drop]; omega)) only [k1', k2', hm, go_sem]; rfl) (h := ?_) | refine RunD.notA (h := ?_))); refine RunD.nil ?_; refine ⟨by kernel_rfl, ?_⟩; try simp only [InBlock, Then]) | refine Tri.cF (by first | (simp only [k1', k2', hm, go_sem]; done) | fail) ?_ | refine Tri.cT (by first | (simp only [k1', k2', hm, go_sem]; done) | fail) ?_ | (refine Tri.skip ?_; try simp only [InBlock, Then]) | (refine Tri.exit ?_; simp only [Then, InBlock, if_true, if_false, ↓reduceIte, Nat.reduceEqDiff]) | refine Tri.seq (Tri.block ?_) | refine Tri.block ?_ | refine Tri.seq ?_ | (refine Tri.ret ?_; refine Con.fin (.inl rfl) (by simp only [Tryd.f34, cfgSD, resA, resA1, go_sem]; rfl) (by simp only [Obs, and_true, true_and]) (by first | (simp only [kOpn, Con.of, Con.ofO, resV, k1', k2', hm, go_sem]; done) | fail) trivial rfl rfl))
      refine Tri.phT 8 (.int .u8) 1 rfl rfl ?_
      refine Tri.at (by first | (simp only [k1', k2', hm, Con.start, go_sem]; rfl) | rfl) ?_
      refine Tri.rel true 3 rfl ?_ rfl rfl ?_
      · simp only [AS.blk, go_sem]
        repeat' constructor
      refine Tri.at (by first | (simp only [k1', k2', hm, Con.start, go_sem]; rfl) | rfl) ?_
      refine Tri.ret ?_
      refine Con.fin (.inl rfl) (by simp only [Tryd.f34, cfgSD, resA, resA1, go_sem]; rfl) (by simp only [Obs, and_true, true_and]) ?_ ?_ rfl rfl
      · show AV.tuple [.pure (.slice true (.int .u8)) ([] : List UInt8), .int .i64 (40 : Int)] = AV.tuple [.pure (.slice true (.int .u8)) (opB ((ssM false seed dr cn ts).opn key us b)), .int .i64 (opE ((ssM false seed dr cn ts).opn key us b))]
        rw [e1]
        rfl
      · exact ⟨rfl, rfl, trivial⟩
    replace e0 := e0.trans (if_neg k2)
    have k2' : decide ((2000 : Int) < (m : Int) - 8) = false := decide_eq_false (by omega)
    have b1 : List.take (b.length - m) (List.drop m b) = List.drop m b := List.take_of_length_le (by rw [List.length_drop]; exact Nat.le_refl _)
    have b2 : (List.take m b).length = m := by rw [List.length_take]; omega
    have b3 : (List.take (m - 8) (List.drop 8 b)).length = m - 8 := by rw [List.length_take, List.length_drop]; omega
    have b4 : (List.take 8 b).length = 8 := by rw [List.length_take]; omega
    by_cases k3 : b.drop m = tagS key us (b.take m)
    · have k3' : strEq (List.drop m b) (tagS key us (List.take m b)) = true := decide_eq_true k3
      have e1 := e0.trans (if_pos k3)
      refine Tri.at (by first | (simp only [k1', k2', k3', hm, b1, b2, b3, b4, Nat.sub_zero, Con.start, go_sem]; rfl) | rfl) ?_
      repeat (first | ((first | refine Tri.seq (Tri.regT (cfgSD_ok.pins _) ?_) | refine Tri.rgnT (cfgSD_ok.pins _) ?_); (repeat (first | refine RunT.oneA (hp := by simp (maxSteps := 2000000) (disch := first | decide | omega | (simp only [List.length_append, List.length_cons, List.length_nil, List.length_take, List.length_drop]; omega)) only [k1', k2', k3', hm, b1, b2, b3, b4, Nat.sub_zero, go_sem]; rfl) (h := ?_) | refine RunT.notA (h := ?_))); refine RunT.nil ?_; try simp only [InBlock, Then]) | ((first | refine Tri.seq (Tri.drwT (mixed) (cfgSD_ok.pins _) ?_) | refine Tri.drnT (mixed) (cfgSD_ok.pins _) ?_); (repeat (first | refine RunD.oneA (hp := by simp (maxSteps := 2000000) (disch := first | decide | omega | (simp only [List.length_append, List.length_cons, List.length_nil, List.length_take, List.length_drop]; omega)) only [k1', k2', k3', hm, b1, b2, b3, b4, Nat.sub_zero, go_sem]; rfl) (h := ?_) | refine RunD.notA (h := ?_))); refine RunD.nil ?_; refine ⟨by kernel_rfl, ?_⟩; try simp only [InBlock, Then]) | refine Tri.cF (by first | (simp only [k1', k2', k3', hm, b1, b2, b3, b4, Nat.sub_zero, go_sem]; done) | fail) ?_ | refine Tri.cT (by first | (simp only [k1', k2', k3', hm, b1, b2, b3, b4, Nat.sub_zero, go_sem]; done) | fail) ?_ | (refine Tri.skip ?_; try simp only [InBlock, Then]) | (refine Tri.exit ?_; simp only [Then, InBlock, if_true, if_false, ↓reduceIte, Nat.reduceEqDiff]) | refine Tri.seq (Tri.block ?_) | refine Tri.block ?_ | refine Tri.seq ?_ | (refine Tri.ret ?_; refine Con.fin (.inl rfl) (by simp only [Tryd.f34, cfgSD, resA, resA1, go_sem]; rfl) (by simp only [Obs, and_true, true_and]) (by first | (simp only [kOpn, Con.of, Con.ofO, resV, k1', k2', k3', hm, b1, b2, b3, b4, Nat.sub_zero, go_sem]; done) | fail) trivial rfl rfl))
      trace_state
      refine Tri.ret ?_
      refine Con.fin (.inl rfl) (by simp only [Tryd.f34, cfgSD, resA, resA1, go_sem]; rfl) (by simp only [Obs, and_true, true_and]) ?_ ?_ rfl rfl
      · show AV.tuple [.pure (.slice true (.int .u8)) (strS key us (nb (b.take 8)) (List.take (m - 8) (List.drop 8 b))), .int .i64 (0 : Int)] = AV.tuple [.pure (.slice true (.int .u8)) (opB ((ssM false seed dr cn ts).opn key us b)), .int .i64 (opE ((ssM false seed dr cn ts).opn key us b))]
        rw [e1]
        rfl
      · exact ⟨rfl, rfl, trivial⟩
    · have k3' : strEq (List.drop m b) (tagS key us (List.take m b)) = false := decide_eq_false k3
      have e1 := e0.trans (if_neg k3)
      refine Tri.at (by first | (simp only [k1', k2', k3', hm, b1, b2, b3, b4, Nat.sub_zero, Con.start, go_sem]; rfl) | rfl) ?_
      repeat (first | ((first | refine Tri.seq (Tri.regT (cfgSD_ok.pins _) ?_) | refine Tri.rgnT (cfgSD_ok.pins _) ?_); (repeat (first | refine RunT.oneA (hp := by simp (maxSteps := 2000000) (disch := first | decide | omega | (simp only [List.length_append, List.length_cons, List.length_nil, List.length_take, List.length_drop]; omega)) only [k1', k2', k3', hm, b1, b2, b3, b4, Nat.sub_zero, go_sem]; rfl) (h := ?_) | refine RunT.notA (h := ?_))); refine RunT.nil ?_; try simp only [InBlock, Then]) | ((first | refine Tri.seq (Tri.drwT (mixed) (cfgSD_ok.pins _) ?_) | refine Tri.drnT (mixed) (cfgSD_ok.pins _) ?_); (repeat (first | refine RunD.oneA (hp := by simp (maxSteps := 2000000) (disch := first | decide | omega | (simp only [List.length_append, List.length_cons, List.length_nil, List.length_take, List.length_drop]; omega)) only [k1', k2', k3', hm, b1, b2, b3, b4, Nat.sub_zero, go_sem]; rfl) (h := ?_) | refine RunD.notA (h := ?_))); refine RunD.nil ?_; refine ⟨by kernel_rfl, ?_⟩; try simp only [InBlock, Then]) | refine Tri.cF (by first | (simp only [k1', k2', k3', hm, b1, b2, b3, b4, Nat.sub_zero, go_sem]; done) | fail) ?_ | refine Tri.cT (by first | (simp only [k1', k2', k3', hm, b1, b2, b3, b4, Nat.sub_zero, go_sem]; done) | fail) ?_ | (refine Tri.skip ?_; try simp only [InBlock, Then]) | (refine Tri.exit ?_; simp only [Then, InBlock, if_true, if_false, ↓reduceIte, Nat.reduceEqDiff]) | refine Tri.seq (Tri.block ?_) | refine Tri.block ?_ | refine Tri.seq ?_ | (refine Tri.ret ?_; refine Con.fin (.inl rfl) (by simp only [Tryd.f34, cfgSD, resA, resA1, go_sem]; rfl) (by simp only [Obs, and_true, true_and]) (by first | (simp only [kOpn, Con.of, Con.ofO, resV, k1', k2', k3', hm, b1, b2, b3, b4, Nat.sub_zero, go_sem]; done) | fail) trivial rfl rfl))
      refine Tri.phT 8 (.int .u8) 1 rfl rfl ?_
      refine Tri.at (by first | (simp only [k1', k2', k3', hm, b1, b2, b3, b4, Nat.sub_zero, Con.start, go_sem]; rfl) | rfl) ?_
      refine Tri.rel true 3 rfl ?_ rfl rfl ?_
      · simp only [AS.blk, go_sem]
        repeat' constructor
      refine Tri.at (by first | (simp only [k1', k2', k3', hm, b1, b2, b3, b4, Nat.sub_zero, Con.start, go_sem]; rfl) | rfl) ?_
      refine Tri.ret ?_
      refine Con.fin (.inl rfl) (by simp only [Tryd.f34, cfgSD, resA, resA1, go_sem]; rfl) (by simp only [Obs, and_true, true_and]) ?_ ?_ rfl rfl
      · show AV.tuple [.pure (.slice true (.int .u8)) ([] : List UInt8), .int .i64 (40 : Int)] = AV.tuple [.pure (.slice true (.int .u8)) (opB ((ssM false seed dr cn ts).opn key us b)), .int .i64 (opE ((ssM false seed dr cn ts).opn key us b))]
        rw [e1]
        rfl
      · exact ⟨rfl, rfl, trivial⟩
theorem open_sum : FSumOK Tryd.prog cfgSD.G 34 kOpn.sum := Con.sumOK cfgSD_ok kOpn Tryd.func34 rfl rfl (Con.ofO_inv _ _ _ _) open_body
end
end Go.Proofs.YticgfjalikmniaaDoor

namespace Go.Proofs.YticgfjalikmniaaDoor
open Go.Vc Go.Proofs
set_option maxRecDepth 10000
set_option maxHeartbeats 4000000
theorem eqT_k (x : List UInt8) : eqT k16 x x = true := decide_eq_true rfl
theorem strEq_id (x : List UInt8) : strEq x x = true := decide_eq_true rfl
theorem opB_some (d : List UInt8) : opB (some d) = d := rfl
theorem opB_none : opB none = [] := rfl
theorem opE_some (d : List UInt8) : opE (some d) = 0 := rfl
theorem opE_none : opE none = 40 := rfl
def cfgSE : Cfg2 := { ty := tyTabS, fn := fun | 32 => some kNewS.sum | 33 => some kSeal.sum | 34 => some kOpn.sum | _ => none, G := shaG, pin := [], eq := eqS }
theorem cfgSE_ok : CfgOK Tryd.prog cfgSE := ⟨tyTabS_ok, (fun f s h => by
  simp only [cfgSE] at h
  split at h
  · injection h with h; subst h; exact .inl newS_sum
  · injection h with h; subst h; exact .inl seal_sum
  · injection h with h; subst h; exact .inl open_sum
  · cases h), eqS_ok⟩
abbrev zK : List UInt8 := [0, 0, 0, 0, 0, 0, 0, 0, 0, 0, 0, 0, 0, 0, 0, 0]
def kSpk6 : Con := Con.of [] (fun _ => []) (fun _ => ⟨.bool true, []⟩)
section
attribute [local go_sem] Tryd.f31 kSpk6 kNewS kSeal kOpn cfgSE tyTabS eqS ssM_eta slM eqT_k strEq_id
theorem spk6_body (p : kSpk6.Par) (hp : ∀ q ∈ kSpk6.pre p, q) : BodyOK Tryd.prog cfgSE Tryd.f31 (Tryd.f31.body.get rfl) kSpk6 p := by
  refine ⟨?_, Nat.zero_le _, rfl, rfl⟩
  show Tri _ _ _ (Code.seq _ (Code.seq _ (Code.seq (Code.seq _ (Code.cond _ (Code.seq _ _) _)) (Code.seq _ (Code.seq _ (Code.seq _ (Code.seq _ (Code.seq _ _)))))))) _
  have y0 : (ssM true [0, 0, 0, 0, 0, 0, 0, 0, 0, 0, 0, 0, 0, 0, 0, 0] 0 0 []).Sy := ⟨rfl, rfl, fun t ht => by cases ht⟩
  have y1 : ((ssM true [0, 0, 0, 0, 0, 0, 0, 0, 0, 0, 0, 0, 0, 0, 0, 0] 0 0 []).put [1, 0, 0, 0, 0, 0, 0, 0, 0, 0, 0, 0, 0, 0, 0, 0] 2 [120]).Sy := y0.put (Nat.zero_le _)
  have l0 : (ssM true [0, 0, 0, 0, 0, 0, 0, 0, 0, 0, 0, 0, 0, 0, 0, 0] 0 0 []).ts.length ≤ 1 := Nat.zero_le _
  have l1 : ((ssM true [0, 0, 0, 0, 0, 0, 0, 0, 0, 0, 0, 0, 0, 0, 0, 0] 0 0 []).put [1, 0, 0, 0, 0, 0, 0, 0, 0, 0, 0, 0, 0, 0, 0, 0] 2 [120]).ts.length ≤ 1 := Nat.le_refl _
  have hB : (ssM true [0, 0, 0, 0, 0, 0, 0, 0, 0, 0, 0, 0, 0, 0, 0, 0] 0 0 []).box [1, 0, 0, 0, 0, 0, 0, 0, 0, 0, 0, 0, 0, 0, 0, 0] 2 [120] = [83, 0, 0, 0, 0, 0, 0, 0, 0] := by kernel_rfl
  have hE : errS [120] = 0 := rfl
  have q1 : ((ssM true [0, 0, 0, 0, 0, 0, 0, 0, 0, 0, 0, 0, 0, 0, 0, 0] 0 0 []).put [1, 0, 0, 0, 0, 0, 0, 0, 0, 0, 0, 0, 0, 0, 0, 0] 2 [120]).opn [1, 0, 0, 0, 0, 0, 0, 0, 0, 0, 0, 0, 0, 0, 0, 0] 2 [83, 0, 0, 0, 0, 0, 0, 0, 0] = some [120] := by kernel_rfl
  have q2 : ((ssM true [0, 0, 0, 0, 0, 0, 0, 0, 0, 0, 0, 0, 0, 0, 0, 0] 0 0 []).put [1, 0, 0, 0, 0, 0, 0, 0, 0, 0, 0, 0, 0, 0, 0, 0] 2 [120]).opn [2, 0, 0, 0, 0, 0, 0, 0, 0, 0, 0, 0, 0, 0, 0, 0] 2 [83, 0, 0, 0, 0, 0, 0, 0, 0] = none := by kernel_rfl
  have q3 : ((ssM true [0, 0, 0, 0, 0, 0, 0, 0, 0, 0, 0, 0, 0, 0, 0, 0] 0 0 []).put [1, 0, 0, 0, 0, 0, 0, 0, 0, 0, 0, 0, 0, 0, 0, 0] 2 [120]).opn [1, 0, 0, 0, 0, 0, 0, 0, 0, 0, 0, 0, 0, 0, 0, 0] 3 [83, 0, 0, 0, 0, 0, 0, 0, 0] = none := by kernel_rfl
  generalize hs1 : (ssM true [0, 0, 0, 0, 0, 0, 0, 0, 0, 0, 0, 0, 0, 0, 0, 0] 0 0 []).put [1, 0, 0, 0, 0, 0, 0, 0, 0, 0, 0, 0, 0, 0, 0, 0] 2 [120] = s1 at y1 l1 q1 q2 q3
  generalize hs0 : ssM true [0, 0, 0, 0, 0, 0, 0, 0, 0, 0, 0, 0, 0, 0, 0, 0] 0 0 [] = s0 at y0 l0 hB hs1
  have g0 := y0.ok
  have g1 := y1.ok
  refine Tri.at (by first | (simp only [hs0, hs1, hB, hE, q1, q2, q3, opB_some, opB_none, opE_some, opE_none, Con.start, go_sem]; rfl) | rfl) ?_
  repeat (first | ((first | refine Tri.seq (Tri.regT (cfgSE_ok.pins _) ?_) | refine Tri.rgnT (cfgSE_ok.pins _) ?_); (repeat (first | refine RunT.oneA (hp := by simp (maxSteps := 2000000) (disch := first | decide | omega | (simp only [List.length_append, List.length_cons, List.length_nil, List.length_take, List.length_drop]; omega)) only [hs0, hs1, hB, hE, q1, q2, q3, opB_some, opB_none, opE_some, opE_none, go_sem]; rfl) (h := ?_) | refine RunT.notA (h := ?_))); refine RunT.nil ?_; try simp only [InBlock, Then]) | refine Tri.cF (by first | (simp only [hs0, hs1, hB, hE, q1, q2, q3, opB_some, opB_none, opE_some, opE_none, go_sem]; done) | fail) ?_ | refine Tri.cT (by first | (simp only [hs0, hs1, hB, hE, q1, q2, q3, opB_some, opB_none, opE_some, opE_none, go_sem]; done) | fail) ?_ | (refine Tri.skip ?_; try simp only [InBlock, Then]) | (refine Tri.exit ?_; simp only [Then, InBlock, if_true, if_false, ↓reduceIte, Nat.reduceEqDiff]) | refine Tri.seq (Tri.block ?_) | refine Tri.block ?_ | refine Tri.seq ?_ | (refine Tri.ret ?_; refine Con.fin (.inl rfl) (by simp only [Tryd.f31, cfgSE, resA, resA1, go_sem]; rfl) (by simp only [Obs, and_true, true_and]) (by first | (simp only [kSpk6, Con.of, Con.ofO, resV, hs0, hs1, hB, hE, q1, q2, q3, opB_some, opB_none, opE_some, opE_none, go_sem]; done) | fail) trivial rfl rfl))
theorem spk6_sum : FSumOK Tryd.prog cfgSE.G 31 kSpk6.sum := Con.sumOK cfgSE_ok kSpk6 Tryd.func31 rfl rfl (Con.of_inv _ _ _) spk6_body
end
end Go.Proofs.YticgfjalikmniaaDoor

namespace Go.Proofs.YticgfjalikmniaaDoor
open Go.Vc Go.Proofs
set_option maxRecDepth 10000
set_option maxHeartbeats 4000000
theorem put_ok {s : SS} {key : List UInt8} {us : Int} {d : List UInt8} (h : ∀ t ∈ s.ts, tmOK t) : ∀ t ∈ (s.put key us d).ts, tmOK t := by
  unfold SS.put
  split
  · exact h
  · split
    · intro t ht
      rcases List.mem_append.1 ht with ht | ht
      · exact h t ht
      · rw [List.mem_singleton] at ht
        subst ht
        show d.length ≤ 2000
        omega
    · exact h
theorem box_len {s : SS} {key : List UInt8} {us : Int} {d : List UInt8} (h : d.length ≤ 2000) : (s.box key us d).length ≤ 2024 := by
  cases hs : s.sy with
  | true => rw [box_sy hs h, List.length_cons, wd_len]; omega
  | false => rw [box_ns hs h, List.length_append, List.length_append, wd_len, tagS_len, strS_len]; omega
theorem put_sy' (s : SS) (key : List UInt8) (us : Int) (d : List UInt8) : (s.put key us d).sy = s.sy := by
  unfold SS.put
  split
  · rfl
  · split
    · rename_i h; exact h.symm
    · rename_i h; simp at h; exact h.symm
theorem put_cn {s : SS} {key : List UInt8} {us : Int} {d : List UInt8} (h : d.length ≤ 2000) : (s.put key us d).cn = s.cn + 1 := by
  unfold SS.put
  rw [if_neg (by omega)]
  split <;> rfl
theorem box_ne {s s1 : SS} {ka kb : List UInt8} {ua ub : Int} {da db : List UInt8} (hs : s1.sy = s.sy) (h1 : da.length ≤ 2000) (h2 : db.length ≤ 2000) (hn : s.cn ≠ s1.cn) : s.box ka ua da ≠ s1.box kb ub db := by
  intro h
  cases hy : s.sy with
  | true =>
    rw [box_sy hy h1, box_sy (hs.trans hy) h2] at h
    injection h with _ h
    exact hn (wd_inj h)
  | false =>
    rw [box_ns hy h1, box_ns (hs.trans hy) h2] at h
    have h8 := congrArg (List.take 8) h
    rw [List.append_assoc, List.append_assoc, List.take_left' (wd_len _), List.take_left' (wd_len _)] at h8
    exact hn (wd_inj h8)
theorem back_facts (sy : Bool) (sd ka kb : List UInt8) (ua ub : Int) {da db : List UInt8} (h1 : da.length ≤ 2000) (h2 : db.length ≤ 2000) {s0 s1 s2 : SS} (e0 : ssM sy sd 0 0 [] = s0) (e1 : s0.put ka ua da = s1) (e2 : s1.put kb ub db = s2) :
    s2.opn ka ua (s0.box ka ua da) = some da ∧ s2.opn kb ub (s1.box kb ub db) = some db ∧ s0.box ka ua da ≠ s1.box kb ub db ∧ (sy = true → ¬ (ka = kb ∧ ua = ub) → s2.opn kb ub (s0.box ka ua da) = none) ∧
    s0.ts.length ≤ 1 ∧ s1.ts.length ≤ 2 ∧ s2.ts.length ≤ 3 ∧ (∀ t ∈ s2.ts, tmOK t) := by
  have l0 : s0.ts.length = 0 := by rw [← e0]; rfl
  have l1 : s1.ts.length ≤ 1 := by rw [← e1]; have := put_len (s := s0) (key := ka) (us := ua) (d := da); omega
  have l2 : s2.ts.length ≤ 2 := by rw [← e2]; have := put_len (s := s1) (key := kb) (us := ub) (d := db); omega
  have y0 : s0.sy = sy := by rw [← e0]; rfl
  have y1 : s1.sy = sy := by rw [← e1, put_sy']; exact y0
  have y2 : s2.sy = sy := by rw [← e2, put_sy']; exact y1
  have c0 : s0.cn = 0 := by rw [← e0]; rfl
  have c1 : s1.cn = 0 + 1 := by rw [← e1, put_cn h1, c0]
  have ok0 : ∀ t ∈ s0.ts, tmOK t := by rw [← e0]; intro t ht; cases ht
  have ok2 : ∀ t ∈ s2.ts, tmOK t := by rw [← e2]; refine put_ok ?_; rw [← e1]; exact put_ok ok0
  have hne : s0.box ka ua da ≠ s1.box kb ub db := box_ne (y1.trans y0.symm) h1 h2 (by rw [c0, c1]; decide)
  cases sy with
  | true =>
    have Y0 : s0.Sy := ⟨y0, by rw [c0, l0]; rfl, ok0⟩
    have Y1 : s1.Sy := by rw [← e1]; exact Y0.put (by omega)
    have hb := box_sy (key := ka) (us := ua) y0 h1
    have hb1 : s1.ts = s0.ts ++ [(ka, ua, da, ())] := by rw [← e1, put_sy y0 h1]
    have hlt : s0.cn.toNat < s1.ts.length := by rw [c0, hb1, List.length_append, l0]; exact Nat.lt_succ_self 0
    have q1 : s2.opn ka ua (s0.box ka ua da) = some da := by
      rw [opn_cn y2, hb, ← e2, fnd_put y1 hlt, ← hb, ← opn_cn y1, ← e1]
      exact opn_sy_back Y0 h1
    have q2 : s2.opn kb ub (s1.box kb ub db) = some db := by rw [← e2]; exact opn_sy_back Y1 h2
    refine ⟨q1, q2, hne, fun _ hnn => ?_, by omega, by omega, by omega, ok2⟩
    rw [opn_cn y2, hb, ← e2, fnd_put y1 hlt, fnd_box, if_pos hlt]
    have e : s1.ts.getD s0.cn.toNat (Kd.dflt tmK) = (ka, ua, da, ()) := by
      have hz : s0.ts = [] := List.eq_nil_of_length_eq_zero l0
      rw [hb1, hz, c0]
      rfl
    simp only [e]
    by_cases hk : ka = kb
    · rw [if_pos hk]
      by_cases hu : ua = ub
      · exact (hnn ⟨hk, hu⟩).elim
      · rw [if_neg hu]
    · rw [if_neg hk]
  | false =>
    exact ⟨opn_ns_back y0 y2 h1, opn_ns_back y1 y2 h2, hne, fun e => (by cases e), by omega, by omega, by omega, ok2⟩
def kBack : Con := Con.of [.v .bool, .v opL, .v opL] (fun x => [List.length (α := UInt8) x.2.1.2.2.2.1 = 16, List.length (α := UInt8) x.2.2.1.2.2.2.1 = 16]) (fun _ => ⟨.bool true, []⟩)
def cfgSF : Cfg2 := { ty := tyTabS, fn := fun | 31 => some kSpk6.sum | 32 => some kNewS.sum | 33 => some kSeal.sum | 34 => some kOpn.sum | _ => none, G := shaG, pin := [], eq := eqS }
theorem cfgSF_ok : CfgOK Tryd.prog cfgSF := ⟨tyTabS_ok, (fun f s h => by
  simp only [cfgSF] at h
  split at h
  · injection h with h; subst h; exact .inl spk6_sum
  · injection h with h; subst h; exact .inl newS_sum
  · injection h with h; subst h; exact .inl seal_sum
  · injection h with h; subst h; exact .inl open_sum
  · cases h), eqS_ok⟩
section
attribute [local go_sem] Tryd.f12 kBack kSpk6 kNewS kSeal kOpn cfgSF tyTabS eqS ssM_eta slM eqT_k strEq_id
theorem back_body (p : kBack.Par) (hp : ∀ q ∈ kBack.pre p, q) : BodyOK Tryd.prog cfgSF Tryd.f12 (Tryd.f12.body.get rfl) kBack p := by
  obtain ⟨(sy : Bool), ⟨(k1 : Int), (b1 : Int), (ua : Int), (ka : List UInt8), (da : List UInt8), u1⟩, ⟨(k2 : Int), (b2 : Int), (ub : Int), (kb : List UInt8), (db : List UInt8), u2⟩, u⟩ := p
  obtain ⟨h1, h2, _⟩ := Obs.of hp
  replace h1 : ka.length = 16 := h1
  replace h2 : kb.length = 16 := h2
  refine ⟨?_, Nat.zero_le _, rfl, rfl⟩
  show Tri _ _ _ (Code.seq _ (Code.seq (Code.seq _ (Code.cond _ (Code.seq _ _) _)) (Code.seq (Code.seq _ (Code.cond _ (Code.seq _ _) _)) (Code.seq _ (Code.seq (Code.seq _ (Code.cond _ (Code.seq _ _) _)) (Code.seq _ (Code.seq _ (Code.seq _ (Code.seq _ (Code.seq (Code.seq _ (Code.cond _ (Code.seq _ _) _)) (Code.seq (Code.seq _ (Code.cond _ (Code.seq _ _) _)) (Code.seq _ (Code.seq _ _))))))))))))) _
  by_cases ha : da.length ≤ 2000
  rotate_left
  · have ha' : decide ((2000 : Int) < (da.length : Int)) = true := decide_eq_true (by omega)
    refine Tri.at (by first | (simp only [ha', Con.start, go_sem]; rfl) | rfl) ?_
    repeat (first | ((first | refine Tri.seq (Tri.regT (cfgSF_ok.pins _) ?_) | refine Tri.rgnT (cfgSF_ok.pins _) ?_); (repeat (first | refine RunT.oneA (hp := by simp (maxSteps := 2000000) (disch := first | decide | omega | (simp only [List.length_append, List.length_cons, List.length_nil, List.length_take, List.length_drop]; omega)) only [ha', go_sem]; rfl) (h := ?_) | refine RunT.notA (h := ?_))); refine RunT.nil ?_; try simp only [InBlock, Then]) | refine Tri.cF (by first | (simp only [ha', go_sem]; done) | fail) ?_ | refine Tri.cT (by first | (simp only [ha', go_sem]; done) | fail) ?_ | (refine Tri.skip ?_; try simp only [InBlock, Then]) | (refine Tri.exit ?_; simp only [Then, InBlock, if_true, if_false, ↓reduceIte, Nat.reduceEqDiff]) | refine Tri.seq (Tri.block ?_) | refine Tri.block ?_ | refine Tri.seq ?_ | (refine Tri.ret ?_; refine Con.fin (.inl rfl) (by simp only [Tryd.f12, cfgSF, resA, resA1, go_sem]; rfl) (by simp only [Obs, and_true, true_and]) (by first | (simp only [kBack, Con.of, Con.ofO, resV, ha', go_sem]; done) | fail) trivial rfl rfl))
  have ha' : decide ((2000 : Int) < (da.length : Int)) = false := decide_eq_false (by omega)
  by_cases hb : db.length ≤ 2000
  rotate_left
  · have hb' : decide ((2000 : Int) < (db.length : Int)) = true := decide_eq_true (by omega)
    refine Tri.at (by first | (simp only [ha', hb', Con.start, go_sem]; rfl) | rfl) ?_
    repeat (first | ((first | refine Tri.seq (Tri.regT (cfgSF_ok.pins _) ?_) | refine Tri.rgnT (cfgSF_ok.pins _) ?_); (repeat (first | refine RunT.oneA (hp := by simp (maxSteps := 2000000) (disch := first | decide | omega | (simp only [List.length_append, List.length_cons, List.length_nil, List.length_take, List.length_drop]; omega)) only [ha', hb', go_sem]; rfl) (h := ?_) | refine RunT.notA (h := ?_))); refine RunT.nil ?_; try simp only [InBlock, Then]) | refine Tri.cF (by first | (simp only [ha', hb', go_sem]; done) | fail) ?_ | refine Tri.cT (by first | (simp only [ha', hb', go_sem]; done) | fail) ?_ | (refine Tri.skip ?_; try simp only [InBlock, Then]) | (refine Tri.exit ?_; simp only [Then, InBlock, if_true, if_false, ↓reduceIte, Nat.reduceEqDiff]) | refine Tri.seq (Tri.block ?_) | refine Tri.block ?_ | refine Tri.seq ?_ | (refine Tri.ret ?_; refine Con.fin (.inl rfl) (by simp only [Tryd.f12, cfgSF, resA, resA1, go_sem]; rfl) (by simp only [Obs, and_true, true_and]) (by first | (simp only [kBack, Con.of, Con.ofO, resV, ha', hb', go_sem]; done) | fail) trivial rfl rfl))
  have hb' : decide ((2000 : Int) < (db.length : Int)) = false := decide_eq_false (by omega)
  obtain ⟨s0, e0⟩ : ∃ s, ssM sy [9, 0, 0, 0, 0, 0, 0, 0, 0, 0, 0, 0, 0, 0, 0, 0] 0 0 [] = s := ⟨_, rfl⟩
  obtain ⟨s1, e1⟩ : ∃ s, s0.put ka ua da = s := ⟨_, rfl⟩
  obtain ⟨s2, e2⟩ : ∃ s, s1.put kb ub db = s := ⟨_, rfl⟩
  obtain ⟨q1, q2, q3, q4, l0, l1, l2, ok2⟩ := back_facts sy _ ka kb ua ub ha hb e0 e1 e2
  have m1 := box_len (s := s0) (key := ka) (us := ua) ha
  have m2 := box_len (s := s1) (key := kb) (us := ub) hb
  have f1 : errS da = 0 := if_neg (by omega)
  have f2 : errS db = 0 := if_neg (by omega)
  generalize hx : s0.box ka ua da = x at *
  generalize hy : s1.box kb ub db = y at *
  have q3' : strEq x y = false := decide_eq_false q3
  cases sy with
  | false =>
    refine Tri.at (by first | (simp only [ha', hb', e0, e1, e2, hx, hy, q1, q2, q3', f1, f2, opB_some, opB_none, opE_some, opE_none, Con.start, go_sem]; rfl) | rfl) ?_
    repeat (first | ((first | refine Tri.seq (Tri.regT (cfgSF_ok.pins _) ?_) | refine Tri.rgnT (cfgSF_ok.pins _) ?_); (repeat (first | refine RunT.oneA (hp := by simp (maxSteps := 2000000) (disch := first | decide | omega | (simp only [List.length_append, List.length_cons, List.length_nil, List.length_take, List.length_drop]; omega)) only [ha', hb', e0, e1, e2, hx, hy, q1, q2, q3', f1, f2, opB_some, opB_none, opE_some, opE_none, go_sem]; rfl) (h := ?_) | refine RunT.notA (h := ?_))); refine RunT.nil ?_; try simp only [InBlock, Then]) | refine Tri.cF (by first | (simp only [ha', hb', e0, e1, e2, hx, hy, q1, q2, q3', f1, f2, opB_some, opB_none, opE_some, opE_none, go_sem]; done) | fail) ?_ | refine Tri.cT (by first | (simp only [ha', hb', e0, e1, e2, hx, hy, q1, q2, q3', f1, f2, opB_some, opB_none, opE_some, opE_none, go_sem]; done) | fail) ?_ | (refine Tri.skip ?_; try simp only [InBlock, Then]) | (refine Tri.exit ?_; simp only [Then, InBlock, if_true, if_false, ↓reduceIte, Nat.reduceEqDiff]) | refine Tri.seq (Tri.block ?_) | refine Tri.block ?_ | refine Tri.seq ?_ | (refine Tri.ret ?_; refine Con.fin (.inl rfl) (by simp only [Tryd.f12, cfgSF, resA, resA1, go_sem]; rfl) (by simp only [Obs, and_true, true_and]) (by first | (simp only [kBack, Con.of, Con.ofO, resV, ha', hb', e0, e1, e2, hx, hy, q1, q2, q3', f1, f2, opB_some, opB_none, opE_some, opE_none, go_sem]; done) | fail) trivial rfl rfl))
  | true =>
    by_cases hk : ka = kb
    · by_cases hu : ua = ub
      · have hk' : eqT k16 ka kb = true := decide_eq_true hk
        have hu' : decide (ua = ub) = true := decide_eq_true hu
        refine Tri.at (by first | (simp only [ha', hb', e0, e1, e2, hx, hy, q1, q2, q3', f1, f2, hk', hu', opB_some, opB_none, opE_some, opE_none, Con.start, go_sem]; rfl) | rfl) ?_
        repeat (first | ((first | refine Tri.seq (Tri.regT (cfgSF_ok.pins _) ?_) | refine Tri.rgnT (cfgSF_ok.pins _) ?_); (repeat (first | refine RunT.oneA (hp := by simp (maxSteps := 2000000) (disch := first | decide | omega | (simp only [List.length_append, List.length_cons, List.length_nil, List.length_take, List.length_drop]; omega)) only [ha', hb', e0, e1, e2, hx, hy, q1, q2, q3', f1, f2, hk', hu', opB_some, opB_none, opE_some, opE_none, go_sem]; rfl) (h := ?_) | refine RunT.notA (h := ?_))); refine RunT.nil ?_; try simp only [InBlock, Then]) | refine Tri.cF (by first | (simp only [ha', hb', e0, e1, e2, hx, hy, q1, q2, q3', f1, f2, hk', hu', opB_some, opB_none, opE_some, opE_none, go_sem]; done) | fail) ?_ | refine Tri.cT (by first | (simp only [ha', hb', e0, e1, e2, hx, hy, q1, q2, q3', f1, f2, hk', hu', opB_some, opB_none, opE_some, opE_none, go_sem]; done) | fail) ?_ | (refine Tri.skip ?_; try simp only [InBlock, Then]) | (refine Tri.exit ?_; simp only [Then, InBlock, if_true, if_false, ↓reduceIte, Nat.reduceEqDiff]) | refine Tri.seq (Tri.block ?_) | refine Tri.block ?_ | refine Tri.seq ?_ | (refine Tri.ret ?_; refine Con.fin (.inl rfl) (by simp only [Tryd.f12, cfgSF, resA, resA1, go_sem]; rfl) (by simp only [Obs, and_true, true_and]) (by first | (simp only [kBack, Con.of, Con.ofO, resV, ha', hb', e0, e1, e2, hx, hy, q1, q2, q3', f1, f2, hk', hu', opB_some, opB_none, opE_some, opE_none, go_sem]; done) | fail) trivial rfl rfl))
      · have hk' : eqT k16 ka kb = true := decide_eq_true hk
        have hu' : decide (ua = ub) = false := decide_eq_false hu
        have q5 := q4 rfl (fun h => hu h.2)
        refine Tri.at (by first | (simp only [ha', hb', e0, e1, e2, hx, hy, q1, q2, q3', q5, f1, f2, hk', hu', opB_some, opB_none, opE_some, opE_none, Con.start, go_sem]; rfl) | rfl) ?_
        repeat (first | ((first | refine Tri.seq (Tri.regT (cfgSF_ok.pins _) ?_) | refine Tri.rgnT (cfgSF_ok.pins _) ?_); (repeat (first | refine RunT.oneA (hp := by simp (maxSteps := 2000000) (disch := first | decide | omega | (simp only [List.length_append, List.length_cons, List.length_nil, List.length_take, List.length_drop]; omega)) only [ha', hb', e0, e1, e2, hx, hy, q1, q2, q3', q5, f1, f2, hk', hu', opB_some, opB_none, opE_some, opE_none, go_sem]; rfl) (h := ?_) | refine RunT.notA (h := ?_))); refine RunT.nil ?_; try simp only [InBlock, Then]) | refine Tri.cF (by first | (simp only [ha', hb', e0, e1, e2, hx, hy, q1, q2, q3', q5, f1, f2, hk', hu', opB_some, opB_none, opE_some, opE_none, go_sem]; done) | fail) ?_ | refine Tri.cT (by first | (simp only [ha', hb', e0, e1, e2, hx, hy, q1, q2, q3', q5, f1, f2, hk', hu', opB_some, opB_none, opE_some, opE_none, go_sem]; done) | fail) ?_ | (refine Tri.skip ?_; try simp only [InBlock, Then]) | (refine Tri.exit ?_; simp only [Then, InBlock, if_true, if_false, ↓reduceIte, Nat.reduceEqDiff]) | refine Tri.seq (Tri.block ?_) | refine Tri.block ?_ | refine Tri.seq ?_ | (refine Tri.ret ?_; refine Con.fin (.inl rfl) (by simp only [Tryd.f12, cfgSF, resA, resA1, go_sem]; rfl) (by simp only [Obs, and_true, true_and]) (by first | (simp only [kBack, Con.of, Con.ofO, resV, ha', hb', e0, e1, e2, hx, hy, q1, q2, q3', q5, f1, f2, hk', hu', opB_some, opB_none, opE_some, opE_none, go_sem]; done) | fail) trivial rfl rfl))
        refine Tri.ret ?_
        refine Con.fin (.inl rfl) (by simp only [Tryd.f12, cfgSF, resA, resA1, go_sem]; rfl) (by simp only [Obs, and_true, true_and]) ?_ ?_ rfl rfl
        · rfl
        · trivial
    · have hk' : eqT k16 ka kb = false := decide_eq_false hk
      have q5 := q4 rfl (fun h => hk h.1)
      refine Tri.at (by first | (simp only [ha', hb', e0, e1, e2, hx, hy, q1, q2, q3', q5, f1, f2, hk', opB_some, opB_none, opE_some, opE_none, Con.start, go_sem]; rfl) | rfl) ?_
      repeat (first | ((first | refine Tri.seq (Tri.regT (cfgSF_ok.pins _) ?_) | refine Tri.rgnT (cfgSF_ok.pins _) ?_); (repeat (first | refine RunT.oneA (hp := by simp (maxSteps := 2000000) (disch := first | decide | omega | (simp only [List.length_append, List.length_cons, List.length_nil, List.length_take, List.length_drop]; omega)) only [ha', hb', e0, e1, e2, hx, hy, q1, q2, q3', q5, f1, f2, hk', opB_some, opB_none, opE_some, opE_none, go_sem]; rfl) (h := ?_) | refine RunT.notA (h := ?_))); refine RunT.nil ?_; try simp only [InBlock, Then]) | refine Tri.cF (by first | (simp only [ha', hb', e0, e1, e2, hx, hy, q1, q2, q3', q5, f1, f2, hk', opB_some, opB_none, opE_some, opE_none, go_sem]; done) | fail) ?_ | refine Tri.cT (by first | (simp only [ha', hb', e0, e1, e2, hx, hy, q1, q2, q3', q5, f1, f2, hk', opB_some, opB_none, opE_some, opE_none, go_sem]; done) | fail) ?_ | (refine Tri.skip ?_; try simp only [InBlock, Then]) | (refine Tri.exit ?_; simp only [Then, InBlock, if_true, if_false, ↓reduceIte, Nat.reduceEqDiff]) | refine Tri.seq (Tri.block ?_) | refine Tri.block ?_ | refine Tri.seq ?_ | (refine Tri.ret ?_; refine Con.fin (.inl rfl) (by simp only [Tryd.f12, cfgSF, resA, resA1, go_sem]; rfl) (by simp only [Obs, and_true, true_and]) (by first | (simp only [kBack, Con.of, Con.ofO, resV, ha', hb', e0, e1, e2, hx, hy, q1, q2, q3', q5, f1, f2, hk', opB_some, opB_none, opE_some, opE_none, go_sem]; done) | fail) trivial rfl rfl))
      refine Tri.ret ?_
      refine Con.fin (.inl rfl) (by simp only [Tryd.f12, cfgSF, resA, resA1, go_sem]; rfl) (by simp only [Obs, and_true, true_and]) ?_ ?_ rfl rfl
      · rfl
      · trivial
theorem back_sum : FSumOK Tryd.prog cfgSF.G 12 kBack.sum := Con.sumOK cfgSF_ok kBack Tryd.func12 rfl rfl (Con.of_inv _ _ _) back_body
end
end Go.Proofs.YticgfjalikmniaaDoor
