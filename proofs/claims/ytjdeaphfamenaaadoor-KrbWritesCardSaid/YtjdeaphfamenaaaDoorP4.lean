/- Part of a proof: messages are written as the document says, and what was written is read again -/
import Derived.Test.YtjdeaphfamenaaaDoorP3
set_option linter.unusedVariables false
set_option linter.unusedSimpArgs false
set_option linter.unusedSectionVars false
namespace Go.Proofs.YtjdeaphfamenaaaDoor
open Go.Vc Go.Proofs
set_option maxRecDepth 10000
set_option maxHeartbeats 4000000
section
attribute [local go_sem] Tryd.f77 kRRt kHs kRNmd cfgKY2 tyTabM tyTabK tyTab
theorem rrt_3 (p : kRRt.Par) (hp : ∀ q ∈ kRRt.pre p, q) (hk : (p.1.1 : Int) = 3) : BodyOK Tryd.prog cfgKY2 Tryd.f77 (Tryd.f77.body.get rfl) kRRt p := by
  obtain ⟨⟨(kd : Int), (cl : List UInt8), (sv : List UInt8), (no : UInt64), (en : Int), (fl : Int), (ti : List UInt8), (se : List UInt8), (co : Int), u1⟩, u⟩ := p
  obtain ⟨hc, hs, _⟩ := Obs.of hp
  replace hc : cl.length ≤ 1000000000 := hc
  replace hs : sv.length ≤ 1000000000 := hs
  replace hk : kd = 3 := hk
  subst hk
  refine ⟨?_, Nat.zero_le _, rfl, rfl⟩
  show Tri _ _ _ (Code.seq _ (Code.seq _ (Code.seq (Code.seq _ (Code.cond _ (Code.seq _ _) _)) (Code.seq (Code.seq _ (Code.cond _ (Code.seq _ _) _)) (Code.seq (Code.seq _ (Code.cond _ (Code.seq _ _) _)) (Code.seq (Code.seq _ (Code.cond _ (Code.seq _ _) _)) (Code.seq (Code.seq _ (Code.cond _ (Code.seq _ _) _)) (Code.seq (Code.seq _ (Code.cond _ (Code.seq _ _) _)) (Code.seq (Code.seq _ (Code.cond _ (Code.seq _ _) _)) (Code.seq _ _)))))))))) _
  have z1 : decide ((3 : Int) < 1) = false := rfl
  have z7 : decide ((7 : Int) < 3) = false := rfl
  have q32 : hsM (3 : Int) 32 = false := by decide
  have q33 : hsM (3 : Int) 33 = false := by decide
  have q35 : hsM (3 : Int) 35 = false := by decide
  have q36 : hsM (3 : Int) 36 = false := by decide
  have q37 : hsM (3 : Int) 37 = true := by decide
  have q38 : hsM (3 : Int) 38 = true := by decide
  have q39 : hsM (3 : Int) 39 = false := by decide
  cases a32 : strEq cl []
  case false =>
    have e : (fdR ((3 : Int), cl, sv, no, en, fl, ti, se, co, ())).isSome = false := by
      rw [fd_3]
      rw [Bool.eq_false_iff]; intro h
      first | (rw [a32] at h; simp at h; done) | (simp only [Bool.and_eq_true, Bool.not_eq_true', strEq_nil_len, zero_eq_i, decide_eq_true_eq, decide_eq_false_iff_not] at h; simp only [Bool.not_eq_false', strEq_nil_r, strEq_nil_len, decide_eq_true_eq] at a32; omega)
    refine Tri.at (by first | (simp only [Con.start, go_sem]; rfl) | rfl) ?_
    repeat (first | ((first | refine Tri.seq (Tri.regT (cfgKY2_ok.pins _) ?_) | refine Tri.rgnT (cfgKY2_ok.pins _) ?_); (repeat (first | refine RunT.oneA (hp := by simp (maxSteps := 2000000) (disch := first | decide | omega | (simp only [List.length_append, List.length_cons, List.length_nil, List.length_take, List.length_drop]; omega)) only [q32, a32, go_sem]; rfl) (h := ?_) | refine RunT.notA (h := ?_))); refine RunT.nil ?_; try simp only [InBlock, Then]) | refine Tri.cF (by first | (simp only [go_sem]; done) | fail) ?_ | refine Tri.cT (by first | (simp only [go_sem]; done) | fail) ?_ | (refine Tri.skip ?_; try simp only [Then]) | (refine Tri.exit ?_; simp only [Then, InBlock, if_true, if_false, ↓reduceIte, Nat.reduceEqDiff]) | refine Tri.seq (Tri.block ?_) | refine Tri.block ?_ | refine Tri.seq ?_ | (refine Tri.ret ?_; refine Con.fin (.inl rfl) (by simp only [Tryd.f77, cfgKY2, resA, resA1, go_sem]; rfl) (by simp only [Obs]) (by first | (simp only [kRRt, Con.of, resV, e, go_sem]; done) | fail) trivial rfl rfl))
  case true =>
    refine Tri.at (by first | (simp only [Con.start, go_sem]; rfl) | rfl) ?_
    repeat (first | ((first | refine Tri.seq (Tri.regT (cfgKY2_ok.pins _) ?_) | refine Tri.rgnT (cfgKY2_ok.pins _) ?_); (repeat (first | refine RunT.oneA (hp := by simp (maxSteps := 2000000) (disch := first | decide | omega | (simp only [List.length_append, List.length_cons, List.length_nil, List.length_take, List.length_drop]; omega)) only [q32, a32, go_sem]; rfl) (h := ?_) | refine RunT.notA (h := ?_))); refine RunT.nil ?_; try simp only [InBlock, Then]) | refine Tri.cF (by first | (simp only [go_sem]; done) | fail) ?_ | refine Tri.cT (by first | (simp only [go_sem]; done) | fail) ?_ | (refine Tri.skip ?_; try simp only [Then]) | (refine Tri.exit ?_; simp only [Then, InBlock, if_true, if_false, ↓reduceIte, Nat.reduceEqDiff]) | refine Tri.seq (Tri.block ?_) | refine Tri.block ?_ | refine Tri.seq ?_ | (refine Tri.ret ?_; refine Con.fin (.inl rfl) (by simp only [Tryd.f77, cfgKY2, resA, resA1, go_sem]; rfl) (by simp only [Obs, and_true, true_and]) (by first | (simp only [kRRt, Con.of, Con.ofO, resV, z1, z7, q32, a32, go_sem]; done) | fail) trivial rfl rfl))
    cases a33 : strEq sv []
    case false =>
      have e : (fdR ((3 : Int), cl, sv, no, en, fl, ti, se, co, ())).isSome = false := by
        rw [fd_3]
        rw [Bool.eq_false_iff]; intro h
        first | (rw [a33] at h; simp at h; done) | (simp only [Bool.and_eq_true, Bool.not_eq_true', strEq_nil_len, zero_eq_i, decide_eq_true_eq, decide_eq_false_iff_not] at h; simp only [Bool.not_eq_false', strEq_nil_r, strEq_nil_len, decide_eq_true_eq] at a33; omega)
      refine Tri.at (by first | (simp only [q33, a33, e, Con.start, go_sem]; rfl) | rfl) ?_
      repeat (first | ((first | refine Tri.seq (Tri.regT (cfgKY2_ok.pins _) ?_) | refine Tri.rgnT (cfgKY2_ok.pins _) ?_); (repeat (first | refine RunT.oneA (hp := by simp (maxSteps := 2000000) (disch := first | decide | omega | (simp only [List.length_append, List.length_cons, List.length_nil, List.length_take, List.length_drop]; omega)) only [q33, a33, go_sem]; rfl) (h := ?_) | refine RunT.notA (h := ?_))); refine RunT.nil ?_; try simp only [Then]) | refine Tri.cF (by first | (simp only [go_sem]; done) | fail) ?_ | refine Tri.cT (by first | (simp only [go_sem]; done) | fail) ?_ | (refine Tri.skip ?_; try simp only [InBlock, Then]) | (refine Tri.exit ?_; simp only [Then, InBlock, if_true, if_false, ↓reduceIte, Nat.reduceEqDiff]) | refine Tri.seq (Tri.block ?_) | refine Tri.block ?_ | refine Tri.seq ?_ | (refine Tri.ret ?_; refine Con.fin (.inl rfl) (by simp only [Tryd.f77, cfgKY2, resA, resA1, go_sem]; rfl) (by simp only [Obs]) (by first | (simp only [kRRt, Con.of, resV, e, go_sem]; done) | fail) trivial rfl rfl))
    case true =>
      refine Tri.at (by first | (simp only [q33, a33, Con.start, go_sem]; rfl) | rfl) ?_
      repeat (first | ((first | refine Tri.seq (Tri.regT (cfgKY2_ok.pins _) ?_) | refine Tri.rgnT (cfgKY2_ok.pins _) ?_); (repeat (first | refine RunT.oneA (hp := by simp (maxSteps := 2000000) (disch := first | decide | omega | (simp only [List.length_append, List.length_cons, List.length_nil, List.length_take, List.length_drop]; omega)) only [q33, a33, go_sem]; rfl) (h := ?_) | refine RunT.notA (h := ?_))); refine RunT.nil ?_; try simp only [Then]) | refine Tri.cF (by first | (simp only [go_sem]; done) | fail) ?_ | refine Tri.cT (by first | (simp only [go_sem]; done) | fail) ?_ | (refine Tri.skip ?_; try simp only [Then]) | (refine Tri.exit ?_; simp only [Then, InBlock, if_true, if_false, ↓reduceIte, Nat.reduceEqDiff]) | refine Tri.seq (Tri.block ?_) | refine Tri.block ?_ | refine Tri.seq ?_ | (refine Tri.ret ?_; refine Con.fin (.inl rfl) (by simp only [Tryd.f77, cfgKY2, resA, resA1, go_sem]; rfl) (by simp only [Obs, and_true, true_and]) (by first | (simp only [kRRt, Con.of, Con.ofO, resV, q33, a33, go_sem]; done) | fail) trivial rfl rfl))
      cases b35 : decide (en < 0)
      case true =>
        have e : (fdR ((3 : Int), cl, sv, no, en, fl, ti, se, co, ())).isSome = false := by
          rw [fd_3]
          rw [Bool.eq_false_iff]; intro h
          first | (rw [b35] at h; simp at h; done) | (simp only [Bool.and_eq_true, Bool.not_eq_true', strEq_nil_len, zero_eq_i, decide_eq_true_eq, decide_eq_false_iff_not] at h; simp only [decide_eq_true_eq] at b35; omega)
        refine Tri.at (by first | (simp only [q35, b35, e, Con.start, go_sem]; rfl) | rfl) ?_
        repeat (first | ((first | refine Tri.seq (Tri.regT (cfgKY2_ok.pins _) ?_) | refine Tri.rgnT (cfgKY2_ok.pins _) ?_); (repeat (first | refine RunT.oneA (hp := by simp (maxSteps := 2000000) (disch := first | decide | omega | (simp only [List.length_append, List.length_cons, List.length_nil, List.length_take, List.length_drop]; omega)) only [b35, go_sem]; rfl) (h := ?_) | refine RunT.notA (h := ?_))); refine RunT.nil ?_; try simp only [Then]) | refine Tri.cF (by first | (simp only [go_sem]; done) | fail) ?_ | refine Tri.cT (by first | (simp only [go_sem]; done) | fail) ?_ | (refine Tri.skip ?_; try simp only [InBlock, Then]) | (refine Tri.exit ?_; simp only [Then, InBlock, if_true, if_false, ↓reduceIte, Nat.reduceEqDiff]) | refine Tri.seq (Tri.block ?_) | refine Tri.block ?_ | refine Tri.seq ?_ | (refine Tri.ret ?_; refine Con.fin (.inl rfl) (by simp only [Tryd.f77, cfgKY2, resA, resA1, go_sem]; rfl) (by simp only [Obs]) (by first | (simp only [kRRt, Con.of, resV, e, go_sem]; done) | fail) trivial rfl rfl))
      case false =>
        cases c35 : decide ((1099511627776 : Int) < en)
        case true =>
          have e : (fdR ((3 : Int), cl, sv, no, en, fl, ti, se, co, ())).isSome = false := by
            rw [fd_3]
            rw [Bool.eq_false_iff]; intro h
            first | (rw [c35] at h; simp at h; done) | (simp only [Bool.and_eq_true, Bool.not_eq_true', strEq_nil_len, zero_eq_i, decide_eq_true_eq, decide_eq_false_iff_not] at h; simp only [decide_eq_true_eq] at c35; omega)
          refine Tri.at (by first | (simp only [q35, b35, c35, e, Con.start, go_sem]; rfl) | rfl) ?_
          repeat (first | ((first | refine Tri.seq (Tri.regT (cfgKY2_ok.pins _) ?_) | refine Tri.rgnT (cfgKY2_ok.pins _) ?_); (repeat (first | refine RunT.oneA (hp := by simp (maxSteps := 2000000) (disch := first | decide | omega | (simp only [List.length_append, List.length_cons, List.length_nil, List.length_take, List.length_drop]; omega)) only [b35, c35, go_sem]; rfl) (h := ?_) | refine RunT.notA (h := ?_))); refine RunT.nil ?_; try simp only [Then]) | refine Tri.cF (by first | (simp only [go_sem]; done) | fail) ?_ | refine Tri.cT (by first | (simp only [go_sem]; done) | fail) ?_ | (refine Tri.skip ?_; try simp only [InBlock, Then]) | (refine Tri.exit ?_; simp only [Then, InBlock, if_true, if_false, ↓reduceIte, Nat.reduceEqDiff]) | refine Tri.seq (Tri.block ?_) | refine Tri.block ?_ | refine Tri.seq ?_ | (refine Tri.ret ?_; refine Con.fin (.inl rfl) (by simp only [Tryd.f77, cfgKY2, resA, resA1, go_sem]; rfl) (by simp only [Obs]) (by first | (simp only [kRRt, Con.of, resV, e, go_sem]; done) | fail) trivial rfl rfl))
        case false =>
          cases d35 : decide (en = 0)
          case false =>
            have e : (fdR ((3 : Int), cl, sv, no, en, fl, ti, se, co, ())).isSome = false := by
              rw [fd_3]
              rw [Bool.eq_false_iff]; intro h
              first | (rw [d35] at h; simp at h; done) | (simp only [Bool.and_eq_true, Bool.not_eq_true', strEq_nil_len, zero_eq_i, decide_eq_true_eq, decide_eq_false_iff_not] at h; simp only [decide_eq_false_iff_not] at d35; omega)
            refine Tri.at (by first | (simp only [q35, b35, c35, d35, e, Con.start, go_sem]; rfl) | rfl) ?_
            repeat (first | ((first | refine Tri.seq (Tri.regT (cfgKY2_ok.pins _) ?_) | refine Tri.rgnT (cfgKY2_ok.pins _) ?_); (repeat (first | refine RunT.oneA (hp := by simp (maxSteps := 2000000) (disch := first | decide | omega | (simp only [List.length_append, List.length_cons, List.length_nil, List.length_take, List.length_drop]; omega)) only [q35, b35, c35, d35, go_sem]; rfl) (h := ?_) | refine RunT.notA (h := ?_))); refine RunT.nil ?_; try simp only [Then]) | refine Tri.cF (by first | (simp only [go_sem]; done) | fail) ?_ | refine Tri.cT (by first | (simp only [go_sem]; done) | fail) ?_ | (refine Tri.skip ?_; try simp only [InBlock, Then]) | (refine Tri.exit ?_; simp only [Then, InBlock, if_true, if_false, ↓reduceIte, Nat.reduceEqDiff]) | refine Tri.seq (Tri.block ?_) | refine Tri.block ?_ | refine Tri.seq ?_ | (refine Tri.ret ?_; refine Con.fin (.inl rfl) (by simp only [Tryd.f77, cfgKY2, resA, resA1, go_sem]; rfl) (by simp only [Obs]) (by first | (simp only [kRRt, Con.of, resV, e, go_sem]; done) | fail) trivial rfl rfl))
          case true =>
            refine Tri.at (by first | (simp only [q35, b35, c35, d35, Con.start, go_sem]; rfl) | rfl) ?_
            repeat (first | ((first | refine Tri.seq (Tri.regT (cfgKY2_ok.pins _) ?_) | refine Tri.rgnT (cfgKY2_ok.pins _) ?_); (repeat (first | refine RunT.oneA (hp := by simp (maxSteps := 2000000) (disch := first | decide | omega | (simp only [List.length_append, List.length_cons, List.length_nil, List.length_take, List.length_drop]; omega)) only [q35, b35, c35, d35, go_sem]; rfl) (h := ?_) | refine RunT.notA (h := ?_))); refine RunT.nil ?_; try simp only [Then]) | refine Tri.cF (by first | (simp only [go_sem]; done) | fail) ?_ | refine Tri.cT (by first | (simp only [go_sem]; done) | fail) ?_ | (refine Tri.skip ?_; try simp only [Then]) | (refine Tri.exit ?_; simp only [Then, InBlock, if_true, if_false, ↓reduceIte, Nat.reduceEqDiff]) | refine Tri.seq (Tri.block ?_) | refine Tri.block ?_ | refine Tri.seq ?_ | (refine Tri.ret ?_; refine Con.fin (.inl rfl) (by simp only [Tryd.f77, cfgKY2, resA, resA1, go_sem]; rfl) (by simp only [Obs, and_true, true_and]) (by first | (simp only [kRRt, Con.of, Con.ofO, resV, q35, b35, c35, d35, go_sem]; done) | fail) trivial rfl rfl))
            cases b36 : decide (fl < 0)
            case true =>
              have e : (fdR ((3 : Int), cl, sv, no, en, fl, ti, se, co, ())).isSome = false := by
                rw [fd_3]
                rw [Bool.eq_false_iff]; intro h
                first | (rw [b36] at h; simp at h; done) | (simp only [Bool.and_eq_true, Bool.not_eq_true', strEq_nil_len, zero_eq_i, decide_eq_true_eq, decide_eq_false_iff_not] at h; simp only [decide_eq_true_eq] at b36; omega)
              refine Tri.at (by first | (simp only [q36, b36, e, Con.start, go_sem]; rfl) | rfl) ?_
              repeat (first | ((first | refine Tri.seq (Tri.regT (cfgKY2_ok.pins _) ?_) | refine Tri.rgnT (cfgKY2_ok.pins _) ?_); (repeat (first | refine RunT.oneA (hp := by simp (maxSteps := 2000000) (disch := first | decide | omega | (simp only [List.length_append, List.length_cons, List.length_nil, List.length_take, List.length_drop]; omega)) only [b36, go_sem]; rfl) (h := ?_) | refine RunT.notA (h := ?_))); refine RunT.nil ?_; try simp only [Then]) | refine Tri.cF (by first | (simp only [go_sem]; done) | fail) ?_ | refine Tri.cT (by first | (simp only [go_sem]; done) | fail) ?_ | (refine Tri.skip ?_; try simp only [InBlock, Then]) | (refine Tri.exit ?_; simp only [Then, InBlock, if_true, if_false, ↓reduceIte, Nat.reduceEqDiff]) | refine Tri.seq (Tri.block ?_) | refine Tri.block ?_ | refine Tri.seq ?_ | (refine Tri.ret ?_; refine Con.fin (.inl rfl) (by simp only [Tryd.f77, cfgKY2, resA, resA1, go_sem]; rfl) (by simp only [Obs]) (by first | (simp only [kRRt, Con.of, resV, e, go_sem]; done) | fail) trivial rfl rfl))
            case false =>
              cases c36 : decide ((3 : Int) < fl)
              case true =>
                have e : (fdR ((3 : Int), cl, sv, no, en, fl, ti, se, co, ())).isSome = false := by
                  rw [fd_3]
                  rw [Bool.eq_false_iff]; intro h
                  first | (rw [c36] at h; simp at h; done) | (simp only [Bool.and_eq_true, Bool.not_eq_true', strEq_nil_len, zero_eq_i, decide_eq_true_eq, decide_eq_false_iff_not] at h; simp only [decide_eq_true_eq] at c36; omega)
                refine Tri.at (by first | (simp only [q36, b36, c36, e, Con.start, go_sem]; rfl) | rfl) ?_
                repeat (first | ((first | refine Tri.seq (Tri.regT (cfgKY2_ok.pins _) ?_) | refine Tri.rgnT (cfgKY2_ok.pins _) ?_); (repeat (first | refine RunT.oneA (hp := by simp (maxSteps := 2000000) (disch := first | decide | omega | (simp only [List.length_append, List.length_cons, List.length_nil, List.length_take, List.length_drop]; omega)) only [b36, c36, go_sem]; rfl) (h := ?_) | refine RunT.notA (h := ?_))); refine RunT.nil ?_; try simp only [Then]) | refine Tri.cF (by first | (simp only [go_sem]; done) | fail) ?_ | refine Tri.cT (by first | (simp only [go_sem]; done) | fail) ?_ | (refine Tri.skip ?_; try simp only [InBlock, Then]) | (refine Tri.exit ?_; simp only [Then, InBlock, if_true, if_false, ↓reduceIte, Nat.reduceEqDiff]) | refine Tri.seq (Tri.block ?_) | refine Tri.block ?_ | refine Tri.seq ?_ | (refine Tri.ret ?_; refine Con.fin (.inl rfl) (by simp only [Tryd.f77, cfgKY2, resA, resA1, go_sem]; rfl) (by simp only [Obs]) (by first | (simp only [kRRt, Con.of, resV, e, go_sem]; done) | fail) trivial rfl rfl))
              case false =>
                cases d36 : decide (fl = 0)
                case false =>
                  have e : (fdR ((3 : Int), cl, sv, no, en, fl, ti, se, co, ())).isSome = false := by
                    rw [fd_3]
                    rw [Bool.eq_false_iff]; intro h
                    first | (rw [d36] at h; simp at h; done) | (simp only [Bool.and_eq_true, Bool.not_eq_true', strEq_nil_len, zero_eq_i, decide_eq_true_eq, decide_eq_false_iff_not] at h; simp only [decide_eq_false_iff_not] at d36; omega)
                  refine Tri.at (by first | (simp only [q36, b36, c36, d36, e, Con.start, go_sem]; rfl) | rfl) ?_
                  repeat (first | ((first | refine Tri.seq (Tri.regT (cfgKY2_ok.pins _) ?_) | refine Tri.rgnT (cfgKY2_ok.pins _) ?_); (repeat (first | refine RunT.oneA (hp := by simp (maxSteps := 2000000) (disch := first | decide | omega | (simp only [List.length_append, List.length_cons, List.length_nil, List.length_take, List.length_drop]; omega)) only [q36, b36, c36, d36, go_sem]; rfl) (h := ?_) | refine RunT.notA (h := ?_))); refine RunT.nil ?_; try simp only [Then]) | refine Tri.cF (by first | (simp only [go_sem]; done) | fail) ?_ | refine Tri.cT (by first | (simp only [go_sem]; done) | fail) ?_ | (refine Tri.skip ?_; try simp only [InBlock, Then]) | (refine Tri.exit ?_; simp only [Then, InBlock, if_true, if_false, ↓reduceIte, Nat.reduceEqDiff]) | refine Tri.seq (Tri.block ?_) | refine Tri.block ?_ | refine Tri.seq ?_ | (refine Tri.ret ?_; refine Con.fin (.inl rfl) (by simp only [Tryd.f77, cfgKY2, resA, resA1, go_sem]; rfl) (by simp only [Obs]) (by first | (simp only [kRRt, Con.of, resV, e, go_sem]; done) | fail) trivial rfl rfl))
                case true =>
                  refine Tri.at (by first | (simp only [q36, b36, c36, d36, Con.start, go_sem]; rfl) | rfl) ?_
                  repeat (first | ((first | refine Tri.seq (Tri.regT (cfgKY2_ok.pins _) ?_) | refine Tri.rgnT (cfgKY2_ok.pins _) ?_); (repeat (first | refine RunT.oneA (hp := by simp (maxSteps := 2000000) (disch := first | decide | omega | (simp only [List.length_append, List.length_cons, List.length_nil, List.length_take, List.length_drop]; omega)) only [q36, b36, c36, d36, go_sem]; rfl) (h := ?_) | refine RunT.notA (h := ?_))); refine RunT.nil ?_; try simp only [Then]) | refine Tri.cF (by first | (simp only [go_sem]; done) | fail) ?_ | refine Tri.cT (by first | (simp only [go_sem]; done) | fail) ?_ | (refine Tri.skip ?_; try simp only [Then]) | (refine Tri.exit ?_; simp only [Then, InBlock, if_true, if_false, ↓reduceIte, Nat.reduceEqDiff]) | refine Tri.seq (Tri.block ?_) | refine Tri.block ?_ | refine Tri.seq ?_ | (refine Tri.ret ?_; refine Con.fin (.inl rfl) (by simp only [Tryd.f77, cfgKY2, resA, resA1, go_sem]; rfl) (by simp only [Obs, and_true, true_and]) (by first | (simp only [kRRt, Con.of, Con.ofO, resV, q36, b36, c36, d36, go_sem]; done) | fail) trivial rfl rfl))
                  cases b37 : decide ((3000 : Int) < ((ti.length : Nat) : Int))
                  case true =>
                    have e : (fdR ((3 : Int), cl, sv, no, en, fl, ti, se, co, ())).isSome = false := by
                      rw [fd_3]
                      rw [Bool.eq_false_iff]; intro h
                      first | (rw [b37] at h; simp at h; done) | (simp only [Bool.and_eq_true, Bool.not_eq_true', Bool.not_eq_false', strEq_nil_r, strEq_nil_len, zero_eq_i, decide_eq_true_eq, decide_eq_false_iff_not] at h; simp only [Bool.and_eq_true, Bool.not_eq_true', Bool.not_eq_false', strEq_nil_r, strEq_nil_len, zero_eq_i, decide_eq_true_eq, decide_eq_false_iff_not] at b37; omega)
                    refine Tri.at (by first | (simp only [q37, q38, b37, e, Con.start, go_sem]; rfl) | rfl) ?_
                    repeat (first | ((first | refine Tri.seq (Tri.regT (cfgKY2_ok.pins _) ?_) | refine Tri.rgnT (cfgKY2_ok.pins _) ?_); (repeat (first | refine RunT.oneA (hp := by simp (maxSteps := 2000000) (disch := first | decide | omega | (simp only [List.length_append, List.length_cons, List.length_nil, List.length_take, List.length_drop]; omega)) only [b37, go_sem]; rfl) (h := ?_) | refine RunT.notA (h := ?_))); refine RunT.nil ?_; try simp only [Then]) | refine Tri.cF (by first | (simp only [go_sem]; done) | fail) ?_ | refine Tri.cT (by first | (simp only [go_sem]; done) | fail) ?_ | (refine Tri.skip ?_; try simp only [InBlock, Then]) | (refine Tri.exit ?_; simp only [Then, InBlock, if_true, if_false, ↓reduceIte, Nat.reduceEqDiff]) | refine Tri.seq (Tri.block ?_) | refine Tri.block ?_ | refine Tri.seq ?_ | (refine Tri.ret ?_; refine Con.fin (.inl rfl) (by simp only [Tryd.f77, cfgKY2, resA, resA1, go_sem]; rfl) (by simp only [Obs]) (by first | (simp only [kRRt, Con.of, resV, e, go_sem]; done) | fail) trivial rfl rfl))
                  case false =>
                    cases b38 : decide ((3000 : Int) < ((se.length : Nat) : Int))
                    case true =>
                      have e : (fdR ((3 : Int), cl, sv, no, en, fl, ti, se, co, ())).isSome = false := by
                        rw [fd_3]
                        rw [Bool.eq_false_iff]; intro h
                        first | (rw [b38] at h; simp at h; done) | (simp only [Bool.and_eq_true, Bool.not_eq_true', Bool.not_eq_false', strEq_nil_r, strEq_nil_len, zero_eq_i, decide_eq_true_eq, decide_eq_false_iff_not] at h; simp only [Bool.and_eq_true, Bool.not_eq_true', Bool.not_eq_false', strEq_nil_r, strEq_nil_len, zero_eq_i, decide_eq_true_eq, decide_eq_false_iff_not] at b38; omega)
                      refine Tri.at (by first | (simp only [q37, q38, b37, b38, e, Con.start, go_sem]; rfl) | rfl) ?_
                      repeat (first | ((first | refine Tri.seq (Tri.regT (cfgKY2_ok.pins _) ?_) | refine Tri.rgnT (cfgKY2_ok.pins _) ?_); (repeat (first | refine RunT.oneA (hp := by simp (maxSteps := 2000000) (disch := first | decide | omega | (simp only [List.length_append, List.length_cons, List.length_nil, List.length_take, List.length_drop]; omega)) only [q37, b37, b38, go_sem]; rfl) (h := ?_) | refine RunT.notA (h := ?_))); refine RunT.nil ?_; try simp only [Then]) | refine Tri.cF (by first | (simp only [go_sem]; done) | fail) ?_ | refine Tri.cT (by first | (simp only [go_sem]; done) | fail) ?_ | (refine Tri.skip ?_; try simp only [InBlock, Then]) | (refine Tri.exit ?_; simp only [Then, InBlock, if_true, if_false, ↓reduceIte, Nat.reduceEqDiff]) | refine Tri.seq (Tri.block ?_) | refine Tri.block ?_ | refine Tri.seq ?_ | (refine Tri.ret ?_; refine Con.fin (.inl rfl) (by simp only [Tryd.f77, cfgKY2, resA, resA1, go_sem]; rfl) (by simp only [Obs]) (by first | (simp only [kRRt, Con.of, resV, e, go_sem]; done) | fail) trivial rfl rfl))
                    case false =>
                      refine Tri.at (by first | (simp only [q37, q38, b37, b38, Con.start, go_sem]; rfl) | rfl) ?_
                      repeat (first | ((first | refine Tri.seq (Tri.regT (cfgKY2_ok.pins _) ?_) | refine Tri.rgnT (cfgKY2_ok.pins _) ?_); (repeat (first | refine RunT.oneA (hp := by simp (maxSteps := 2000000) (disch := first | decide | omega | (simp only [List.length_append, List.length_cons, List.length_nil, List.length_take, List.length_drop]; omega)) only [q37, q38, b37, b38, go_sem]; rfl) (h := ?_) | refine RunT.notA (h := ?_))); refine RunT.nil ?_; try simp only [Then]) | refine Tri.cF (by first | (simp only [go_sem]; done) | fail) ?_ | refine Tri.cT (by first | (simp only [go_sem]; done) | fail) ?_ | (refine Tri.skip ?_; try simp only [Then]) | (refine Tri.exit ?_; simp only [Then, InBlock, if_true, if_false, ↓reduceIte, Nat.reduceEqDiff]) | refine Tri.seq (Tri.block ?_) | refine Tri.block ?_ | refine Tri.seq ?_ | (refine Tri.ret ?_; refine Con.fin (.inl rfl) (by simp only [Tryd.f77, cfgKY2, resA, resA1, go_sem]; rfl) (by simp only [Obs, and_true, true_and]) (by first | (simp only [kRRt, Con.of, Con.ofO, resV, q37, q38, b37, b38, go_sem]; done) | fail) trivial rfl rfl))
                      cases d39 : decide (co = 0)
                      case false =>
                        have e : (fdR ((3 : Int), cl, sv, no, en, fl, ti, se, co, ())).isSome = false := by
                          rw [fd_3]
                          rw [Bool.eq_false_iff]; intro h
                          first | (rw [d39] at h; simp at h; done) | (simp only [Bool.and_eq_true, Bool.not_eq_true', strEq_nil_len, zero_eq_i, decide_eq_true_eq, decide_eq_false_iff_not] at h; simp only [decide_eq_false_iff_not] at d39; omega)
                        refine Tri.at (by first | (simp only [q39, go_sem]; rfl) | rfl) ?_
                        repeat (first | ((first | refine Tri.seq (Tri.regT (cfgKY2_ok.pins _) ?_) | refine Tri.rgnT (cfgKY2_ok.pins _) ?_); (repeat (first | refine RunT.oneA (hp := by simp (maxSteps := 2000000) (disch := first | decide | omega | (simp only [List.length_append, List.length_cons, List.length_nil, List.length_take, List.length_drop]; omega)) only [d39, go_sem]; rfl) (h := ?_) | refine RunT.notA (h := ?_))); refine RunT.nil ?_; try simp only [InBlock, Then]) | refine Tri.cF (by first | (simp only [go_sem]; done) | fail) ?_ | refine Tri.cT (by first | (simp only [go_sem]; done) | fail) ?_ | (refine Tri.skip ?_; try simp only [Then]) | (refine Tri.exit ?_; simp only [Then, InBlock, if_true, if_false, ↓reduceIte, Nat.reduceEqDiff]) | refine Tri.seq (Tri.block ?_) | refine Tri.block ?_ | refine Tri.seq ?_ | (refine Tri.ret ?_; refine Con.fin (.inl rfl) (by simp only [Tryd.f77, cfgKY2, resA, resA1, go_sem]; rfl) (by simp only [Obs]) (by first | (simp only [kRRt, Con.of, resV, e, go_sem]; done) | fail) trivial rfl rfl))
                      case true =>
                        have e : (fdR ((3 : Int), cl, sv, no, en, fl, ti, se, co, ())).isSome = true := by
                          rw [fd_3]
                          simp only [Bool.and_eq_true, Bool.not_eq_true', strEq_nil_r, strEq_nil_len, zero_eq_i, decide_eq_true_eq, decide_eq_false_iff_not] at a32 a33 b35 c35 d35 b36 c36 d36 b37 b38 d39 ⊢
                          repeat' apply And.intro
                          all_goals first | assumption | omega
                        refine Tri.at (by first | (simp only [q39, go_sem]; rfl) | rfl) ?_
                        repeat (first | ((first | refine Tri.seq (Tri.regT (cfgKY2_ok.pins _) ?_) | refine Tri.rgnT (cfgKY2_ok.pins _) ?_); (repeat (first | refine RunT.oneA (hp := by simp (maxSteps := 2000000) (disch := first | decide | omega | (simp only [List.length_append, List.length_cons, List.length_nil, List.length_take, List.length_drop]; omega)) only [d39, go_sem]; rfl) (h := ?_) | refine RunT.notA (h := ?_))); refine RunT.nil ?_; try simp only [InBlock, Then]) | refine Tri.cF (by first | (simp only [go_sem]; done) | fail) ?_ | refine Tri.cT (by first | (simp only [go_sem]; done) | fail) ?_ | (refine Tri.skip ?_; try simp only [Then]) | (refine Tri.exit ?_; simp only [Then, InBlock, if_true, if_false, ↓reduceIte, Nat.reduceEqDiff]) | refine Tri.seq (Tri.block ?_) | refine Tri.block ?_ | refine Tri.seq ?_ | (refine Tri.ret ?_; refine Con.fin (.inl rfl) (by simp only [Tryd.f77, cfgKY2, resA, resA1, go_sem]; rfl) (by simp only [Obs]) (by first | (simp only [kRRt, Con.of, resV, e, go_sem]; done) | fail) trivial rfl rfl))
theorem rrt_4 (p : kRRt.Par) (hp : ∀ q ∈ kRRt.pre p, q) (hk : (p.1.1 : Int) = 4) : BodyOK Tryd.prog cfgKY2 Tryd.f77 (Tryd.f77.body.get rfl) kRRt p := by
  obtain ⟨⟨(kd : Int), (cl : List UInt8), (sv : List UInt8), (no : UInt64), (en : Int), (fl : Int), (ti : List UInt8), (se : List UInt8), (co : Int), u1⟩, u⟩ := p
  obtain ⟨hc, hs, _⟩ := Obs.of hp
  replace hc : cl.length ≤ 1000000000 := hc
  replace hs : sv.length ≤ 1000000000 := hs
  replace hk : kd = 4 := hk
  subst hk
  refine ⟨?_, Nat.zero_le _, rfl, rfl⟩
  show Tri _ _ _ (Code.seq _ (Code.seq _ (Code.seq (Code.seq _ (Code.cond _ (Code.seq _ _) _)) (Code.seq (Code.seq _ (Code.cond _ (Code.seq _ _) _)) (Code.seq (Code.seq _ (Code.cond _ (Code.seq _ _) _)) (Code.seq (Code.seq _ (Code.cond _ (Code.seq _ _) _)) (Code.seq (Code.seq _ (Code.cond _ (Code.seq _ _) _)) (Code.seq (Code.seq _ (Code.cond _ (Code.seq _ _) _)) (Code.seq (Code.seq _ (Code.cond _ (Code.seq _ _) _)) (Code.seq _ _)))))))))) _
  have z1 : decide ((4 : Int) < 1) = false := rfl
  have z7 : decide ((7 : Int) < 4) = false := rfl
  have q32 : hsM (4 : Int) 32 = false := by decide
  have q33 : hsM (4 : Int) 33 = false := by decide
  have q35 : hsM (4 : Int) 35 = false := by decide
  have q36 : hsM (4 : Int) 36 = false := by decide
  have q37 : hsM (4 : Int) 37 = true := by decide
  have q38 : hsM (4 : Int) 38 = true := by decide
  have q39 : hsM (4 : Int) 39 = false := by decide
  cases a32 : strEq cl []
  case false =>
    have e : (fdR ((4 : Int), cl, sv, no, en, fl, ti, se, co, ())).isSome = false := by
      rw [fd_4]
      rw [Bool.eq_false_iff]; intro h
      first | (rw [a32] at h; simp at h; done) | (simp only [Bool.and_eq_true, Bool.not_eq_true', strEq_nil_len, zero_eq_i, decide_eq_true_eq, decide_eq_false_iff_not] at h; simp only [Bool.not_eq_false', strEq_nil_r, strEq_nil_len, decide_eq_true_eq] at a32; omega)
    refine Tri.at (by first | (simp only [Con.start, go_sem]; rfl) | rfl) ?_
    repeat (first | ((first | refine Tri.seq (Tri.regT (cfgKY2_ok.pins _) ?_) | refine Tri.rgnT (cfgKY2_ok.pins _) ?_); (repeat (first | refine RunT.oneA (hp := by simp (maxSteps := 2000000) (disch := first | decide | omega | (simp only [List.length_append, List.length_cons, List.length_nil, List.length_take, List.length_drop]; omega)) only [q32, a32, go_sem]; rfl) (h := ?_) | refine RunT.notA (h := ?_))); refine RunT.nil ?_; try simp only [InBlock, Then]) | refine Tri.cF (by first | (simp only [go_sem]; done) | fail) ?_ | refine Tri.cT (by first | (simp only [go_sem]; done) | fail) ?_ | (refine Tri.skip ?_; try simp only [Then]) | (refine Tri.exit ?_; simp only [Then, InBlock, if_true, if_false, ↓reduceIte, Nat.reduceEqDiff]) | refine Tri.seq (Tri.block ?_) | refine Tri.block ?_ | refine Tri.seq ?_ | (refine Tri.ret ?_; refine Con.fin (.inl rfl) (by simp only [Tryd.f77, cfgKY2, resA, resA1, go_sem]; rfl) (by simp only [Obs]) (by first | (simp only [kRRt, Con.of, resV, e, go_sem]; done) | fail) trivial rfl rfl))
  case true =>
    refine Tri.at (by first | (simp only [Con.start, go_sem]; rfl) | rfl) ?_
    repeat (first | ((first | refine Tri.seq (Tri.regT (cfgKY2_ok.pins _) ?_) | refine Tri.rgnT (cfgKY2_ok.pins _) ?_); (repeat (first | refine RunT.oneA (hp := by simp (maxSteps := 2000000) (disch := first | decide | omega | (simp only [List.length_append, List.length_cons, List.length_nil, List.length_take, List.length_drop]; omega)) only [q32, a32, go_sem]; rfl) (h := ?_) | refine RunT.notA (h := ?_))); refine RunT.nil ?_; try simp only [InBlock, Then]) | refine Tri.cF (by first | (simp only [go_sem]; done) | fail) ?_ | refine Tri.cT (by first | (simp only [go_sem]; done) | fail) ?_ | (refine Tri.skip ?_; try simp only [Then]) | (refine Tri.exit ?_; simp only [Then, InBlock, if_true, if_false, ↓reduceIte, Nat.reduceEqDiff]) | refine Tri.seq (Tri.block ?_) | refine Tri.block ?_ | refine Tri.seq ?_ | (refine Tri.ret ?_; refine Con.fin (.inl rfl) (by simp only [Tryd.f77, cfgKY2, resA, resA1, go_sem]; rfl) (by simp only [Obs, and_true, true_and]) (by first | (simp only [kRRt, Con.of, Con.ofO, resV, z1, z7, q32, a32, go_sem]; done) | fail) trivial rfl rfl))
    cases a33 : strEq sv []
    case false =>
      have e : (fdR ((4 : Int), cl, sv, no, en, fl, ti, se, co, ())).isSome = false := by
        rw [fd_4]
        rw [Bool.eq_false_iff]; intro h
        first | (rw [a33] at h; simp at h; done) | (simp only [Bool.and_eq_true, Bool.not_eq_true', strEq_nil_len, zero_eq_i, decide_eq_true_eq, decide_eq_false_iff_not] at h; simp only [Bool.not_eq_false', strEq_nil_r, strEq_nil_len, decide_eq_true_eq] at a33; omega)
      refine Tri.at (by first | (simp only [q33, a33, e, Con.start, go_sem]; rfl) | rfl) ?_
      repeat (first | ((first | refine Tri.seq (Tri.regT (cfgKY2_ok.pins _) ?_) | refine Tri.rgnT (cfgKY2_ok.pins _) ?_); (repeat (first | refine RunT.oneA (hp := by simp (maxSteps := 2000000) (disch := first | decide | omega | (simp only [List.length_append, List.length_cons, List.length_nil, List.length_take, List.length_drop]; omega)) only [q33, a33, go_sem]; rfl) (h := ?_) | refine RunT.notA (h := ?_))); refine RunT.nil ?_; try simp only [Then]) | refine Tri.cF (by first | (simp only [go_sem]; done) | fail) ?_ | refine Tri.cT (by first | (simp only [go_sem]; done) | fail) ?_ | (refine Tri.skip ?_; try simp only [InBlock, Then]) | (refine Tri.exit ?_; simp only [Then, InBlock, if_true, if_false, ↓reduceIte, Nat.reduceEqDiff]) | refine Tri.seq (Tri.block ?_) | refine Tri.block ?_ | refine Tri.seq ?_ | (refine Tri.ret ?_; refine Con.fin (.inl rfl) (by simp only [Tryd.f77, cfgKY2, resA, resA1, go_sem]; rfl) (by simp only [Obs]) (by first | (simp only [kRRt, Con.of, resV, e, go_sem]; done) | fail) trivial rfl rfl))
    case true =>
      refine Tri.at (by first | (simp only [q33, a33, Con.start, go_sem]; rfl) | rfl) ?_
      repeat (first | ((first | refine Tri.seq (Tri.regT (cfgKY2_ok.pins _) ?_) | refine Tri.rgnT (cfgKY2_ok.pins _) ?_); (repeat (first | refine RunT.oneA (hp := by simp (maxSteps := 2000000) (disch := first | decide | omega | (simp only [List.length_append, List.length_cons, List.length_nil, List.length_take, List.length_drop]; omega)) only [q33, a33, go_sem]; rfl) (h := ?_) | refine RunT.notA (h := ?_))); refine RunT.nil ?_; try simp only [Then]) | refine Tri.cF (by first | (simp only [go_sem]; done) | fail) ?_ | refine Tri.cT (by first | (simp only [go_sem]; done) | fail) ?_ | (refine Tri.skip ?_; try simp only [Then]) | (refine Tri.exit ?_; simp only [Then, InBlock, if_true, if_false, ↓reduceIte, Nat.reduceEqDiff]) | refine Tri.seq (Tri.block ?_) | refine Tri.block ?_ | refine Tri.seq ?_ | (refine Tri.ret ?_; refine Con.fin (.inl rfl) (by simp only [Tryd.f77, cfgKY2, resA, resA1, go_sem]; rfl) (by simp only [Obs, and_true, true_and]) (by first | (simp only [kRRt, Con.of, Con.ofO, resV, q33, a33, go_sem]; done) | fail) trivial rfl rfl))
      cases b35 : decide (en < 0)
      case true =>
        have e : (fdR ((4 : Int), cl, sv, no, en, fl, ti, se, co, ())).isSome = false := by
          rw [fd_4]
          rw [Bool.eq_false_iff]; intro h
          first | (rw [b35] at h; simp at h; done) | (simp only [Bool.and_eq_true, Bool.not_eq_true', strEq_nil_len, zero_eq_i, decide_eq_true_eq, decide_eq_false_iff_not] at h; simp only [decide_eq_true_eq] at b35; omega)
        refine Tri.at (by first | (simp only [q35, b35, e, Con.start, go_sem]; rfl) | rfl) ?_
        repeat (first | ((first | refine Tri.seq (Tri.regT (cfgKY2_ok.pins _) ?_) | refine Tri.rgnT (cfgKY2_ok.pins _) ?_); (repeat (first | refine RunT.oneA (hp := by simp (maxSteps := 2000000) (disch := first | decide | omega | (simp only [List.length_append, List.length_cons, List.length_nil, List.length_take, List.length_drop]; omega)) only [b35, go_sem]; rfl) (h := ?_) | refine RunT.notA (h := ?_))); refine RunT.nil ?_; try simp only [Then]) | refine Tri.cF (by first | (simp only [go_sem]; done) | fail) ?_ | refine Tri.cT (by first | (simp only [go_sem]; done) | fail) ?_ | (refine Tri.skip ?_; try simp only [InBlock, Then]) | (refine Tri.exit ?_; simp only [Then, InBlock, if_true, if_false, ↓reduceIte, Nat.reduceEqDiff]) | refine Tri.seq (Tri.block ?_) | refine Tri.block ?_ | refine Tri.seq ?_ | (refine Tri.ret ?_; refine Con.fin (.inl rfl) (by simp only [Tryd.f77, cfgKY2, resA, resA1, go_sem]; rfl) (by simp only [Obs]) (by first | (simp only [kRRt, Con.of, resV, e, go_sem]; done) | fail) trivial rfl rfl))
      case false =>
        cases c35 : decide ((1099511627776 : Int) < en)
        case true =>
          have e : (fdR ((4 : Int), cl, sv, no, en, fl, ti, se, co, ())).isSome = false := by
            rw [fd_4]
            rw [Bool.eq_false_iff]; intro h
            first | (rw [c35] at h; simp at h; done) | (simp only [Bool.and_eq_true, Bool.not_eq_true', strEq_nil_len, zero_eq_i, decide_eq_true_eq, decide_eq_false_iff_not] at h; simp only [decide_eq_true_eq] at c35; omega)
          refine Tri.at (by first | (simp only [q35, b35, c35, e, Con.start, go_sem]; rfl) | rfl) ?_
          repeat (first | ((first | refine Tri.seq (Tri.regT (cfgKY2_ok.pins _) ?_) | refine Tri.rgnT (cfgKY2_ok.pins _) ?_); (repeat (first | refine RunT.oneA (hp := by simp (maxSteps := 2000000) (disch := first | decide | omega | (simp only [List.length_append, List.length_cons, List.length_nil, List.length_take, List.length_drop]; omega)) only [b35, c35, go_sem]; rfl) (h := ?_) | refine RunT.notA (h := ?_))); refine RunT.nil ?_; try simp only [Then]) | refine Tri.cF (by first | (simp only [go_sem]; done) | fail) ?_ | refine Tri.cT (by first | (simp only [go_sem]; done) | fail) ?_ | (refine Tri.skip ?_; try simp only [InBlock, Then]) | (refine Tri.exit ?_; simp only [Then, InBlock, if_true, if_false, ↓reduceIte, Nat.reduceEqDiff]) | refine Tri.seq (Tri.block ?_) | refine Tri.block ?_ | refine Tri.seq ?_ | (refine Tri.ret ?_; refine Con.fin (.inl rfl) (by simp only [Tryd.f77, cfgKY2, resA, resA1, go_sem]; rfl) (by simp only [Obs]) (by first | (simp only [kRRt, Con.of, resV, e, go_sem]; done) | fail) trivial rfl rfl))
        case false =>
          cases d35 : decide (en = 0)
          case false =>
            have e : (fdR ((4 : Int), cl, sv, no, en, fl, ti, se, co, ())).isSome = false := by
              rw [fd_4]
              rw [Bool.eq_false_iff]; intro h
              first | (rw [d35] at h; simp at h; done) | (simp only [Bool.and_eq_true, Bool.not_eq_true', strEq_nil_len, zero_eq_i, decide_eq_true_eq, decide_eq_false_iff_not] at h; simp only [decide_eq_false_iff_not] at d35; omega)
            refine Tri.at (by first | (simp only [q35, b35, c35, d35, e, Con.start, go_sem]; rfl) | rfl) ?_
            repeat (first | ((first | refine Tri.seq (Tri.regT (cfgKY2_ok.pins _) ?_) | refine Tri.rgnT (cfgKY2_ok.pins _) ?_); (repeat (first | refine RunT.oneA (hp := by simp (maxSteps := 2000000) (disch := first | decide | omega | (simp only [List.length_append, List.length_cons, List.length_nil, List.length_take, List.length_drop]; omega)) only [q35, b35, c35, d35, go_sem]; rfl) (h := ?_) | refine RunT.notA (h := ?_))); refine RunT.nil ?_; try simp only [Then]) | refine Tri.cF (by first | (simp only [go_sem]; done) | fail) ?_ | refine Tri.cT (by first | (simp only [go_sem]; done) | fail) ?_ | (refine Tri.skip ?_; try simp only [InBlock, Then]) | (refine Tri.exit ?_; simp only [Then, InBlock, if_true, if_false, ↓reduceIte, Nat.reduceEqDiff]) | refine Tri.seq (Tri.block ?_) | refine Tri.block ?_ | refine Tri.seq ?_ | (refine Tri.ret ?_; refine Con.fin (.inl rfl) (by simp only [Tryd.f77, cfgKY2, resA, resA1, go_sem]; rfl) (by simp only [Obs]) (by first | (simp only [kRRt, Con.of, resV, e, go_sem]; done) | fail) trivial rfl rfl))
          case true =>
            refine Tri.at (by first | (simp only [q35, b35, c35, d35, Con.start, go_sem]; rfl) | rfl) ?_
            repeat (first | ((first | refine Tri.seq (Tri.regT (cfgKY2_ok.pins _) ?_) | refine Tri.rgnT (cfgKY2_ok.pins _) ?_); (repeat (first | refine RunT.oneA (hp := by simp (maxSteps := 2000000) (disch := first | decide | omega | (simp only [List.length_append, List.length_cons, List.length_nil, List.length_take, List.length_drop]; omega)) only [q35, b35, c35, d35, go_sem]; rfl) (h := ?_) | refine RunT.notA (h := ?_))); refine RunT.nil ?_; try simp only [Then]) | refine Tri.cF (by first | (simp only [go_sem]; done) | fail) ?_ | refine Tri.cT (by first | (simp only [go_sem]; done) | fail) ?_ | (refine Tri.skip ?_; try simp only [Then]) | (refine Tri.exit ?_; simp only [Then, InBlock, if_true, if_false, ↓reduceIte, Nat.reduceEqDiff]) | refine Tri.seq (Tri.block ?_) | refine Tri.block ?_ | refine Tri.seq ?_ | (refine Tri.ret ?_; refine Con.fin (.inl rfl) (by simp only [Tryd.f77, cfgKY2, resA, resA1, go_sem]; rfl) (by simp only [Obs, and_true, true_and]) (by first | (simp only [kRRt, Con.of, Con.ofO, resV, q35, b35, c35, d35, go_sem]; done) | fail) trivial rfl rfl))
            cases b36 : decide (fl < 0)
            case true =>
              have e : (fdR ((4 : Int), cl, sv, no, en, fl, ti, se, co, ())).isSome = false := by
                rw [fd_4]
                rw [Bool.eq_false_iff]; intro h
                first | (rw [b36] at h; simp at h; done) | (simp only [Bool.and_eq_true, Bool.not_eq_true', strEq_nil_len, zero_eq_i, decide_eq_true_eq, decide_eq_false_iff_not] at h; simp only [decide_eq_true_eq] at b36; omega)
              refine Tri.at (by first | (simp only [q36, b36, e, Con.start, go_sem]; rfl) | rfl) ?_
              repeat (first | ((first | refine Tri.seq (Tri.regT (cfgKY2_ok.pins _) ?_) | refine Tri.rgnT (cfgKY2_ok.pins _) ?_); (repeat (first | refine RunT.oneA (hp := by simp (maxSteps := 2000000) (disch := first | decide | omega | (simp only [List.length_append, List.length_cons, List.length_nil, List.length_take, List.length_drop]; omega)) only [b36, go_sem]; rfl) (h := ?_) | refine RunT.notA (h := ?_))); refine RunT.nil ?_; try simp only [Then]) | refine Tri.cF (by first | (simp only [go_sem]; done) | fail) ?_ | refine Tri.cT (by first | (simp only [go_sem]; done) | fail) ?_ | (refine Tri.skip ?_; try simp only [InBlock, Then]) | (refine Tri.exit ?_; simp only [Then, InBlock, if_true, if_false, ↓reduceIte, Nat.reduceEqDiff]) | refine Tri.seq (Tri.block ?_) | refine Tri.block ?_ | refine Tri.seq ?_ | (refine Tri.ret ?_; refine Con.fin (.inl rfl) (by simp only [Tryd.f77, cfgKY2, resA, resA1, go_sem]; rfl) (by simp only [Obs]) (by first | (simp only [kRRt, Con.of, resV, e, go_sem]; done) | fail) trivial rfl rfl))
            case false =>
              cases c36 : decide ((3 : Int) < fl)
              case true =>
                have e : (fdR ((4 : Int), cl, sv, no, en, fl, ti, se, co, ())).isSome = false := by
                  rw [fd_4]
                  rw [Bool.eq_false_iff]; intro h
                  first | (rw [c36] at h; simp at h; done) | (simp only [Bool.and_eq_true, Bool.not_eq_true', strEq_nil_len, zero_eq_i, decide_eq_true_eq, decide_eq_false_iff_not] at h; simp only [decide_eq_true_eq] at c36; omega)
                refine Tri.at (by first | (simp only [q36, b36, c36, e, Con.start, go_sem]; rfl) | rfl) ?_
                repeat (first | ((first | refine Tri.seq (Tri.regT (cfgKY2_ok.pins _) ?_) | refine Tri.rgnT (cfgKY2_ok.pins _) ?_); (repeat (first | refine RunT.oneA (hp := by simp (maxSteps := 2000000) (disch := first | decide | omega | (simp only [List.length_append, List.length_cons, List.length_nil, List.length_take, List.length_drop]; omega)) only [b36, c36, go_sem]; rfl) (h := ?_) | refine RunT.notA (h := ?_))); refine RunT.nil ?_; try simp only [Then]) | refine Tri.cF (by first | (simp only [go_sem]; done) | fail) ?_ | refine Tri.cT (by first | (simp only [go_sem]; done) | fail) ?_ | (refine Tri.skip ?_; try simp only [InBlock, Then]) | (refine Tri.exit ?_; simp only [Then, InBlock, if_true, if_false, ↓reduceIte, Nat.reduceEqDiff]) | refine Tri.seq (Tri.block ?_) | refine Tri.block ?_ | refine Tri.seq ?_ | (refine Tri.ret ?_; refine Con.fin (.inl rfl) (by simp only [Tryd.f77, cfgKY2, resA, resA1, go_sem]; rfl) (by simp only [Obs]) (by first | (simp only [kRRt, Con.of, resV, e, go_sem]; done) | fail) trivial rfl rfl))
              case false =>
                cases d36 : decide (fl = 0)
                case false =>
                  have e : (fdR ((4 : Int), cl, sv, no, en, fl, ti, se, co, ())).isSome = false := by
                    rw [fd_4]
                    rw [Bool.eq_false_iff]; intro h
                    first | (rw [d36] at h; simp at h; done) | (simp only [Bool.and_eq_true, Bool.not_eq_true', strEq_nil_len, zero_eq_i, decide_eq_true_eq, decide_eq_false_iff_not] at h; simp only [decide_eq_false_iff_not] at d36; omega)
                  refine Tri.at (by first | (simp only [q36, b36, c36, d36, e, Con.start, go_sem]; rfl) | rfl) ?_
                  repeat (first | ((first | refine Tri.seq (Tri.regT (cfgKY2_ok.pins _) ?_) | refine Tri.rgnT (cfgKY2_ok.pins _) ?_); (repeat (first | refine RunT.oneA (hp := by simp (maxSteps := 2000000) (disch := first | decide | omega | (simp only [List.length_append, List.length_cons, List.length_nil, List.length_take, List.length_drop]; omega)) only [q36, b36, c36, d36, go_sem]; rfl) (h := ?_) | refine RunT.notA (h := ?_))); refine RunT.nil ?_; try simp only [Then]) | refine Tri.cF (by first | (simp only [go_sem]; done) | fail) ?_ | refine Tri.cT (by first | (simp only [go_sem]; done) | fail) ?_ | (refine Tri.skip ?_; try simp only [InBlock, Then]) | (refine Tri.exit ?_; simp only [Then, InBlock, if_true, if_false, ↓reduceIte, Nat.reduceEqDiff]) | refine Tri.seq (Tri.block ?_) | refine Tri.block ?_ | refine Tri.seq ?_ | (refine Tri.ret ?_; refine Con.fin (.inl rfl) (by simp only [Tryd.f77, cfgKY2, resA, resA1, go_sem]; rfl) (by simp only [Obs]) (by first | (simp only [kRRt, Con.of, resV, e, go_sem]; done) | fail) trivial rfl rfl))
                case true =>
                  refine Tri.at (by first | (simp only [q36, b36, c36, d36, Con.start, go_sem]; rfl) | rfl) ?_
                  repeat (first | ((first | refine Tri.seq (Tri.regT (cfgKY2_ok.pins _) ?_) | refine Tri.rgnT (cfgKY2_ok.pins _) ?_); (repeat (first | refine RunT.oneA (hp := by simp (maxSteps := 2000000) (disch := first | decide | omega | (simp only [List.length_append, List.length_cons, List.length_nil, List.length_take, List.length_drop]; omega)) only [q36, b36, c36, d36, go_sem]; rfl) (h := ?_) | refine RunT.notA (h := ?_))); refine RunT.nil ?_; try simp only [Then]) | refine Tri.cF (by first | (simp only [go_sem]; done) | fail) ?_ | refine Tri.cT (by first | (simp only [go_sem]; done) | fail) ?_ | (refine Tri.skip ?_; try simp only [Then]) | (refine Tri.exit ?_; simp only [Then, InBlock, if_true, if_false, ↓reduceIte, Nat.reduceEqDiff]) | refine Tri.seq (Tri.block ?_) | refine Tri.block ?_ | refine Tri.seq ?_ | (refine Tri.ret ?_; refine Con.fin (.inl rfl) (by simp only [Tryd.f77, cfgKY2, resA, resA1, go_sem]; rfl) (by simp only [Obs, and_true, true_and]) (by first | (simp only [kRRt, Con.of, Con.ofO, resV, q36, b36, c36, d36, go_sem]; done) | fail) trivial rfl rfl))
                  cases b37 : decide ((3000 : Int) < ((ti.length : Nat) : Int))
                  case true =>
                    have e : (fdR ((4 : Int), cl, sv, no, en, fl, ti, se, co, ())).isSome = false := by
                      rw [fd_4]
                      rw [Bool.eq_false_iff]; intro h
                      first | (rw [b37] at h; simp at h; done) | (simp only [Bool.and_eq_true, Bool.not_eq_true', Bool.not_eq_false', strEq_nil_r, strEq_nil_len, zero_eq_i, decide_eq_true_eq, decide_eq_false_iff_not] at h; simp only [Bool.and_eq_true, Bool.not_eq_true', Bool.not_eq_false', strEq_nil_r, strEq_nil_len, zero_eq_i, decide_eq_true_eq, decide_eq_false_iff_not] at b37; omega)
                    refine Tri.at (by first | (simp only [q37, q38, b37, e, Con.start, go_sem]; rfl) | rfl) ?_
                    repeat (first | ((first | refine Tri.seq (Tri.regT (cfgKY2_ok.pins _) ?_) | refine Tri.rgnT (cfgKY2_ok.pins _) ?_); (repeat (first | refine RunT.oneA (hp := by simp (maxSteps := 2000000) (disch := first | decide | omega | (simp only [List.length_append, List.length_cons, List.length_nil, List.length_take, List.length_drop]; omega)) only [b37, go_sem]; rfl) (h := ?_) | refine RunT.notA (h := ?_))); refine RunT.nil ?_; try simp only [Then]) | refine Tri.cF (by first | (simp only [go_sem]; done) | fail) ?_ | refine Tri.cT (by first | (simp only [go_sem]; done) | fail) ?_ | (refine Tri.skip ?_; try simp only [InBlock, Then]) | (refine Tri.exit ?_; simp only [Then, InBlock, if_true, if_false, ↓reduceIte, Nat.reduceEqDiff]) | refine Tri.seq (Tri.block ?_) | refine Tri.block ?_ | refine Tri.seq ?_ | (refine Tri.ret ?_; refine Con.fin (.inl rfl) (by simp only [Tryd.f77, cfgKY2, resA, resA1, go_sem]; rfl) (by simp only [Obs]) (by first | (simp only [kRRt, Con.of, resV, e, go_sem]; done) | fail) trivial rfl rfl))
                  case false =>
                    cases b38 : decide ((3000 : Int) < ((se.length : Nat) : Int))
                    case true =>
                      have e : (fdR ((4 : Int), cl, sv, no, en, fl, ti, se, co, ())).isSome = false := by
                        rw [fd_4]
                        rw [Bool.eq_false_iff]; intro h
                        first | (rw [b38] at h; simp at h; done) | (simp only [Bool.and_eq_true, Bool.not_eq_true', Bool.not_eq_false', strEq_nil_r, strEq_nil_len, zero_eq_i, decide_eq_true_eq, decide_eq_false_iff_not] at h; simp only [Bool.and_eq_true, Bool.not_eq_true', Bool.not_eq_false', strEq_nil_r, strEq_nil_len, zero_eq_i, decide_eq_true_eq, decide_eq_false_iff_not] at b38; omega)
                      refine Tri.at (by first | (simp only [q37, q38, b37, b38, e, Con.start, go_sem]; rfl) | rfl) ?_
                      repeat (first | ((first | refine Tri.seq (Tri.regT (cfgKY2_ok.pins _) ?_) | refine Tri.rgnT (cfgKY2_ok.pins _) ?_); (repeat (first | refine RunT.oneA (hp := by simp (maxSteps := 2000000) (disch := first | decide | omega | (simp only [List.length_append, List.length_cons, List.length_nil, List.length_take, List.length_drop]; omega)) only [q37, b37, b38, go_sem]; rfl) (h := ?_) | refine RunT.notA (h := ?_))); refine RunT.nil ?_; try simp only [Then]) | refine Tri.cF (by first | (simp only [go_sem]; done) | fail) ?_ | refine Tri.cT (by first | (simp only [go_sem]; done) | fail) ?_ | (refine Tri.skip ?_; try simp only [InBlock, Then]) | (refine Tri.exit ?_; simp only [Then, InBlock, if_true, if_false, ↓reduceIte, Nat.reduceEqDiff]) | refine Tri.seq (Tri.block ?_) | refine Tri.block ?_ | refine Tri.seq ?_ | (refine Tri.ret ?_; refine Con.fin (.inl rfl) (by simp only [Tryd.f77, cfgKY2, resA, resA1, go_sem]; rfl) (by simp only [Obs]) (by first | (simp only [kRRt, Con.of, resV, e, go_sem]; done) | fail) trivial rfl rfl))
                    case false =>
                      refine Tri.at (by first | (simp only [q37, q38, b37, b38, Con.start, go_sem]; rfl) | rfl) ?_
                      repeat (first | ((first | refine Tri.seq (Tri.regT (cfgKY2_ok.pins _) ?_) | refine Tri.rgnT (cfgKY2_ok.pins _) ?_); (repeat (first | refine RunT.oneA (hp := by simp (maxSteps := 2000000) (disch := first | decide | omega | (simp only [List.length_append, List.length_cons, List.length_nil, List.length_take, List.length_drop]; omega)) only [q37, q38, b37, b38, go_sem]; rfl) (h := ?_) | refine RunT.notA (h := ?_))); refine RunT.nil ?_; try simp only [Then]) | refine Tri.cF (by first | (simp only [go_sem]; done) | fail) ?_ | refine Tri.cT (by first | (simp only [go_sem]; done) | fail) ?_ | (refine Tri.skip ?_; try simp only [Then]) | (refine Tri.exit ?_; simp only [Then, InBlock, if_true, if_false, ↓reduceIte, Nat.reduceEqDiff]) | refine Tri.seq (Tri.block ?_) | refine Tri.block ?_ | refine Tri.seq ?_ | (refine Tri.ret ?_; refine Con.fin (.inl rfl) (by simp only [Tryd.f77, cfgKY2, resA, resA1, go_sem]; rfl) (by simp only [Obs, and_true, true_and]) (by first | (simp only [kRRt, Con.of, Con.ofO, resV, q37, q38, b37, b38, go_sem]; done) | fail) trivial rfl rfl))
                      cases d39 : decide (co = 0)
                      case false =>
                        have e : (fdR ((4 : Int), cl, sv, no, en, fl, ti, se, co, ())).isSome = false := by
                          rw [fd_4]
                          rw [Bool.eq_false_iff]; intro h
                          first | (rw [d39] at h; simp at h; done) | (simp only [Bool.and_eq_true, Bool.not_eq_true', strEq_nil_len, zero_eq_i, decide_eq_true_eq, decide_eq_false_iff_not] at h; simp only [decide_eq_false_iff_not] at d39; omega)
                        refine Tri.at (by first | (simp only [q39, go_sem]; rfl) | rfl) ?_
                        repeat (first | ((first | refine Tri.seq (Tri.regT (cfgKY2_ok.pins _) ?_) | refine Tri.rgnT (cfgKY2_ok.pins _) ?_); (repeat (first | refine RunT.oneA (hp := by simp (maxSteps := 2000000) (disch := first | decide | omega | (simp only [List.length_append, List.length_cons, List.length_nil, List.length_take, List.length_drop]; omega)) only [d39, go_sem]; rfl) (h := ?_) | refine RunT.notA (h := ?_))); refine RunT.nil ?_; try simp only [InBlock, Then]) | refine Tri.cF (by first | (simp only [go_sem]; done) | fail) ?_ | refine Tri.cT (by first | (simp only [go_sem]; done) | fail) ?_ | (refine Tri.skip ?_; try simp only [Then]) | (refine Tri.exit ?_; simp only [Then, InBlock, if_true, if_false, ↓reduceIte, Nat.reduceEqDiff]) | refine Tri.seq (Tri.block ?_) | refine Tri.block ?_ | refine Tri.seq ?_ | (refine Tri.ret ?_; refine Con.fin (.inl rfl) (by simp only [Tryd.f77, cfgKY2, resA, resA1, go_sem]; rfl) (by simp only [Obs]) (by first | (simp only [kRRt, Con.of, resV, e, go_sem]; done) | fail) trivial rfl rfl))
                      case true =>
                        have e : (fdR ((4 : Int), cl, sv, no, en, fl, ti, se, co, ())).isSome = true := by
                          rw [fd_4]
                          simp only [Bool.and_eq_true, Bool.not_eq_true', strEq_nil_r, strEq_nil_len, zero_eq_i, decide_eq_true_eq, decide_eq_false_iff_not] at a32 a33 b35 c35 d35 b36 c36 d36 b37 b38 d39 ⊢
                          repeat' apply And.intro
                          all_goals first | assumption | omega
                        refine Tri.at (by first | (simp only [q39, go_sem]; rfl) | rfl) ?_
                        repeat (first | ((first | refine Tri.seq (Tri.regT (cfgKY2_ok.pins _) ?_) | refine Tri.rgnT (cfgKY2_ok.pins _) ?_); (repeat (first | refine RunT.oneA (hp := by simp (maxSteps := 2000000) (disch := first | decide | omega | (simp only [List.length_append, List.length_cons, List.length_nil, List.length_take, List.length_drop]; omega)) only [d39, go_sem]; rfl) (h := ?_) | refine RunT.notA (h := ?_))); refine RunT.nil ?_; try simp only [InBlock, Then]) | refine Tri.cF (by first | (simp only [go_sem]; done) | fail) ?_ | refine Tri.cT (by first | (simp only [go_sem]; done) | fail) ?_ | (refine Tri.skip ?_; try simp only [Then]) | (refine Tri.exit ?_; simp only [Then, InBlock, if_true, if_false, ↓reduceIte, Nat.reduceEqDiff]) | refine Tri.seq (Tri.block ?_) | refine Tri.block ?_ | refine Tri.seq ?_ | (refine Tri.ret ?_; refine Con.fin (.inl rfl) (by simp only [Tryd.f77, cfgKY2, resA, resA1, go_sem]; rfl) (by simp only [Obs]) (by first | (simp only [kRRt, Con.of, resV, e, go_sem]; done) | fail) trivial rfl rfl))
end
end Go.Proofs.YtjdeaphfamenaaaDoor

namespace Go.Proofs.YtjdeaphfamenaaaDoor
open Go.Vc Go.Proofs
set_option maxRecDepth 10000
set_option maxHeartbeats 4000000
section
attribute [local go_sem] Tryd.f77 kRRt kHs kRNmd cfgKY2 tyTabM tyTabK tyTab
theorem rrt_5 (p : kRRt.Par) (hp : ∀ q ∈ kRRt.pre p, q) (hk : (p.1.1 : Int) = 5) : BodyOK Tryd.prog cfgKY2 Tryd.f77 (Tryd.f77.body.get rfl) kRRt p := by
  obtain ⟨⟨(kd : Int), (cl : List UInt8), (sv : List UInt8), (no : UInt64), (en : Int), (fl : Int), (ti : List UInt8), (se : List UInt8), (co : Int), u1⟩, u⟩ := p
  obtain ⟨hc, hs, _⟩ := Obs.of hp
  replace hc : cl.length ≤ 1000000000 := hc
  replace hs : sv.length ≤ 1000000000 := hs
  replace hk : kd = 5 := hk
  subst hk
  refine ⟨?_, Nat.zero_le _, rfl, rfl⟩
  show Tri _ _ _ (Code.seq _ (Code.seq _ (Code.seq (Code.seq _ (Code.cond _ (Code.seq _ _) _)) (Code.seq (Code.seq _ (Code.cond _ (Code.seq _ _) _)) (Code.seq (Code.seq _ (Code.cond _ (Code.seq _ _) _)) (Code.seq (Code.seq _ (Code.cond _ (Code.seq _ _) _)) (Code.seq (Code.seq _ (Code.cond _ (Code.seq _ _) _)) (Code.seq (Code.seq _ (Code.cond _ (Code.seq _ _) _)) (Code.seq (Code.seq _ (Code.cond _ (Code.seq _ _) _)) (Code.seq _ _)))))))))) _
  have z1 : decide ((5 : Int) < 1) = false := rfl
  have z7 : decide ((7 : Int) < 5) = false := rfl
  have q32 : hsM (5 : Int) 32 = false := by decide
  have q33 : hsM (5 : Int) 33 = false := by decide
  have q35 : hsM (5 : Int) 35 = false := by decide
  have q36 : hsM (5 : Int) 36 = false := by decide
  have q37 : hsM (5 : Int) 37 = false := by decide
  have q38 : hsM (5 : Int) 38 = true := by decide
  have q39 : hsM (5 : Int) 39 = false := by decide
  cases a32 : strEq cl []
  case false =>
    have e : (fdR ((5 : Int), cl, sv, no, en, fl, ti, se, co, ())).isSome = false := by
      rw [fd_5]
      rw [Bool.eq_false_iff]; intro h
      first | (rw [a32] at h; simp at h; done) | (simp only [Bool.and_eq_true, Bool.not_eq_true', strEq_nil_len, zero_eq_i, decide_eq_true_eq, decide_eq_false_iff_not] at h; simp only [Bool.not_eq_false', strEq_nil_r, strEq_nil_len, decide_eq_true_eq] at a32; omega)
    refine Tri.at (by first | (simp only [Con.start, go_sem]; rfl) | rfl) ?_
    repeat (first | ((first | refine Tri.seq (Tri.regT (cfgKY2_ok.pins _) ?_) | refine Tri.rgnT (cfgKY2_ok.pins _) ?_); (repeat (first | refine RunT.oneA (hp := by simp (maxSteps := 2000000) (disch := first | decide | omega | (simp only [List.length_append, List.length_cons, List.length_nil, List.length_take, List.length_drop]; omega)) only [q32, a32, go_sem]; rfl) (h := ?_) | refine RunT.notA (h := ?_))); refine RunT.nil ?_; try simp only [InBlock, Then]) | refine Tri.cF (by first | (simp only [go_sem]; done) | fail) ?_ | refine Tri.cT (by first | (simp only [go_sem]; done) | fail) ?_ | (refine Tri.skip ?_; try simp only [Then]) | (refine Tri.exit ?_; simp only [Then, InBlock, if_true, if_false, ↓reduceIte, Nat.reduceEqDiff]) | refine Tri.seq (Tri.block ?_) | refine Tri.block ?_ | refine Tri.seq ?_ | (refine Tri.ret ?_; refine Con.fin (.inl rfl) (by simp only [Tryd.f77, cfgKY2, resA, resA1, go_sem]; rfl) (by simp only [Obs]) (by first | (simp only [kRRt, Con.of, resV, e, go_sem]; done) | fail) trivial rfl rfl))
  case true =>
    refine Tri.at (by first | (simp only [Con.start, go_sem]; rfl) | rfl) ?_
    repeat (first | ((first | refine Tri.seq (Tri.regT (cfgKY2_ok.pins _) ?_) | refine Tri.rgnT (cfgKY2_ok.pins _) ?_); (repeat (first | refine RunT.oneA (hp := by simp (maxSteps := 2000000) (disch := first | decide | omega | (simp only [List.length_append, List.length_cons, List.length_nil, List.length_take, List.length_drop]; omega)) only [q32, a32, go_sem]; rfl) (h := ?_) | refine RunT.notA (h := ?_))); refine RunT.nil ?_; try simp only [InBlock, Then]) | refine Tri.cF (by first | (simp only [go_sem]; done) | fail) ?_ | refine Tri.cT (by first | (simp only [go_sem]; done) | fail) ?_ | (refine Tri.skip ?_; try simp only [Then]) | (refine Tri.exit ?_; simp only [Then, InBlock, if_true, if_false, ↓reduceIte, Nat.reduceEqDiff]) | refine Tri.seq (Tri.block ?_) | refine Tri.block ?_ | refine Tri.seq ?_ | (refine Tri.ret ?_; refine Con.fin (.inl rfl) (by simp only [Tryd.f77, cfgKY2, resA, resA1, go_sem]; rfl) (by simp only [Obs, and_true, true_and]) (by first | (simp only [kRRt, Con.of, Con.ofO, resV, z1, z7, q32, a32, go_sem]; done) | fail) trivial rfl rfl))
    cases a33 : strEq sv []
    case false =>
      have e : (fdR ((5 : Int), cl, sv, no, en, fl, ti, se, co, ())).isSome = false := by
        rw [fd_5]
        rw [Bool.eq_false_iff]; intro h
        first | (rw [a33] at h; simp at h; done) | (simp only [Bool.and_eq_true, Bool.not_eq_true', strEq_nil_len, zero_eq_i, decide_eq_true_eq, decide_eq_false_iff_not] at h; simp only [Bool.not_eq_false', strEq_nil_r, strEq_nil_len, decide_eq_true_eq] at a33; omega)
      refine Tri.at (by first | (simp only [q33, a33, e, Con.start, go_sem]; rfl) | rfl) ?_
      repeat (first | ((first | refine Tri.seq (Tri.regT (cfgKY2_ok.pins _) ?_) | refine Tri.rgnT (cfgKY2_ok.pins _) ?_); (repeat (first | refine RunT.oneA (hp := by simp (maxSteps := 2000000) (disch := first | decide | omega | (simp only [List.length_append, List.length_cons, List.length_nil, List.length_take, List.length_drop]; omega)) only [q33, a33, go_sem]; rfl) (h := ?_) | refine RunT.notA (h := ?_))); refine RunT.nil ?_; try simp only [Then]) | refine Tri.cF (by first | (simp only [go_sem]; done) | fail) ?_ | refine Tri.cT (by first | (simp only [go_sem]; done) | fail) ?_ | (refine Tri.skip ?_; try simp only [InBlock, Then]) | (refine Tri.exit ?_; simp only [Then, InBlock, if_true, if_false, ↓reduceIte, Nat.reduceEqDiff]) | refine Tri.seq (Tri.block ?_) | refine Tri.block ?_ | refine Tri.seq ?_ | (refine Tri.ret ?_; refine Con.fin (.inl rfl) (by simp only [Tryd.f77, cfgKY2, resA, resA1, go_sem]; rfl) (by simp only [Obs]) (by first | (simp only [kRRt, Con.of, resV, e, go_sem]; done) | fail) trivial rfl rfl))
    case true =>
      refine Tri.at (by first | (simp only [q33, a33, Con.start, go_sem]; rfl) | rfl) ?_
      repeat (first | ((first | refine Tri.seq (Tri.regT (cfgKY2_ok.pins _) ?_) | refine Tri.rgnT (cfgKY2_ok.pins _) ?_); (repeat (first | refine RunT.oneA (hp := by simp (maxSteps := 2000000) (disch := first | decide | omega | (simp only [List.length_append, List.length_cons, List.length_nil, List.length_take, List.length_drop]; omega)) only [q33, a33, go_sem]; rfl) (h := ?_) | refine RunT.notA (h := ?_))); refine RunT.nil ?_; try simp only [Then]) | refine Tri.cF (by first | (simp only [go_sem]; done) | fail) ?_ | refine Tri.cT (by first | (simp only [go_sem]; done) | fail) ?_ | (refine Tri.skip ?_; try simp only [Then]) | (refine Tri.exit ?_; simp only [Then, InBlock, if_true, if_false, ↓reduceIte, Nat.reduceEqDiff]) | refine Tri.seq (Tri.block ?_) | refine Tri.block ?_ | refine Tri.seq ?_ | (refine Tri.ret ?_; refine Con.fin (.inl rfl) (by simp only [Tryd.f77, cfgKY2, resA, resA1, go_sem]; rfl) (by simp only [Obs, and_true, true_and]) (by first | (simp only [kRRt, Con.of, Con.ofO, resV, q33, a33, go_sem]; done) | fail) trivial rfl rfl))
      cases b35 : decide (en < 0)
      case true =>
        have e : (fdR ((5 : Int), cl, sv, no, en, fl, ti, se, co, ())).isSome = false := by
          rw [fd_5]
          rw [Bool.eq_false_iff]; intro h
          first | (rw [b35] at h; simp at h; done) | (simp only [Bool.and_eq_true, Bool.not_eq_true', strEq_nil_len, zero_eq_i, decide_eq_true_eq, decide_eq_false_iff_not] at h; simp only [decide_eq_true_eq] at b35; omega)
        refine Tri.at (by first | (simp only [q35, b35, e, Con.start, go_sem]; rfl) | rfl) ?_
        repeat (first | ((first | refine Tri.seq (Tri.regT (cfgKY2_ok.pins _) ?_) | refine Tri.rgnT (cfgKY2_ok.pins _) ?_); (repeat (first | refine RunT.oneA (hp := by simp (maxSteps := 2000000) (disch := first | decide | omega | (simp only [List.length_append, List.length_cons, List.length_nil, List.length_take, List.length_drop]; omega)) only [b35, go_sem]; rfl) (h := ?_) | refine RunT.notA (h := ?_))); refine RunT.nil ?_; try simp only [Then]) | refine Tri.cF (by first | (simp only [go_sem]; done) | fail) ?_ | refine Tri.cT (by first | (simp only [go_sem]; done) | fail) ?_ | (refine Tri.skip ?_; try simp only [InBlock, Then]) | (refine Tri.exit ?_; simp only [Then, InBlock, if_true, if_false, ↓reduceIte, Nat.reduceEqDiff]) | refine Tri.seq (Tri.block ?_) | refine Tri.block ?_ | refine Tri.seq ?_ | (refine Tri.ret ?_; refine Con.fin (.inl rfl) (by simp only [Tryd.f77, cfgKY2, resA, resA1, go_sem]; rfl) (by simp only [Obs]) (by first | (simp only [kRRt, Con.of, resV, e, go_sem]; done) | fail) trivial rfl rfl))
      case false =>
        cases c35 : decide ((1099511627776 : Int) < en)
        case true =>
          have e : (fdR ((5 : Int), cl, sv, no, en, fl, ti, se, co, ())).isSome = false := by
            rw [fd_5]
            rw [Bool.eq_false_iff]; intro h
            first | (rw [c35] at h; simp at h; done) | (simp only [Bool.and_eq_true, Bool.not_eq_true', strEq_nil_len, zero_eq_i, decide_eq_true_eq, decide_eq_false_iff_not] at h; simp only [decide_eq_true_eq] at c35; omega)
          refine Tri.at (by first | (simp only [q35, b35, c35, e, Con.start, go_sem]; rfl) | rfl) ?_
          repeat (first | ((first | refine Tri.seq (Tri.regT (cfgKY2_ok.pins _) ?_) | refine Tri.rgnT (cfgKY2_ok.pins _) ?_); (repeat (first | refine RunT.oneA (hp := by simp (maxSteps := 2000000) (disch := first | decide | omega | (simp only [List.length_append, List.length_cons, List.length_nil, List.length_take, List.length_drop]; omega)) only [b35, c35, go_sem]; rfl) (h := ?_) | refine RunT.notA (h := ?_))); refine RunT.nil ?_; try simp only [Then]) | refine Tri.cF (by first | (simp only [go_sem]; done) | fail) ?_ | refine Tri.cT (by first | (simp only [go_sem]; done) | fail) ?_ | (refine Tri.skip ?_; try simp only [InBlock, Then]) | (refine Tri.exit ?_; simp only [Then, InBlock, if_true, if_false, ↓reduceIte, Nat.reduceEqDiff]) | refine Tri.seq (Tri.block ?_) | refine Tri.block ?_ | refine Tri.seq ?_ | (refine Tri.ret ?_; refine Con.fin (.inl rfl) (by simp only [Tryd.f77, cfgKY2, resA, resA1, go_sem]; rfl) (by simp only [Obs]) (by first | (simp only [kRRt, Con.of, resV, e, go_sem]; done) | fail) trivial rfl rfl))
        case false =>
          cases d35 : decide (en = 0)
          case false =>
            have e : (fdR ((5 : Int), cl, sv, no, en, fl, ti, se, co, ())).isSome = false := by
              rw [fd_5]
              rw [Bool.eq_false_iff]; intro h
              first | (rw [d35] at h; simp at h; done) | (simp only [Bool.and_eq_true, Bool.not_eq_true', strEq_nil_len, zero_eq_i, decide_eq_true_eq, decide_eq_false_iff_not] at h; simp only [decide_eq_false_iff_not] at d35; omega)
            refine Tri.at (by first | (simp only [q35, b35, c35, d35, e, Con.start, go_sem]; rfl) | rfl) ?_
            repeat (first | ((first | refine Tri.seq (Tri.regT (cfgKY2_ok.pins _) ?_) | refine Tri.rgnT (cfgKY2_ok.pins _) ?_); (repeat (first | refine RunT.oneA (hp := by simp (maxSteps := 2000000) (disch := first | decide | omega | (simp only [List.length_append, List.length_cons, List.length_nil, List.length_take, List.length_drop]; omega)) only [q35, b35, c35, d35, go_sem]; rfl) (h := ?_) | refine RunT.notA (h := ?_))); refine RunT.nil ?_; try simp only [Then]) | refine Tri.cF (by first | (simp only [go_sem]; done) | fail) ?_ | refine Tri.cT (by first | (simp only [go_sem]; done) | fail) ?_ | (refine Tri.skip ?_; try simp only [InBlock, Then]) | (refine Tri.exit ?_; simp only [Then, InBlock, if_true, if_false, ↓reduceIte, Nat.reduceEqDiff]) | refine Tri.seq (Tri.block ?_) | refine Tri.block ?_ | refine Tri.seq ?_ | (refine Tri.ret ?_; refine Con.fin (.inl rfl) (by simp only [Tryd.f77, cfgKY2, resA, resA1, go_sem]; rfl) (by simp only [Obs]) (by first | (simp only [kRRt, Con.of, resV, e, go_sem]; done) | fail) trivial rfl rfl))
          case true =>
            refine Tri.at (by first | (simp only [q35, b35, c35, d35, Con.start, go_sem]; rfl) | rfl) ?_
            repeat (first | ((first | refine Tri.seq (Tri.regT (cfgKY2_ok.pins _) ?_) | refine Tri.rgnT (cfgKY2_ok.pins _) ?_); (repeat (first | refine RunT.oneA (hp := by simp (maxSteps := 2000000) (disch := first | decide | omega | (simp only [List.length_append, List.length_cons, List.length_nil, List.length_take, List.length_drop]; omega)) only [q35, b35, c35, d35, go_sem]; rfl) (h := ?_) | refine RunT.notA (h := ?_))); refine RunT.nil ?_; try simp only [Then]) | refine Tri.cF (by first | (simp only [go_sem]; done) | fail) ?_ | refine Tri.cT (by first | (simp only [go_sem]; done) | fail) ?_ | (refine Tri.skip ?_; try simp only [Then]) | (refine Tri.exit ?_; simp only [Then, InBlock, if_true, if_false, ↓reduceIte, Nat.reduceEqDiff]) | refine Tri.seq (Tri.block ?_) | refine Tri.block ?_ | refine Tri.seq ?_ | (refine Tri.ret ?_; refine Con.fin (.inl rfl) (by simp only [Tryd.f77, cfgKY2, resA, resA1, go_sem]; rfl) (by simp only [Obs, and_true, true_and]) (by first | (simp only [kRRt, Con.of, Con.ofO, resV, q35, b35, c35, d35, go_sem]; done) | fail) trivial rfl rfl))
            cases b36 : decide (fl < 0)
            case true =>
              have e : (fdR ((5 : Int), cl, sv, no, en, fl, ti, se, co, ())).isSome = false := by
                rw [fd_5]
                rw [Bool.eq_false_iff]; intro h
                first | (rw [b36] at h; simp at h; done) | (simp only [Bool.and_eq_true, Bool.not_eq_true', strEq_nil_len, zero_eq_i, decide_eq_true_eq, decide_eq_false_iff_not] at h; simp only [decide_eq_true_eq] at b36; omega)
              refine Tri.at (by first | (simp only [q36, b36, e, Con.start, go_sem]; rfl) | rfl) ?_
              repeat (first | ((first | refine Tri.seq (Tri.regT (cfgKY2_ok.pins _) ?_) | refine Tri.rgnT (cfgKY2_ok.pins _) ?_); (repeat (first | refine RunT.oneA (hp := by simp (maxSteps := 2000000) (disch := first | decide | omega | (simp only [List.length_append, List.length_cons, List.length_nil, List.length_take, List.length_drop]; omega)) only [b36, go_sem]; rfl) (h := ?_) | refine RunT.notA (h := ?_))); refine RunT.nil ?_; try simp only [Then]) | refine Tri.cF (by first | (simp only [go_sem]; done) | fail) ?_ | refine Tri.cT (by first | (simp only [go_sem]; done) | fail) ?_ | (refine Tri.skip ?_; try simp only [InBlock, Then]) | (refine Tri.exit ?_; simp only [Then, InBlock, if_true, if_false, ↓reduceIte, Nat.reduceEqDiff]) | refine Tri.seq (Tri.block ?_) | refine Tri.block ?_ | refine Tri.seq ?_ | (refine Tri.ret ?_; refine Con.fin (.inl rfl) (by simp only [Tryd.f77, cfgKY2, resA, resA1, go_sem]; rfl) (by simp only [Obs]) (by first | (simp only [kRRt, Con.of, resV, e, go_sem]; done) | fail) trivial rfl rfl))
            case false =>
              cases c36 : decide ((3 : Int) < fl)
              case true =>
                have e : (fdR ((5 : Int), cl, sv, no, en, fl, ti, se, co, ())).isSome = false := by
                  rw [fd_5]
                  rw [Bool.eq_false_iff]; intro h
                  first | (rw [c36] at h; simp at h; done) | (simp only [Bool.and_eq_true, Bool.not_eq_true', strEq_nil_len, zero_eq_i, decide_eq_true_eq, decide_eq_false_iff_not] at h; simp only [decide_eq_true_eq] at c36; omega)
                refine Tri.at (by first | (simp only [q36, b36, c36, e, Con.start, go_sem]; rfl) | rfl) ?_
                repeat (first | ((first | refine Tri.seq (Tri.regT (cfgKY2_ok.pins _) ?_) | refine Tri.rgnT (cfgKY2_ok.pins _) ?_); (repeat (first | refine RunT.oneA (hp := by simp (maxSteps := 2000000) (disch := first | decide | omega | (simp only [List.length_append, List.length_cons, List.length_nil, List.length_take, List.length_drop]; omega)) only [b36, c36, go_sem]; rfl) (h := ?_) | refine RunT.notA (h := ?_))); refine RunT.nil ?_; try simp only [Then]) | refine Tri.cF (by first | (simp only [go_sem]; done) | fail) ?_ | refine Tri.cT (by first | (simp only [go_sem]; done) | fail) ?_ | (refine Tri.skip ?_; try simp only [InBlock, Then]) | (refine Tri.exit ?_; simp only [Then, InBlock, if_true, if_false, ↓reduceIte, Nat.reduceEqDiff]) | refine Tri.seq (Tri.block ?_) | refine Tri.block ?_ | refine Tri.seq ?_ | (refine Tri.ret ?_; refine Con.fin (.inl rfl) (by simp only [Tryd.f77, cfgKY2, resA, resA1, go_sem]; rfl) (by simp only [Obs]) (by first | (simp only [kRRt, Con.of, resV, e, go_sem]; done) | fail) trivial rfl rfl))
              case false =>
                cases d36 : decide (fl = 0)
                case false =>
                  have e : (fdR ((5 : Int), cl, sv, no, en, fl, ti, se, co, ())).isSome = false := by
                    rw [fd_5]
                    rw [Bool.eq_false_iff]; intro h
                    first | (rw [d36] at h; simp at h; done) | (simp only [Bool.and_eq_true, Bool.not_eq_true', strEq_nil_len, zero_eq_i, decide_eq_true_eq, decide_eq_false_iff_not] at h; simp only [decide_eq_false_iff_not] at d36; omega)
                  refine Tri.at (by first | (simp only [q36, b36, c36, d36, e, Con.start, go_sem]; rfl) | rfl) ?_
                  repeat (first | ((first | refine Tri.seq (Tri.regT (cfgKY2_ok.pins _) ?_) | refine Tri.rgnT (cfgKY2_ok.pins _) ?_); (repeat (first | refine RunT.oneA (hp := by simp (maxSteps := 2000000) (disch := first | decide | omega | (simp only [List.length_append, List.length_cons, List.length_nil, List.length_take, List.length_drop]; omega)) only [q36, b36, c36, d36, go_sem]; rfl) (h := ?_) | refine RunT.notA (h := ?_))); refine RunT.nil ?_; try simp only [Then]) | refine Tri.cF (by first | (simp only [go_sem]; done) | fail) ?_ | refine Tri.cT (by first | (simp only [go_sem]; done) | fail) ?_ | (refine Tri.skip ?_; try simp only [InBlock, Then]) | (refine Tri.exit ?_; simp only [Then, InBlock, if_true, if_false, ↓reduceIte, Nat.reduceEqDiff]) | refine Tri.seq (Tri.block ?_) | refine Tri.block ?_ | refine Tri.seq ?_ | (refine Tri.ret ?_; refine Con.fin (.inl rfl) (by simp only [Tryd.f77, cfgKY2, resA, resA1, go_sem]; rfl) (by simp only [Obs]) (by first | (simp only [kRRt, Con.of, resV, e, go_sem]; done) | fail) trivial rfl rfl))
                case true =>
                  refine Tri.at (by first | (simp only [q36, b36, c36, d36, Con.start, go_sem]; rfl) | rfl) ?_
                  repeat (first | ((first | refine Tri.seq (Tri.regT (cfgKY2_ok.pins _) ?_) | refine Tri.rgnT (cfgKY2_ok.pins _) ?_); (repeat (first | refine RunT.oneA (hp := by simp (maxSteps := 2000000) (disch := first | decide | omega | (simp only [List.length_append, List.length_cons, List.length_nil, List.length_take, List.length_drop]; omega)) only [q36, b36, c36, d36, go_sem]; rfl) (h := ?_) | refine RunT.notA (h := ?_))); refine RunT.nil ?_; try simp only [Then]) | refine Tri.cF (by first | (simp only [go_sem]; done) | fail) ?_ | refine Tri.cT (by first | (simp only [go_sem]; done) | fail) ?_ | (refine Tri.skip ?_; try simp only [Then]) | (refine Tri.exit ?_; simp only [Then, InBlock, if_true, if_false, ↓reduceIte, Nat.reduceEqDiff]) | refine Tri.seq (Tri.block ?_) | refine Tri.block ?_ | refine Tri.seq ?_ | (refine Tri.ret ?_; refine Con.fin (.inl rfl) (by simp only [Tryd.f77, cfgKY2, resA, resA1, go_sem]; rfl) (by simp only [Obs, and_true, true_and]) (by first | (simp only [kRRt, Con.of, Con.ofO, resV, q36, b36, c36, d36, go_sem]; done) | fail) trivial rfl rfl))
                  cases b37 : decide ((3000 : Int) < ((ti.length : Nat) : Int))
                  case true =>
                    have e : (fdR ((5 : Int), cl, sv, no, en, fl, ti, se, co, ())).isSome = false := by
                      rw [fd_5]
                      rw [Bool.eq_false_iff]; intro h
                      first | (rw [b37] at h; simp at h; done) | (simp only [Bool.and_eq_true, Bool.not_eq_true', strEq_nil_len, zero_eq_i, decide_eq_true_eq, decide_eq_false_iff_not] at h; simp only [decide_eq_true_eq] at b37; omega)
                    refine Tri.at (by first | (simp only [q37, q38, b37, e, Con.start, go_sem]; rfl) | rfl) ?_
                    repeat (first | ((first | refine Tri.seq (Tri.regT (cfgKY2_ok.pins _) ?_) | refine Tri.rgnT (cfgKY2_ok.pins _) ?_); (repeat (first | refine RunT.oneA (hp := by simp (maxSteps := 2000000) (disch := first | decide | omega | (simp only [List.length_append, List.length_cons, List.length_nil, List.length_take, List.length_drop]; omega)) only [b37, go_sem]; rfl) (h := ?_) | refine RunT.notA (h := ?_))); refine RunT.nil ?_; try simp only [Then]) | refine Tri.cF (by first | (simp only [go_sem]; done) | fail) ?_ | refine Tri.cT (by first | (simp only [go_sem]; done) | fail) ?_ | (refine Tri.skip ?_; try simp only [InBlock, Then]) | (refine Tri.exit ?_; simp only [Then, InBlock, if_true, if_false, ↓reduceIte, Nat.reduceEqDiff]) | refine Tri.seq (Tri.block ?_) | refine Tri.block ?_ | refine Tri.seq ?_ | (refine Tri.ret ?_; refine Con.fin (.inl rfl) (by simp only [Tryd.f77, cfgKY2, resA, resA1, go_sem]; rfl) (by simp only [Obs]) (by first | (simp only [kRRt, Con.of, resV, e, go_sem]; done) | fail) trivial rfl rfl))
                  case false =>
                    cases c37 : decide ((0 : Int) < ((ti.length : Nat) : Int))
                    case true =>
                      have e : (fdR ((5 : Int), cl, sv, no, en, fl, ti, se, co, ())).isSome = false := by
                        rw [fd_5]
                        rw [Bool.eq_false_iff]; intro h
                        first | (rw [c37] at h; simp at h; done) | (simp only [Bool.and_eq_true, Bool.not_eq_true', strEq_nil_len, zero_eq_i, decide_eq_true_eq, decide_eq_false_iff_not] at h; simp only [decide_eq_true_eq] at c37; omega)
                      refine Tri.at (by first | (simp only [q37, q38, b37, c37, e, Con.start, go_sem]; rfl) | rfl) ?_
                      repeat (first | ((first | refine Tri.seq (Tri.regT (cfgKY2_ok.pins _) ?_) | refine Tri.rgnT (cfgKY2_ok.pins _) ?_); (repeat (first | refine RunT.oneA (hp := by simp (maxSteps := 2000000) (disch := first | decide | omega | (simp only [List.length_append, List.length_cons, List.length_nil, List.length_take, List.length_drop]; omega)) only [q37, b37, c37, go_sem]; rfl) (h := ?_) | refine RunT.notA (h := ?_))); refine RunT.nil ?_; try simp only [Then]) | refine Tri.cF (by first | (simp only [go_sem]; done) | fail) ?_ | refine Tri.cT (by first | (simp only [go_sem]; done) | fail) ?_ | (refine Tri.skip ?_; try simp only [InBlock, Then]) | (refine Tri.exit ?_; simp only [Then, InBlock, if_true, if_false, ↓reduceIte, Nat.reduceEqDiff]) | refine Tri.seq (Tri.block ?_) | refine Tri.block ?_ | refine Tri.seq ?_ | (refine Tri.ret ?_; refine Con.fin (.inl rfl) (by simp only [Tryd.f77, cfgKY2, resA, resA1, go_sem]; rfl) (by simp only [Obs]) (by first | (simp only [kRRt, Con.of, resV, e, go_sem]; done) | fail) trivial rfl rfl))
                    case false =>
                      cases b38 : decide ((3000 : Int) < ((se.length : Nat) : Int))
                      case true =>
                        have e : (fdR ((5 : Int), cl, sv, no, en, fl, ti, se, co, ())).isSome = false := by
                          rw [fd_5]
                          rw [Bool.eq_false_iff]; intro h
                          first | (rw [b38] at h; simp at h; done) | (simp only [Bool.and_eq_true, Bool.not_eq_true', Bool.not_eq_false', strEq_nil_r, strEq_nil_len, zero_eq_i, decide_eq_true_eq, decide_eq_false_iff_not] at h; simp only [Bool.and_eq_true, Bool.not_eq_true', Bool.not_eq_false', strEq_nil_r, strEq_nil_len, zero_eq_i, decide_eq_true_eq, decide_eq_false_iff_not] at b38; omega)
                        refine Tri.at (by first | (simp only [q37, q38, b37, c37, b38, e, Con.start, go_sem]; rfl) | rfl) ?_
                        repeat (first | ((first | refine Tri.seq (Tri.regT (cfgKY2_ok.pins _) ?_) | refine Tri.rgnT (cfgKY2_ok.pins _) ?_); (repeat (first | refine RunT.oneA (hp := by simp (maxSteps := 2000000) (disch := first | decide | omega | (simp only [List.length_append, List.length_cons, List.length_nil, List.length_take, List.length_drop]; omega)) only [q37, b37, c37, b38, go_sem]; rfl) (h := ?_) | refine RunT.notA (h := ?_))); refine RunT.nil ?_; try simp only [Then]) | refine Tri.cF (by first | (simp only [go_sem]; done) | fail) ?_ | refine Tri.cT (by first | (simp only [go_sem]; done) | fail) ?_ | (refine Tri.skip ?_; try simp only [InBlock, Then]) | (refine Tri.exit ?_; simp only [Then, InBlock, if_true, if_false, ↓reduceIte, Nat.reduceEqDiff]) | refine Tri.seq (Tri.block ?_) | refine Tri.block ?_ | refine Tri.seq ?_ | (refine Tri.ret ?_; refine Con.fin (.inl rfl) (by simp only [Tryd.f77, cfgKY2, resA, resA1, go_sem]; rfl) (by simp only [Obs]) (by first | (simp only [kRRt, Con.of, resV, e, go_sem]; done) | fail) trivial rfl rfl))
                      case false =>
                        refine Tri.at (by first | (simp only [q37, q38, b37, c37, b38, Con.start, go_sem]; rfl) | rfl) ?_
                        repeat (first | ((first | refine Tri.seq (Tri.regT (cfgKY2_ok.pins _) ?_) | refine Tri.rgnT (cfgKY2_ok.pins _) ?_); (repeat (first | refine RunT.oneA (hp := by simp (maxSteps := 2000000) (disch := first | decide | omega | (simp only [List.length_append, List.length_cons, List.length_nil, List.length_take, List.length_drop]; omega)) only [q37, q38, b37, c37, b38, go_sem]; rfl) (h := ?_) | refine RunT.notA (h := ?_))); refine RunT.nil ?_; try simp only [Then]) | refine Tri.cF (by first | (simp only [go_sem]; done) | fail) ?_ | refine Tri.cT (by first | (simp only [go_sem]; done) | fail) ?_ | (refine Tri.skip ?_; try simp only [Then]) | (refine Tri.exit ?_; simp only [Then, InBlock, if_true, if_false, ↓reduceIte, Nat.reduceEqDiff]) | refine Tri.seq (Tri.block ?_) | refine Tri.block ?_ | refine Tri.seq ?_ | (refine Tri.ret ?_; refine Con.fin (.inl rfl) (by simp only [Tryd.f77, cfgKY2, resA, resA1, go_sem]; rfl) (by simp only [Obs, and_true, true_and]) (by first | (simp only [kRRt, Con.of, Con.ofO, resV, q37, q38, b37, c37, b38, go_sem]; done) | fail) trivial rfl rfl))
                        cases d39 : decide (co = 0)
                        case false =>
                          have e : (fdR ((5 : Int), cl, sv, no, en, fl, ti, se, co, ())).isSome = false := by
                            rw [fd_5]
                            rw [Bool.eq_false_iff]; intro h
                            first | (rw [d39] at h; simp at h; done) | (simp only [Bool.and_eq_true, Bool.not_eq_true', strEq_nil_len, zero_eq_i, decide_eq_true_eq, decide_eq_false_iff_not] at h; simp only [decide_eq_false_iff_not] at d39; omega)
                          refine Tri.at (by first | (simp only [q39, go_sem]; rfl) | rfl) ?_
                          repeat (first | ((first | refine Tri.seq (Tri.regT (cfgKY2_ok.pins _) ?_) | refine Tri.rgnT (cfgKY2_ok.pins _) ?_); (repeat (first | refine RunT.oneA (hp := by simp (maxSteps := 2000000) (disch := first | decide | omega | (simp only [List.length_append, List.length_cons, List.length_nil, List.length_take, List.length_drop]; omega)) only [d39, go_sem]; rfl) (h := ?_) | refine RunT.notA (h := ?_))); refine RunT.nil ?_; try simp only [InBlock, Then]) | refine Tri.cF (by first | (simp only [go_sem]; done) | fail) ?_ | refine Tri.cT (by first | (simp only [go_sem]; done) | fail) ?_ | (refine Tri.skip ?_; try simp only [Then]) | (refine Tri.exit ?_; simp only [Then, InBlock, if_true, if_false, ↓reduceIte, Nat.reduceEqDiff]) | refine Tri.seq (Tri.block ?_) | refine Tri.block ?_ | refine Tri.seq ?_ | (refine Tri.ret ?_; refine Con.fin (.inl rfl) (by simp only [Tryd.f77, cfgKY2, resA, resA1, go_sem]; rfl) (by simp only [Obs]) (by first | (simp only [kRRt, Con.of, resV, e, go_sem]; done) | fail) trivial rfl rfl))
                        case true =>
                          have e : (fdR ((5 : Int), cl, sv, no, en, fl, ti, se, co, ())).isSome = true := by
                            rw [fd_5]
                            simp only [Bool.and_eq_true, Bool.not_eq_true', strEq_nil_r, strEq_nil_len, zero_eq_i, decide_eq_true_eq, decide_eq_false_iff_not] at a32 a33 b35 c35 d35 b36 c36 d36 b37 c37 b38 d39 ⊢
                            repeat' apply And.intro
                            all_goals first | assumption | omega
                          refine Tri.at (by first | (simp only [q39, go_sem]; rfl) | rfl) ?_
                          repeat (first | ((first | refine Tri.seq (Tri.regT (cfgKY2_ok.pins _) ?_) | refine Tri.rgnT (cfgKY2_ok.pins _) ?_); (repeat (first | refine RunT.oneA (hp := by simp (maxSteps := 2000000) (disch := first | decide | omega | (simp only [List.length_append, List.length_cons, List.length_nil, List.length_take, List.length_drop]; omega)) only [d39, go_sem]; rfl) (h := ?_) | refine RunT.notA (h := ?_))); refine RunT.nil ?_; try simp only [InBlock, Then]) | refine Tri.cF (by first | (simp only [go_sem]; done) | fail) ?_ | refine Tri.cT (by first | (simp only [go_sem]; done) | fail) ?_ | (refine Tri.skip ?_; try simp only [Then]) | (refine Tri.exit ?_; simp only [Then, InBlock, if_true, if_false, ↓reduceIte, Nat.reduceEqDiff]) | refine Tri.seq (Tri.block ?_) | refine Tri.block ?_ | refine Tri.seq ?_ | (refine Tri.ret ?_; refine Con.fin (.inl rfl) (by simp only [Tryd.f77, cfgKY2, resA, resA1, go_sem]; rfl) (by simp only [Obs]) (by first | (simp only [kRRt, Con.of, resV, e, go_sem]; done) | fail) trivial rfl rfl))
theorem rrt_6 (p : kRRt.Par) (hp : ∀ q ∈ kRRt.pre p, q) (hk : (p.1.1 : Int) = 6) : BodyOK Tryd.prog cfgKY2 Tryd.f77 (Tryd.f77.body.get rfl) kRRt p := by
  obtain ⟨⟨(kd : Int), (cl : List UInt8), (sv : List UInt8), (no : UInt64), (en : Int), (fl : Int), (ti : List UInt8), (se : List UInt8), (co : Int), u1⟩, u⟩ := p
  obtain ⟨hc, hs, _⟩ := Obs.of hp
  replace hc : cl.length ≤ 1000000000 := hc
  replace hs : sv.length ≤ 1000000000 := hs
  replace hk : kd = 6 := hk
  subst hk
  refine ⟨?_, Nat.zero_le _, rfl, rfl⟩
  show Tri _ _ _ (Code.seq _ (Code.seq _ (Code.seq (Code.seq _ (Code.cond _ (Code.seq _ _) _)) (Code.seq (Code.seq _ (Code.cond _ (Code.seq _ _) _)) (Code.seq (Code.seq _ (Code.cond _ (Code.seq _ _) _)) (Code.seq (Code.seq _ (Code.cond _ (Code.seq _ _) _)) (Code.seq (Code.seq _ (Code.cond _ (Code.seq _ _) _)) (Code.seq (Code.seq _ (Code.cond _ (Code.seq _ _) _)) (Code.seq (Code.seq _ (Code.cond _ (Code.seq _ _) _)) (Code.seq _ _)))))))))) _
  have z1 : decide ((6 : Int) < 1) = false := rfl
  have z7 : decide ((7 : Int) < 6) = false := rfl
  have q32 : hsM (6 : Int) 32 = false := by decide
  have q33 : hsM (6 : Int) 33 = false := by decide
  have q35 : hsM (6 : Int) 35 = false := by decide
  have q36 : hsM (6 : Int) 36 = false := by decide
  have q37 : hsM (6 : Int) 37 = false := by decide
  have q38 : hsM (6 : Int) 38 = true := by decide
  have q39 : hsM (6 : Int) 39 = false := by decide
  cases a32 : strEq cl []
  case false =>
    have e : (fdR ((6 : Int), cl, sv, no, en, fl, ti, se, co, ())).isSome = false := by
      rw [fd_6]
      rw [Bool.eq_false_iff]; intro h
      first | (rw [a32] at h; simp at h; done) | (simp only [Bool.and_eq_true, Bool.not_eq_true', strEq_nil_len, zero_eq_i, decide_eq_true_eq, decide_eq_false_iff_not] at h; simp only [Bool.not_eq_false', strEq_nil_r, strEq_nil_len, decide_eq_true_eq] at a32; omega)
    refine Tri.at (by first | (simp only [Con.start, go_sem]; rfl) | rfl) ?_
    repeat (first | ((first | refine Tri.seq (Tri.regT (cfgKY2_ok.pins _) ?_) | refine Tri.rgnT (cfgKY2_ok.pins _) ?_); (repeat (first | refine RunT.oneA (hp := by simp (maxSteps := 2000000) (disch := first | decide | omega | (simp only [List.length_append, List.length_cons, List.length_nil, List.length_take, List.length_drop]; omega)) only [q32, a32, go_sem]; rfl) (h := ?_) | refine RunT.notA (h := ?_))); refine RunT.nil ?_; try simp only [InBlock, Then]) | refine Tri.cF (by first | (simp only [go_sem]; done) | fail) ?_ | refine Tri.cT (by first | (simp only [go_sem]; done) | fail) ?_ | (refine Tri.skip ?_; try simp only [Then]) | (refine Tri.exit ?_; simp only [Then, InBlock, if_true, if_false, ↓reduceIte, Nat.reduceEqDiff]) | refine Tri.seq (Tri.block ?_) | refine Tri.block ?_ | refine Tri.seq ?_ | (refine Tri.ret ?_; refine Con.fin (.inl rfl) (by simp only [Tryd.f77, cfgKY2, resA, resA1, go_sem]; rfl) (by simp only [Obs]) (by first | (simp only [kRRt, Con.of, resV, e, go_sem]; done) | fail) trivial rfl rfl))
  case true =>
    refine Tri.at (by first | (simp only [Con.start, go_sem]; rfl) | rfl) ?_
    repeat (first | ((first | refine Tri.seq (Tri.regT (cfgKY2_ok.pins _) ?_) | refine Tri.rgnT (cfgKY2_ok.pins _) ?_); (repeat (first | refine RunT.oneA (hp := by simp (maxSteps := 2000000) (disch := first | decide | omega | (simp only [List.length_append, List.length_cons, List.length_nil, List.length_take, List.length_drop]; omega)) only [q32, a32, go_sem]; rfl) (h := ?_) | refine RunT.notA (h := ?_))); refine RunT.nil ?_; try simp only [InBlock, Then]) | refine Tri.cF (by first | (simp only [go_sem]; done) | fail) ?_ | refine Tri.cT (by first | (simp only [go_sem]; done) | fail) ?_ | (refine Tri.skip ?_; try simp only [Then]) | (refine Tri.exit ?_; simp only [Then, InBlock, if_true, if_false, ↓reduceIte, Nat.reduceEqDiff]) | refine Tri.seq (Tri.block ?_) | refine Tri.block ?_ | refine Tri.seq ?_ | (refine Tri.ret ?_; refine Con.fin (.inl rfl) (by simp only [Tryd.f77, cfgKY2, resA, resA1, go_sem]; rfl) (by simp only [Obs, and_true, true_and]) (by first | (simp only [kRRt, Con.of, Con.ofO, resV, z1, z7, q32, a32, go_sem]; done) | fail) trivial rfl rfl))
    cases a33 : strEq sv []
    case false =>
      have e : (fdR ((6 : Int), cl, sv, no, en, fl, ti, se, co, ())).isSome = false := by
        rw [fd_6]
        rw [Bool.eq_false_iff]; intro h
        first | (rw [a33] at h; simp at h; done) | (simp only [Bool.and_eq_true, Bool.not_eq_true', strEq_nil_len, zero_eq_i, decide_eq_true_eq, decide_eq_false_iff_not] at h; simp only [Bool.not_eq_false', strEq_nil_r, strEq_nil_len, decide_eq_true_eq] at a33; omega)
      refine Tri.at (by first | (simp only [q33, a33, e, Con.start, go_sem]; rfl) | rfl) ?_
      repeat (first | ((first | refine Tri.seq (Tri.regT (cfgKY2_ok.pins _) ?_) | refine Tri.rgnT (cfgKY2_ok.pins _) ?_); (repeat (first | refine RunT.oneA (hp := by simp (maxSteps := 2000000) (disch := first | decide | omega | (simp only [List.length_append, List.length_cons, List.length_nil, List.length_take, List.length_drop]; omega)) only [q33, a33, go_sem]; rfl) (h := ?_) | refine RunT.notA (h := ?_))); refine RunT.nil ?_; try simp only [Then]) | refine Tri.cF (by first | (simp only [go_sem]; done) | fail) ?_ | refine Tri.cT (by first | (simp only [go_sem]; done) | fail) ?_ | (refine Tri.skip ?_; try simp only [InBlock, Then]) | (refine Tri.exit ?_; simp only [Then, InBlock, if_true, if_false, ↓reduceIte, Nat.reduceEqDiff]) | refine Tri.seq (Tri.block ?_) | refine Tri.block ?_ | refine Tri.seq ?_ | (refine Tri.ret ?_; refine Con.fin (.inl rfl) (by simp only [Tryd.f77, cfgKY2, resA, resA1, go_sem]; rfl) (by simp only [Obs]) (by first | (simp only [kRRt, Con.of, resV, e, go_sem]; done) | fail) trivial rfl rfl))
    case true =>
      refine Tri.at (by first | (simp only [q33, a33, Con.start, go_sem]; rfl) | rfl) ?_
      repeat (first | ((first | refine Tri.seq (Tri.regT (cfgKY2_ok.pins _) ?_) | refine Tri.rgnT (cfgKY2_ok.pins _) ?_); (repeat (first | refine RunT.oneA (hp := by simp (maxSteps := 2000000) (disch := first | decide | omega | (simp only [List.length_append, List.length_cons, List.length_nil, List.length_take, List.length_drop]; omega)) only [q33, a33, go_sem]; rfl) (h := ?_) | refine RunT.notA (h := ?_))); refine RunT.nil ?_; try simp only [Then]) | refine Tri.cF (by first | (simp only [go_sem]; done) | fail) ?_ | refine Tri.cT (by first | (simp only [go_sem]; done) | fail) ?_ | (refine Tri.skip ?_; try simp only [Then]) | (refine Tri.exit ?_; simp only [Then, InBlock, if_true, if_false, ↓reduceIte, Nat.reduceEqDiff]) | refine Tri.seq (Tri.block ?_) | refine Tri.block ?_ | refine Tri.seq ?_ | (refine Tri.ret ?_; refine Con.fin (.inl rfl) (by simp only [Tryd.f77, cfgKY2, resA, resA1, go_sem]; rfl) (by simp only [Obs, and_true, true_and]) (by first | (simp only [kRRt, Con.of, Con.ofO, resV, q33, a33, go_sem]; done) | fail) trivial rfl rfl))
      cases b35 : decide (en < 0)
      case true =>
        have e : (fdR ((6 : Int), cl, sv, no, en, fl, ti, se, co, ())).isSome = false := by
          rw [fd_6]
          rw [Bool.eq_false_iff]; intro h
          first | (rw [b35] at h; simp at h; done) | (simp only [Bool.and_eq_true, Bool.not_eq_true', strEq_nil_len, zero_eq_i, decide_eq_true_eq, decide_eq_false_iff_not] at h; simp only [decide_eq_true_eq] at b35; omega)
        refine Tri.at (by first | (simp only [q35, b35, e, Con.start, go_sem]; rfl) | rfl) ?_
        repeat (first | ((first | refine Tri.seq (Tri.regT (cfgKY2_ok.pins _) ?_) | refine Tri.rgnT (cfgKY2_ok.pins _) ?_); (repeat (first | refine RunT.oneA (hp := by simp (maxSteps := 2000000) (disch := first | decide | omega | (simp only [List.length_append, List.length_cons, List.length_nil, List.length_take, List.length_drop]; omega)) only [b35, go_sem]; rfl) (h := ?_) | refine RunT.notA (h := ?_))); refine RunT.nil ?_; try simp only [Then]) | refine Tri.cF (by first | (simp only [go_sem]; done) | fail) ?_ | refine Tri.cT (by first | (simp only [go_sem]; done) | fail) ?_ | (refine Tri.skip ?_; try simp only [InBlock, Then]) | (refine Tri.exit ?_; simp only [Then, InBlock, if_true, if_false, ↓reduceIte, Nat.reduceEqDiff]) | refine Tri.seq (Tri.block ?_) | refine Tri.block ?_ | refine Tri.seq ?_ | (refine Tri.ret ?_; refine Con.fin (.inl rfl) (by simp only [Tryd.f77, cfgKY2, resA, resA1, go_sem]; rfl) (by simp only [Obs]) (by first | (simp only [kRRt, Con.of, resV, e, go_sem]; done) | fail) trivial rfl rfl))
      case false =>
        cases c35 : decide ((1099511627776 : Int) < en)
        case true =>
          have e : (fdR ((6 : Int), cl, sv, no, en, fl, ti, se, co, ())).isSome = false := by
            rw [fd_6]
            rw [Bool.eq_false_iff]; intro h
            first | (rw [c35] at h; simp at h; done) | (simp only [Bool.and_eq_true, Bool.not_eq_true', strEq_nil_len, zero_eq_i, decide_eq_true_eq, decide_eq_false_iff_not] at h; simp only [decide_eq_true_eq] at c35; omega)
          refine Tri.at (by first | (simp only [q35, b35, c35, e, Con.start, go_sem]; rfl) | rfl) ?_
          repeat (first | ((first | refine Tri.seq (Tri.regT (cfgKY2_ok.pins _) ?_) | refine Tri.rgnT (cfgKY2_ok.pins _) ?_); (repeat (first | refine RunT.oneA (hp := by simp (maxSteps := 2000000) (disch := first | decide | omega | (simp only [List.length_append, List.length_cons, List.length_nil, List.length_take, List.length_drop]; omega)) only [b35, c35, go_sem]; rfl) (h := ?_) | refine RunT.notA (h := ?_))); refine RunT.nil ?_; try simp only [Then]) | refine Tri.cF (by first | (simp only [go_sem]; done) | fail) ?_ | refine Tri.cT (by first | (simp only [go_sem]; done) | fail) ?_ | (refine Tri.skip ?_; try simp only [InBlock, Then]) | (refine Tri.exit ?_; simp only [Then, InBlock, if_true, if_false, ↓reduceIte, Nat.reduceEqDiff]) | refine Tri.seq (Tri.block ?_) | refine Tri.block ?_ | refine Tri.seq ?_ | (refine Tri.ret ?_; refine Con.fin (.inl rfl) (by simp only [Tryd.f77, cfgKY2, resA, resA1, go_sem]; rfl) (by simp only [Obs]) (by first | (simp only [kRRt, Con.of, resV, e, go_sem]; done) | fail) trivial rfl rfl))
        case false =>
          cases d35 : decide (en = 0)
          case false =>
            have e : (fdR ((6 : Int), cl, sv, no, en, fl, ti, se, co, ())).isSome = false := by
              rw [fd_6]
              rw [Bool.eq_false_iff]; intro h
              first | (rw [d35] at h; simp at h; done) | (simp only [Bool.and_eq_true, Bool.not_eq_true', strEq_nil_len, zero_eq_i, decide_eq_true_eq, decide_eq_false_iff_not] at h; simp only [decide_eq_false_iff_not] at d35; omega)
            refine Tri.at (by first | (simp only [q35, b35, c35, d35, e, Con.start, go_sem]; rfl) | rfl) ?_
            repeat (first | ((first | refine Tri.seq (Tri.regT (cfgKY2_ok.pins _) ?_) | refine Tri.rgnT (cfgKY2_ok.pins _) ?_); (repeat (first | refine RunT.oneA (hp := by simp (maxSteps := 2000000) (disch := first | decide | omega | (simp only [List.length_append, List.length_cons, List.length_nil, List.length_take, List.length_drop]; omega)) only [q35, b35, c35, d35, go_sem]; rfl) (h := ?_) | refine RunT.notA (h := ?_))); refine RunT.nil ?_; try simp only [Then]) | refine Tri.cF (by first | (simp only [go_sem]; done) | fail) ?_ | refine Tri.cT (by first | (simp only [go_sem]; done) | fail) ?_ | (refine Tri.skip ?_; try simp only [InBlock, Then]) | (refine Tri.exit ?_; simp only [Then, InBlock, if_true, if_false, ↓reduceIte, Nat.reduceEqDiff]) | refine Tri.seq (Tri.block ?_) | refine Tri.block ?_ | refine Tri.seq ?_ | (refine Tri.ret ?_; refine Con.fin (.inl rfl) (by simp only [Tryd.f77, cfgKY2, resA, resA1, go_sem]; rfl) (by simp only [Obs]) (by first | (simp only [kRRt, Con.of, resV, e, go_sem]; done) | fail) trivial rfl rfl))
          case true =>
            refine Tri.at (by first | (simp only [q35, b35, c35, d35, Con.start, go_sem]; rfl) | rfl) ?_
            repeat (first | ((first | refine Tri.seq (Tri.regT (cfgKY2_ok.pins _) ?_) | refine Tri.rgnT (cfgKY2_ok.pins _) ?_); (repeat (first | refine RunT.oneA (hp := by simp (maxSteps := 2000000) (disch := first | decide | omega | (simp only [List.length_append, List.length_cons, List.length_nil, List.length_take, List.length_drop]; omega)) only [q35, b35, c35, d35, go_sem]; rfl) (h := ?_) | refine RunT.notA (h := ?_))); refine RunT.nil ?_; try simp only [Then]) | refine Tri.cF (by first | (simp only [go_sem]; done) | fail) ?_ | refine Tri.cT (by first | (simp only [go_sem]; done) | fail) ?_ | (refine Tri.skip ?_; try simp only [Then]) | (refine Tri.exit ?_; simp only [Then, InBlock, if_true, if_false, ↓reduceIte, Nat.reduceEqDiff]) | refine Tri.seq (Tri.block ?_) | refine Tri.block ?_ | refine Tri.seq ?_ | (refine Tri.ret ?_; refine Con.fin (.inl rfl) (by simp only [Tryd.f77, cfgKY2, resA, resA1, go_sem]; rfl) (by simp only [Obs, and_true, true_and]) (by first | (simp only [kRRt, Con.of, Con.ofO, resV, q35, b35, c35, d35, go_sem]; done) | fail) trivial rfl rfl))
            cases b36 : decide (fl < 0)
            case true =>
              have e : (fdR ((6 : Int), cl, sv, no, en, fl, ti, se, co, ())).isSome = false := by
                rw [fd_6]
                rw [Bool.eq_false_iff]; intro h
                first | (rw [b36] at h; simp at h; done) | (simp only [Bool.and_eq_true, Bool.not_eq_true', strEq_nil_len, zero_eq_i, decide_eq_true_eq, decide_eq_false_iff_not] at h; simp only [decide_eq_true_eq] at b36; omega)
              refine Tri.at (by first | (simp only [q36, b36, e, Con.start, go_sem]; rfl) | rfl) ?_
              repeat (first | ((first | refine Tri.seq (Tri.regT (cfgKY2_ok.pins _) ?_) | refine Tri.rgnT (cfgKY2_ok.pins _) ?_); (repeat (first | refine RunT.oneA (hp := by simp (maxSteps := 2000000) (disch := first | decide | omega | (simp only [List.length_append, List.length_cons, List.length_nil, List.length_take, List.length_drop]; omega)) only [b36, go_sem]; rfl) (h := ?_) | refine RunT.notA (h := ?_))); refine RunT.nil ?_; try simp only [Then]) | refine Tri.cF (by first | (simp only [go_sem]; done) | fail) ?_ | refine Tri.cT (by first | (simp only [go_sem]; done) | fail) ?_ | (refine Tri.skip ?_; try simp only [InBlock, Then]) | (refine Tri.exit ?_; simp only [Then, InBlock, if_true, if_false, ↓reduceIte, Nat.reduceEqDiff]) | refine Tri.seq (Tri.block ?_) | refine Tri.block ?_ | refine Tri.seq ?_ | (refine Tri.ret ?_; refine Con.fin (.inl rfl) (by simp only [Tryd.f77, cfgKY2, resA, resA1, go_sem]; rfl) (by simp only [Obs]) (by first | (simp only [kRRt, Con.of, resV, e, go_sem]; done) | fail) trivial rfl rfl))
            case false =>
              cases c36 : decide ((3 : Int) < fl)
              case true =>
                have e : (fdR ((6 : Int), cl, sv, no, en, fl, ti, se, co, ())).isSome = false := by
                  rw [fd_6]
                  rw [Bool.eq_false_iff]; intro h
                  first | (rw [c36] at h; simp at h; done) | (simp only [Bool.and_eq_true, Bool.not_eq_true', strEq_nil_len, zero_eq_i, decide_eq_true_eq, decide_eq_false_iff_not] at h; simp only [decide_eq_true_eq] at c36; omega)
                refine Tri.at (by first | (simp only [q36, b36, c36, e, Con.start, go_sem]; rfl) | rfl) ?_
                repeat (first | ((first | refine Tri.seq (Tri.regT (cfgKY2_ok.pins _) ?_) | refine Tri.rgnT (cfgKY2_ok.pins _) ?_); (repeat (first | refine RunT.oneA (hp := by simp (maxSteps := 2000000) (disch := first | decide | omega | (simp only [List.length_append, List.length_cons, List.length_nil, List.length_take, List.length_drop]; omega)) only [b36, c36, go_sem]; rfl) (h := ?_) | refine RunT.notA (h := ?_))); refine RunT.nil ?_; try simp only [Then]) | refine Tri.cF (by first | (simp only [go_sem]; done) | fail) ?_ | refine Tri.cT (by first | (simp only [go_sem]; done) | fail) ?_ | (refine Tri.skip ?_; try simp only [InBlock, Then]) | (refine Tri.exit ?_; simp only [Then, InBlock, if_true, if_false, ↓reduceIte, Nat.reduceEqDiff]) | refine Tri.seq (Tri.block ?_) | refine Tri.block ?_ | refine Tri.seq ?_ | (refine Tri.ret ?_; refine Con.fin (.inl rfl) (by simp only [Tryd.f77, cfgKY2, resA, resA1, go_sem]; rfl) (by simp only [Obs]) (by first | (simp only [kRRt, Con.of, resV, e, go_sem]; done) | fail) trivial rfl rfl))
              case false =>
                cases d36 : decide (fl = 0)
                case false =>
                  have e : (fdR ((6 : Int), cl, sv, no, en, fl, ti, se, co, ())).isSome = false := by
                    rw [fd_6]
                    rw [Bool.eq_false_iff]; intro h
                    first | (rw [d36] at h; simp at h; done) | (simp only [Bool.and_eq_true, Bool.not_eq_true', strEq_nil_len, zero_eq_i, decide_eq_true_eq, decide_eq_false_iff_not] at h; simp only [decide_eq_false_iff_not] at d36; omega)
                  refine Tri.at (by first | (simp only [q36, b36, c36, d36, e, Con.start, go_sem]; rfl) | rfl) ?_
                  repeat (first | ((first | refine Tri.seq (Tri.regT (cfgKY2_ok.pins _) ?_) | refine Tri.rgnT (cfgKY2_ok.pins _) ?_); (repeat (first | refine RunT.oneA (hp := by simp (maxSteps := 2000000) (disch := first | decide | omega | (simp only [List.length_append, List.length_cons, List.length_nil, List.length_take, List.length_drop]; omega)) only [q36, b36, c36, d36, go_sem]; rfl) (h := ?_) | refine RunT.notA (h := ?_))); refine RunT.nil ?_; try simp only [Then]) | refine Tri.cF (by first | (simp only [go_sem]; done) | fail) ?_ | refine Tri.cT (by first | (simp only [go_sem]; done) | fail) ?_ | (refine Tri.skip ?_; try simp only [InBlock, Then]) | (refine Tri.exit ?_; simp only [Then, InBlock, if_true, if_false, ↓reduceIte, Nat.reduceEqDiff]) | refine Tri.seq (Tri.block ?_) | refine Tri.block ?_ | refine Tri.seq ?_ | (refine Tri.ret ?_; refine Con.fin (.inl rfl) (by simp only [Tryd.f77, cfgKY2, resA, resA1, go_sem]; rfl) (by simp only [Obs]) (by first | (simp only [kRRt, Con.of, resV, e, go_sem]; done) | fail) trivial rfl rfl))
                case true =>
                  refine Tri.at (by first | (simp only [q36, b36, c36, d36, Con.start, go_sem]; rfl) | rfl) ?_
                  repeat (first | ((first | refine Tri.seq (Tri.regT (cfgKY2_ok.pins _) ?_) | refine Tri.rgnT (cfgKY2_ok.pins _) ?_); (repeat (first | refine RunT.oneA (hp := by simp (maxSteps := 2000000) (disch := first | decide | omega | (simp only [List.length_append, List.length_cons, List.length_nil, List.length_take, List.length_drop]; omega)) only [q36, b36, c36, d36, go_sem]; rfl) (h := ?_) | refine RunT.notA (h := ?_))); refine RunT.nil ?_; try simp only [Then]) | refine Tri.cF (by first | (simp only [go_sem]; done) | fail) ?_ | refine Tri.cT (by first | (simp only [go_sem]; done) | fail) ?_ | (refine Tri.skip ?_; try simp only [Then]) | (refine Tri.exit ?_; simp only [Then, InBlock, if_true, if_false, ↓reduceIte, Nat.reduceEqDiff]) | refine Tri.seq (Tri.block ?_) | refine Tri.block ?_ | refine Tri.seq ?_ | (refine Tri.ret ?_; refine Con.fin (.inl rfl) (by simp only [Tryd.f77, cfgKY2, resA, resA1, go_sem]; rfl) (by simp only [Obs, and_true, true_and]) (by first | (simp only [kRRt, Con.of, Con.ofO, resV, q36, b36, c36, d36, go_sem]; done) | fail) trivial rfl rfl))
                  cases b37 : decide ((3000 : Int) < ((ti.length : Nat) : Int))
                  case true =>
                    have e : (fdR ((6 : Int), cl, sv, no, en, fl, ti, se, co, ())).isSome = false := by
                      rw [fd_6]
                      rw [Bool.eq_false_iff]; intro h
                      first | (rw [b37] at h; simp at h; done) | (simp only [Bool.and_eq_true, Bool.not_eq_true', strEq_nil_len, zero_eq_i, decide_eq_true_eq, decide_eq_false_iff_not] at h; simp only [decide_eq_true_eq] at b37; omega)
                    refine Tri.at (by first | (simp only [q37, q38, b37, e, Con.start, go_sem]; rfl) | rfl) ?_
                    repeat (first | ((first | refine Tri.seq (Tri.regT (cfgKY2_ok.pins _) ?_) | refine Tri.rgnT (cfgKY2_ok.pins _) ?_); (repeat (first | refine RunT.oneA (hp := by simp (maxSteps := 2000000) (disch := first | decide | omega | (simp only [List.length_append, List.length_cons, List.length_nil, List.length_take, List.length_drop]; omega)) only [b37, go_sem]; rfl) (h := ?_) | refine RunT.notA (h := ?_))); refine RunT.nil ?_; try simp only [Then]) | refine Tri.cF (by first | (simp only [go_sem]; done) | fail) ?_ | refine Tri.cT (by first | (simp only [go_sem]; done) | fail) ?_ | (refine Tri.skip ?_; try simp only [InBlock, Then]) | (refine Tri.exit ?_; simp only [Then, InBlock, if_true, if_false, ↓reduceIte, Nat.reduceEqDiff]) | refine Tri.seq (Tri.block ?_) | refine Tri.block ?_ | refine Tri.seq ?_ | (refine Tri.ret ?_; refine Con.fin (.inl rfl) (by simp only [Tryd.f77, cfgKY2, resA, resA1, go_sem]; rfl) (by simp only [Obs]) (by first | (simp only [kRRt, Con.of, resV, e, go_sem]; done) | fail) trivial rfl rfl))
                  case false =>
                    cases c37 : decide ((0 : Int) < ((ti.length : Nat) : Int))
                    case true =>
                      have e : (fdR ((6 : Int), cl, sv, no, en, fl, ti, se, co, ())).isSome = false := by
                        rw [fd_6]
                        rw [Bool.eq_false_iff]; intro h
                        first | (rw [c37] at h; simp at h; done) | (simp only [Bool.and_eq_true, Bool.not_eq_true', strEq_nil_len, zero_eq_i, decide_eq_true_eq, decide_eq_false_iff_not] at h; simp only [decide_eq_true_eq] at c37; omega)
                      refine Tri.at (by first | (simp only [q37, q38, b37, c37, e, Con.start, go_sem]; rfl) | rfl) ?_
                      repeat (first | ((first | refine Tri.seq (Tri.regT (cfgKY2_ok.pins _) ?_) | refine Tri.rgnT (cfgKY2_ok.pins _) ?_); (repeat (first | refine RunT.oneA (hp := by simp (maxSteps := 2000000) (disch := first | decide | omega | (simp only [List.length_append, List.length_cons, List.length_nil, List.length_take, List.length_drop]; omega)) only [q37, b37, c37, go_sem]; rfl) (h := ?_) | refine RunT.notA (h := ?_))); refine RunT.nil ?_; try simp only [Then]) | refine Tri.cF (by first | (simp only [go_sem]; done) | fail) ?_ | refine Tri.cT (by first | (simp only [go_sem]; done) | fail) ?_ | (refine Tri.skip ?_; try simp only [InBlock, Then]) | (refine Tri.exit ?_; simp only [Then, InBlock, if_true, if_false, ↓reduceIte, Nat.reduceEqDiff]) | refine Tri.seq (Tri.block ?_) | refine Tri.block ?_ | refine Tri.seq ?_ | (refine Tri.ret ?_; refine Con.fin (.inl rfl) (by simp only [Tryd.f77, cfgKY2, resA, resA1, go_sem]; rfl) (by simp only [Obs]) (by first | (simp only [kRRt, Con.of, resV, e, go_sem]; done) | fail) trivial rfl rfl))
                    case false =>
                      cases b38 : decide ((3000 : Int) < ((se.length : Nat) : Int))
                      case true =>
                        have e : (fdR ((6 : Int), cl, sv, no, en, fl, ti, se, co, ())).isSome = false := by
                          rw [fd_6]
                          rw [Bool.eq_false_iff]; intro h
                          first | (rw [b38] at h; simp at h; done) | (simp only [Bool.and_eq_true, Bool.not_eq_true', Bool.not_eq_false', strEq_nil_r, strEq_nil_len, zero_eq_i, decide_eq_true_eq, decide_eq_false_iff_not] at h; simp only [Bool.and_eq_true, Bool.not_eq_true', Bool.not_eq_false', strEq_nil_r, strEq_nil_len, zero_eq_i, decide_eq_true_eq, decide_eq_false_iff_not] at b38; omega)
                        refine Tri.at (by first | (simp only [q37, q38, b37, c37, b38, e, Con.start, go_sem]; rfl) | rfl) ?_
                        repeat (first | ((first | refine Tri.seq (Tri.regT (cfgKY2_ok.pins _) ?_) | refine Tri.rgnT (cfgKY2_ok.pins _) ?_); (repeat (first | refine RunT.oneA (hp := by simp (maxSteps := 2000000) (disch := first | decide | omega | (simp only [List.length_append, List.length_cons, List.length_nil, List.length_take, List.length_drop]; omega)) only [q37, b37, c37, b38, go_sem]; rfl) (h := ?_) | refine RunT.notA (h := ?_))); refine RunT.nil ?_; try simp only [Then]) | refine Tri.cF (by first | (simp only [go_sem]; done) | fail) ?_ | refine Tri.cT (by first | (simp only [go_sem]; done) | fail) ?_ | (refine Tri.skip ?_; try simp only [InBlock, Then]) | (refine Tri.exit ?_; simp only [Then, InBlock, if_true, if_false, ↓reduceIte, Nat.reduceEqDiff]) | refine Tri.seq (Tri.block ?_) | refine Tri.block ?_ | refine Tri.seq ?_ | (refine Tri.ret ?_; refine Con.fin (.inl rfl) (by simp only [Tryd.f77, cfgKY2, resA, resA1, go_sem]; rfl) (by simp only [Obs]) (by first | (simp only [kRRt, Con.of, resV, e, go_sem]; done) | fail) trivial rfl rfl))
                      case false =>
                        refine Tri.at (by first | (simp only [q37, q38, b37, c37, b38, Con.start, go_sem]; rfl) | rfl) ?_
                        repeat (first | ((first | refine Tri.seq (Tri.regT (cfgKY2_ok.pins _) ?_) | refine Tri.rgnT (cfgKY2_ok.pins _) ?_); (repeat (first | refine RunT.oneA (hp := by simp (maxSteps := 2000000) (disch := first | decide | omega | (simp only [List.length_append, List.length_cons, List.length_nil, List.length_take, List.length_drop]; omega)) only [q37, q38, b37, c37, b38, go_sem]; rfl) (h := ?_) | refine RunT.notA (h := ?_))); refine RunT.nil ?_; try simp only [Then]) | refine Tri.cF (by first | (simp only [go_sem]; done) | fail) ?_ | refine Tri.cT (by first | (simp only [go_sem]; done) | fail) ?_ | (refine Tri.skip ?_; try simp only [Then]) | (refine Tri.exit ?_; simp only [Then, InBlock, if_true, if_false, ↓reduceIte, Nat.reduceEqDiff]) | refine Tri.seq (Tri.block ?_) | refine Tri.block ?_ | refine Tri.seq ?_ | (refine Tri.ret ?_; refine Con.fin (.inl rfl) (by simp only [Tryd.f77, cfgKY2, resA, resA1, go_sem]; rfl) (by simp only [Obs, and_true, true_and]) (by first | (simp only [kRRt, Con.of, Con.ofO, resV, q37, q38, b37, c37, b38, go_sem]; done) | fail) trivial rfl rfl))
                        cases d39 : decide (co = 0)
                        case false =>
                          have e : (fdR ((6 : Int), cl, sv, no, en, fl, ti, se, co, ())).isSome = false := by
                            rw [fd_6]
                            rw [Bool.eq_false_iff]; intro h
                            first | (rw [d39] at h; simp at h; done) | (simp only [Bool.and_eq_true, Bool.not_eq_true', strEq_nil_len, zero_eq_i, decide_eq_true_eq, decide_eq_false_iff_not] at h; simp only [decide_eq_false_iff_not] at d39; omega)
                          refine Tri.at (by first | (simp only [q39, go_sem]; rfl) | rfl) ?_
                          repeat (first | ((first | refine Tri.seq (Tri.regT (cfgKY2_ok.pins _) ?_) | refine Tri.rgnT (cfgKY2_ok.pins _) ?_); (repeat (first | refine RunT.oneA (hp := by simp (maxSteps := 2000000) (disch := first | decide | omega | (simp only [List.length_append, List.length_cons, List.length_nil, List.length_take, List.length_drop]; omega)) only [d39, go_sem]; rfl) (h := ?_) | refine RunT.notA (h := ?_))); refine RunT.nil ?_; try simp only [InBlock, Then]) | refine Tri.cF (by first | (simp only [go_sem]; done) | fail) ?_ | refine Tri.cT (by first | (simp only [go_sem]; done) | fail) ?_ | (refine Tri.skip ?_; try simp only [Then]) | (refine Tri.exit ?_; simp only [Then, InBlock, if_true, if_false, ↓reduceIte, Nat.reduceEqDiff]) | refine Tri.seq (Tri.block ?_) | refine Tri.block ?_ | refine Tri.seq ?_ | (refine Tri.ret ?_; refine Con.fin (.inl rfl) (by simp only [Tryd.f77, cfgKY2, resA, resA1, go_sem]; rfl) (by simp only [Obs]) (by first | (simp only [kRRt, Con.of, resV, e, go_sem]; done) | fail) trivial rfl rfl))
                        case true =>
                          have e : (fdR ((6 : Int), cl, sv, no, en, fl, ti, se, co, ())).isSome = true := by
                            rw [fd_6]
                            simp only [Bool.and_eq_true, Bool.not_eq_true', strEq_nil_r, strEq_nil_len, zero_eq_i, decide_eq_true_eq, decide_eq_false_iff_not] at a32 a33 b35 c35 d35 b36 c36 d36 b37 c37 b38 d39 ⊢
                            repeat' apply And.intro
                            all_goals first | assumption | omega
                          refine Tri.at (by first | (simp only [q39, go_sem]; rfl) | rfl) ?_
                          repeat (first | ((first | refine Tri.seq (Tri.regT (cfgKY2_ok.pins _) ?_) | refine Tri.rgnT (cfgKY2_ok.pins _) ?_); (repeat (first | refine RunT.oneA (hp := by simp (maxSteps := 2000000) (disch := first | decide | omega | (simp only [List.length_append, List.length_cons, List.length_nil, List.length_take, List.length_drop]; omega)) only [d39, go_sem]; rfl) (h := ?_) | refine RunT.notA (h := ?_))); refine RunT.nil ?_; try simp only [InBlock, Then]) | refine Tri.cF (by first | (simp only [go_sem]; done) | fail) ?_ | refine Tri.cT (by first | (simp only [go_sem]; done) | fail) ?_ | (refine Tri.skip ?_; try simp only [Then]) | (refine Tri.exit ?_; simp only [Then, InBlock, if_true, if_false, ↓reduceIte, Nat.reduceEqDiff]) | refine Tri.seq (Tri.block ?_) | refine Tri.block ?_ | refine Tri.seq ?_ | (refine Tri.ret ?_; refine Con.fin (.inl rfl) (by simp only [Tryd.f77, cfgKY2, resA, resA1, go_sem]; rfl) (by simp only [Obs]) (by first | (simp only [kRRt, Con.of, resV, e, go_sem]; done) | fail) trivial rfl rfl))
end
end Go.Proofs.YtjdeaphfamenaaaDoor

namespace Go.Proofs.YtjdeaphfamenaaaDoor
open Go.Vc Go.Proofs
set_option maxRecDepth 10000
set_option maxHeartbeats 4000000
section
attribute [local go_sem] Tryd.f77 kRRt kHs kRNmd cfgKY2 tyTabM tyTabK tyTab
theorem rrt_7 (p : kRRt.Par) (hp : ∀ q ∈ kRRt.pre p, q) (hk : (p.1.1 : Int) = 7) : BodyOK Tryd.prog cfgKY2 Tryd.f77 (Tryd.f77.body.get rfl) kRRt p := by
  obtain ⟨⟨(kd : Int), (cl : List UInt8), (sv : List UInt8), (no : UInt64), (en : Int), (fl : Int), (ti : List UInt8), (se : List UInt8), (co : Int), u1⟩, u⟩ := p
  obtain ⟨hc, hs, _⟩ := Obs.of hp
  replace hc : cl.length ≤ 1000000000 := hc
  replace hs : sv.length ≤ 1000000000 := hs
  replace hk : kd = 7 := hk
  subst hk
  refine ⟨?_, Nat.zero_le _, rfl, rfl⟩
  show Tri _ _ _ (Code.seq _ (Code.seq _ (Code.seq (Code.seq _ (Code.cond _ (Code.seq _ _) _)) (Code.seq (Code.seq _ (Code.cond _ (Code.seq _ _) _)) (Code.seq (Code.seq _ (Code.cond _ (Code.seq _ _) _)) (Code.seq (Code.seq _ (Code.cond _ (Code.seq _ _) _)) (Code.seq (Code.seq _ (Code.cond _ (Code.seq _ _) _)) (Code.seq (Code.seq _ (Code.cond _ (Code.seq _ _) _)) (Code.seq (Code.seq _ (Code.cond _ (Code.seq _ _) _)) (Code.seq _ _)))))))))) _
  have z1 : decide ((7 : Int) < 1) = false := rfl
  have z7 : decide ((7 : Int) < 7) = false := rfl
  have q32 : hsM (7 : Int) 32 = false := by decide
  have q33 : hsM (7 : Int) 33 = false := by decide
  have q35 : hsM (7 : Int) 35 = false := by decide
  have q36 : hsM (7 : Int) 36 = false := by decide
  have q37 : hsM (7 : Int) 37 = false := by decide
  have q38 : hsM (7 : Int) 38 = false := by decide
  have q39 : hsM (7 : Int) 39 = true := by decide
  cases a32 : strEq cl []
  case false =>
    have e : (fdR ((7 : Int), cl, sv, no, en, fl, ti, se, co, ())).isSome = false := by
      rw [fd_7]
      rw [Bool.eq_false_iff]; intro h
      first | (rw [a32] at h; simp at h; done) | (simp only [Bool.and_eq_true, Bool.not_eq_true', strEq_nil_len, zero_eq_i, decide_eq_true_eq, decide_eq_false_iff_not] at h; simp only [Bool.not_eq_false', strEq_nil_r, strEq_nil_len, decide_eq_true_eq] at a32; omega)
    refine Tri.at (by first | (simp only [Con.start, go_sem]; rfl) | rfl) ?_
    repeat (first | ((first | refine Tri.seq (Tri.regT (cfgKY2_ok.pins _) ?_) | refine Tri.rgnT (cfgKY2_ok.pins _) ?_); (repeat (first | refine RunT.oneA (hp := by simp (maxSteps := 2000000) (disch := first | decide | omega | (simp only [List.length_append, List.length_cons, List.length_nil, List.length_take, List.length_drop]; omega)) only [q32, a32, go_sem]; rfl) (h := ?_) | refine RunT.notA (h := ?_))); refine RunT.nil ?_; try simp only [InBlock, Then]) | refine Tri.cF (by first | (simp only [go_sem]; done) | fail) ?_ | refine Tri.cT (by first | (simp only [go_sem]; done) | fail) ?_ | (refine Tri.skip ?_; try simp only [Then]) | (refine Tri.exit ?_; simp only [Then, InBlock, if_true, if_false, ↓reduceIte, Nat.reduceEqDiff]) | refine Tri.seq (Tri.block ?_) | refine Tri.block ?_ | refine Tri.seq ?_ | (refine Tri.ret ?_; refine Con.fin (.inl rfl) (by simp only [Tryd.f77, cfgKY2, resA, resA1, go_sem]; rfl) (by simp only [Obs]) (by first | (simp only [kRRt, Con.of, resV, e, go_sem]; done) | fail) trivial rfl rfl))
  case true =>
    refine Tri.at (by first | (simp only [Con.start, go_sem]; rfl) | rfl) ?_
    repeat (first | ((first | refine Tri.seq (Tri.regT (cfgKY2_ok.pins _) ?_) | refine Tri.rgnT (cfgKY2_ok.pins _) ?_); (repeat (first | refine RunT.oneA (hp := by simp (maxSteps := 2000000) (disch := first | decide | omega | (simp only [List.length_append, List.length_cons, List.length_nil, List.length_take, List.length_drop]; omega)) only [q32, a32, go_sem]; rfl) (h := ?_) | refine RunT.notA (h := ?_))); refine RunT.nil ?_; try simp only [InBlock, Then]) | refine Tri.cF (by first | (simp only [go_sem]; done) | fail) ?_ | refine Tri.cT (by first | (simp only [go_sem]; done) | fail) ?_ | (refine Tri.skip ?_; try simp only [Then]) | (refine Tri.exit ?_; simp only [Then, InBlock, if_true, if_false, ↓reduceIte, Nat.reduceEqDiff]) | refine Tri.seq (Tri.block ?_) | refine Tri.block ?_ | refine Tri.seq ?_ | (refine Tri.ret ?_; refine Con.fin (.inl rfl) (by simp only [Tryd.f77, cfgKY2, resA, resA1, go_sem]; rfl) (by simp only [Obs, and_true, true_and]) (by first | (simp only [kRRt, Con.of, Con.ofO, resV, z1, z7, q32, a32, go_sem]; done) | fail) trivial rfl rfl))
    cases a33 : strEq sv []
    case false =>
      have e : (fdR ((7 : Int), cl, sv, no, en, fl, ti, se, co, ())).isSome = false := by
        rw [fd_7]
        rw [Bool.eq_false_iff]; intro h
        first | (rw [a33] at h; simp at h; done) | (simp only [Bool.and_eq_true, Bool.not_eq_true', strEq_nil_len, zero_eq_i, decide_eq_true_eq, decide_eq_false_iff_not] at h; simp only [Bool.not_eq_false', strEq_nil_r, strEq_nil_len, decide_eq_true_eq] at a33; omega)
      refine Tri.at (by first | (simp only [q33, a33, e, Con.start, go_sem]; rfl) | rfl) ?_
      repeat (first | ((first | refine Tri.seq (Tri.regT (cfgKY2_ok.pins _) ?_) | refine Tri.rgnT (cfgKY2_ok.pins _) ?_); (repeat (first | refine RunT.oneA (hp := by simp (maxSteps := 2000000) (disch := first | decide | omega | (simp only [List.length_append, List.length_cons, List.length_nil, List.length_take, List.length_drop]; omega)) only [q33, a33, go_sem]; rfl) (h := ?_) | refine RunT.notA (h := ?_))); refine RunT.nil ?_; try simp only [Then]) | refine Tri.cF (by first | (simp only [go_sem]; done) | fail) ?_ | refine Tri.cT (by first | (simp only [go_sem]; done) | fail) ?_ | (refine Tri.skip ?_; try simp only [InBlock, Then]) | (refine Tri.exit ?_; simp only [Then, InBlock, if_true, if_false, ↓reduceIte, Nat.reduceEqDiff]) | refine Tri.seq (Tri.block ?_) | refine Tri.block ?_ | refine Tri.seq ?_ | (refine Tri.ret ?_; refine Con.fin (.inl rfl) (by simp only [Tryd.f77, cfgKY2, resA, resA1, go_sem]; rfl) (by simp only [Obs]) (by first | (simp only [kRRt, Con.of, resV, e, go_sem]; done) | fail) trivial rfl rfl))
    case true =>
      refine Tri.at (by first | (simp only [q33, a33, Con.start, go_sem]; rfl) | rfl) ?_
      repeat (first | ((first | refine Tri.seq (Tri.regT (cfgKY2_ok.pins _) ?_) | refine Tri.rgnT (cfgKY2_ok.pins _) ?_); (repeat (first | refine RunT.oneA (hp := by simp (maxSteps := 2000000) (disch := first | decide | omega | (simp only [List.length_append, List.length_cons, List.length_nil, List.length_take, List.length_drop]; omega)) only [q33, a33, go_sem]; rfl) (h := ?_) | refine RunT.notA (h := ?_))); refine RunT.nil ?_; try simp only [Then]) | refine Tri.cF (by first | (simp only [go_sem]; done) | fail) ?_ | refine Tri.cT (by first | (simp only [go_sem]; done) | fail) ?_ | (refine Tri.skip ?_; try simp only [Then]) | (refine Tri.exit ?_; simp only [Then, InBlock, if_true, if_false, ↓reduceIte, Nat.reduceEqDiff]) | refine Tri.seq (Tri.block ?_) | refine Tri.block ?_ | refine Tri.seq ?_ | (refine Tri.ret ?_; refine Con.fin (.inl rfl) (by simp only [Tryd.f77, cfgKY2, resA, resA1, go_sem]; rfl) (by simp only [Obs, and_true, true_and]) (by first | (simp only [kRRt, Con.of, Con.ofO, resV, q33, a33, go_sem]; done) | fail) trivial rfl rfl))
      cases b35 : decide (en < 0)
      case true =>
        have e : (fdR ((7 : Int), cl, sv, no, en, fl, ti, se, co, ())).isSome = false := by
          rw [fd_7]
          rw [Bool.eq_false_iff]; intro h
          first | (rw [b35] at h; simp at h; done) | (simp only [Bool.and_eq_true, Bool.not_eq_true', strEq_nil_len, zero_eq_i, decide_eq_true_eq, decide_eq_false_iff_not] at h; simp only [decide_eq_true_eq] at b35; omega)
        refine Tri.at (by first | (simp only [q35, b35, e, Con.start, go_sem]; rfl) | rfl) ?_
        repeat (first | ((first | refine Tri.seq (Tri.regT (cfgKY2_ok.pins _) ?_) | refine Tri.rgnT (cfgKY2_ok.pins _) ?_); (repeat (first | refine RunT.oneA (hp := by simp (maxSteps := 2000000) (disch := first | decide | omega | (simp only [List.length_append, List.length_cons, List.length_nil, List.length_take, List.length_drop]; omega)) only [b35, go_sem]; rfl) (h := ?_) | refine RunT.notA (h := ?_))); refine RunT.nil ?_; try simp only [Then]) | refine Tri.cF (by first | (simp only [go_sem]; done) | fail) ?_ | refine Tri.cT (by first | (simp only [go_sem]; done) | fail) ?_ | (refine Tri.skip ?_; try simp only [InBlock, Then]) | (refine Tri.exit ?_; simp only [Then, InBlock, if_true, if_false, ↓reduceIte, Nat.reduceEqDiff]) | refine Tri.seq (Tri.block ?_) | refine Tri.block ?_ | refine Tri.seq ?_ | (refine Tri.ret ?_; refine Con.fin (.inl rfl) (by simp only [Tryd.f77, cfgKY2, resA, resA1, go_sem]; rfl) (by simp only [Obs]) (by first | (simp only [kRRt, Con.of, resV, e, go_sem]; done) | fail) trivial rfl rfl))
      case false =>
        cases c35 : decide ((1099511627776 : Int) < en)
        case true =>
          have e : (fdR ((7 : Int), cl, sv, no, en, fl, ti, se, co, ())).isSome = false := by
            rw [fd_7]
            rw [Bool.eq_false_iff]; intro h
            first | (rw [c35] at h; simp at h; done) | (simp only [Bool.and_eq_true, Bool.not_eq_true', strEq_nil_len, zero_eq_i, decide_eq_true_eq, decide_eq_false_iff_not] at h; simp only [decide_eq_true_eq] at c35; omega)
          refine Tri.at (by first | (simp only [q35, b35, c35, e, Con.start, go_sem]; rfl) | rfl) ?_
          repeat (first | ((first | refine Tri.seq (Tri.regT (cfgKY2_ok.pins _) ?_) | refine Tri.rgnT (cfgKY2_ok.pins _) ?_); (repeat (first | refine RunT.oneA (hp := by simp (maxSteps := 2000000) (disch := first | decide | omega | (simp only [List.length_append, List.length_cons, List.length_nil, List.length_take, List.length_drop]; omega)) only [b35, c35, go_sem]; rfl) (h := ?_) | refine RunT.notA (h := ?_))); refine RunT.nil ?_; try simp only [Then]) | refine Tri.cF (by first | (simp only [go_sem]; done) | fail) ?_ | refine Tri.cT (by first | (simp only [go_sem]; done) | fail) ?_ | (refine Tri.skip ?_; try simp only [InBlock, Then]) | (refine Tri.exit ?_; simp only [Then, InBlock, if_true, if_false, ↓reduceIte, Nat.reduceEqDiff]) | refine Tri.seq (Tri.block ?_) | refine Tri.block ?_ | refine Tri.seq ?_ | (refine Tri.ret ?_; refine Con.fin (.inl rfl) (by simp only [Tryd.f77, cfgKY2, resA, resA1, go_sem]; rfl) (by simp only [Obs]) (by first | (simp only [kRRt, Con.of, resV, e, go_sem]; done) | fail) trivial rfl rfl))
        case false =>
          cases d35 : decide (en = 0)
          case false =>
            have e : (fdR ((7 : Int), cl, sv, no, en, fl, ti, se, co, ())).isSome = false := by
              rw [fd_7]
              rw [Bool.eq_false_iff]; intro h
              first | (rw [d35] at h; simp at h; done) | (simp only [Bool.and_eq_true, Bool.not_eq_true', strEq_nil_len, zero_eq_i, decide_eq_true_eq, decide_eq_false_iff_not] at h; simp only [decide_eq_false_iff_not] at d35; omega)
            refine Tri.at (by first | (simp only [q35, b35, c35, d35, e, Con.start, go_sem]; rfl) | rfl) ?_
            repeat (first | ((first | refine Tri.seq (Tri.regT (cfgKY2_ok.pins _) ?_) | refine Tri.rgnT (cfgKY2_ok.pins _) ?_); (repeat (first | refine RunT.oneA (hp := by simp (maxSteps := 2000000) (disch := first | decide | omega | (simp only [List.length_append, List.length_cons, List.length_nil, List.length_take, List.length_drop]; omega)) only [q35, b35, c35, d35, go_sem]; rfl) (h := ?_) | refine RunT.notA (h := ?_))); refine RunT.nil ?_; try simp only [Then]) | refine Tri.cF (by first | (simp only [go_sem]; done) | fail) ?_ | refine Tri.cT (by first | (simp only [go_sem]; done) | fail) ?_ | (refine Tri.skip ?_; try simp only [InBlock, Then]) | (refine Tri.exit ?_; simp only [Then, InBlock, if_true, if_false, ↓reduceIte, Nat.reduceEqDiff]) | refine Tri.seq (Tri.block ?_) | refine Tri.block ?_ | refine Tri.seq ?_ | (refine Tri.ret ?_; refine Con.fin (.inl rfl) (by simp only [Tryd.f77, cfgKY2, resA, resA1, go_sem]; rfl) (by simp only [Obs]) (by first | (simp only [kRRt, Con.of, resV, e, go_sem]; done) | fail) trivial rfl rfl))
          case true =>
            refine Tri.at (by first | (simp only [q35, b35, c35, d35, Con.start, go_sem]; rfl) | rfl) ?_
            repeat (first | ((first | refine Tri.seq (Tri.regT (cfgKY2_ok.pins _) ?_) | refine Tri.rgnT (cfgKY2_ok.pins _) ?_); (repeat (first | refine RunT.oneA (hp := by simp (maxSteps := 2000000) (disch := first | decide | omega | (simp only [List.length_append, List.length_cons, List.length_nil, List.length_take, List.length_drop]; omega)) only [q35, b35, c35, d35, go_sem]; rfl) (h := ?_) | refine RunT.notA (h := ?_))); refine RunT.nil ?_; try simp only [Then]) | refine Tri.cF (by first | (simp only [go_sem]; done) | fail) ?_ | refine Tri.cT (by first | (simp only [go_sem]; done) | fail) ?_ | (refine Tri.skip ?_; try simp only [Then]) | (refine Tri.exit ?_; simp only [Then, InBlock, if_true, if_false, ↓reduceIte, Nat.reduceEqDiff]) | refine Tri.seq (Tri.block ?_) | refine Tri.block ?_ | refine Tri.seq ?_ | (refine Tri.ret ?_; refine Con.fin (.inl rfl) (by simp only [Tryd.f77, cfgKY2, resA, resA1, go_sem]; rfl) (by simp only [Obs, and_true, true_and]) (by first | (simp only [kRRt, Con.of, Con.ofO, resV, q35, b35, c35, d35, go_sem]; done) | fail) trivial rfl rfl))
            cases b36 : decide (fl < 0)
            case true =>
              have e : (fdR ((7 : Int), cl, sv, no, en, fl, ti, se, co, ())).isSome = false := by
                rw [fd_7]
                rw [Bool.eq_false_iff]; intro h
                first | (rw [b36] at h; simp at h; done) | (simp only [Bool.and_eq_true, Bool.not_eq_true', strEq_nil_len, zero_eq_i, decide_eq_true_eq, decide_eq_false_iff_not] at h; simp only [decide_eq_true_eq] at b36; omega)
              refine Tri.at (by first | (simp only [q36, b36, e, Con.start, go_sem]; rfl) | rfl) ?_
              repeat (first | ((first | refine Tri.seq (Tri.regT (cfgKY2_ok.pins _) ?_) | refine Tri.rgnT (cfgKY2_ok.pins _) ?_); (repeat (first | refine RunT.oneA (hp := by simp (maxSteps := 2000000) (disch := first | decide | omega | (simp only [List.length_append, List.length_cons, List.length_nil, List.length_take, List.length_drop]; omega)) only [b36, go_sem]; rfl) (h := ?_) | refine RunT.notA (h := ?_))); refine RunT.nil ?_; try simp only [Then]) | refine Tri.cF (by first | (simp only [go_sem]; done) | fail) ?_ | refine Tri.cT (by first | (simp only [go_sem]; done) | fail) ?_ | (refine Tri.skip ?_; try simp only [InBlock, Then]) | (refine Tri.exit ?_; simp only [Then, InBlock, if_true, if_false, ↓reduceIte, Nat.reduceEqDiff]) | refine Tri.seq (Tri.block ?_) | refine Tri.block ?_ | refine Tri.seq ?_ | (refine Tri.ret ?_; refine Con.fin (.inl rfl) (by simp only [Tryd.f77, cfgKY2, resA, resA1, go_sem]; rfl) (by simp only [Obs]) (by first | (simp only [kRRt, Con.of, resV, e, go_sem]; done) | fail) trivial rfl rfl))
            case false =>
              cases c36 : decide ((3 : Int) < fl)
              case true =>
                have e : (fdR ((7 : Int), cl, sv, no, en, fl, ti, se, co, ())).isSome = false := by
                  rw [fd_7]
                  rw [Bool.eq_false_iff]; intro h
                  first | (rw [c36] at h; simp at h; done) | (simp only [Bool.and_eq_true, Bool.not_eq_true', strEq_nil_len, zero_eq_i, decide_eq_true_eq, decide_eq_false_iff_not] at h; simp only [decide_eq_true_eq] at c36; omega)
                refine Tri.at (by first | (simp only [q36, b36, c36, e, Con.start, go_sem]; rfl) | rfl) ?_
                repeat (first | ((first | refine Tri.seq (Tri.regT (cfgKY2_ok.pins _) ?_) | refine Tri.rgnT (cfgKY2_ok.pins _) ?_); (repeat (first | refine RunT.oneA (hp := by simp (maxSteps := 2000000) (disch := first | decide | omega | (simp only [List.length_append, List.length_cons, List.length_nil, List.length_take, List.length_drop]; omega)) only [b36, c36, go_sem]; rfl) (h := ?_) | refine RunT.notA (h := ?_))); refine RunT.nil ?_; try simp only [Then]) | refine Tri.cF (by first | (simp only [go_sem]; done) | fail) ?_ | refine Tri.cT (by first | (simp only [go_sem]; done) | fail) ?_ | (refine Tri.skip ?_; try simp only [InBlock, Then]) | (refine Tri.exit ?_; simp only [Then, InBlock, if_true, if_false, ↓reduceIte, Nat.reduceEqDiff]) | refine Tri.seq (Tri.block ?_) | refine Tri.block ?_ | refine Tri.seq ?_ | (refine Tri.ret ?_; refine Con.fin (.inl rfl) (by simp only [Tryd.f77, cfgKY2, resA, resA1, go_sem]; rfl) (by simp only [Obs]) (by first | (simp only [kRRt, Con.of, resV, e, go_sem]; done) | fail) trivial rfl rfl))
              case false =>
                cases d36 : decide (fl = 0)
                case false =>
                  have e : (fdR ((7 : Int), cl, sv, no, en, fl, ti, se, co, ())).isSome = false := by
                    rw [fd_7]
                    rw [Bool.eq_false_iff]; intro h
                    first | (rw [d36] at h; simp at h; done) | (simp only [Bool.and_eq_true, Bool.not_eq_true', strEq_nil_len, zero_eq_i, decide_eq_true_eq, decide_eq_false_iff_not] at h; simp only [decide_eq_false_iff_not] at d36; omega)
                  refine Tri.at (by first | (simp only [q36, b36, c36, d36, e, Con.start, go_sem]; rfl) | rfl) ?_
                  repeat (first | ((first | refine Tri.seq (Tri.regT (cfgKY2_ok.pins _) ?_) | refine Tri.rgnT (cfgKY2_ok.pins _) ?_); (repeat (first | refine RunT.oneA (hp := by simp (maxSteps := 2000000) (disch := first | decide | omega | (simp only [List.length_append, List.length_cons, List.length_nil, List.length_take, List.length_drop]; omega)) only [q36, b36, c36, d36, go_sem]; rfl) (h := ?_) | refine RunT.notA (h := ?_))); refine RunT.nil ?_; try simp only [Then]) | refine Tri.cF (by first | (simp only [go_sem]; done) | fail) ?_ | refine Tri.cT (by first | (simp only [go_sem]; done) | fail) ?_ | (refine Tri.skip ?_; try simp only [InBlock, Then]) | (refine Tri.exit ?_; simp only [Then, InBlock, if_true, if_false, ↓reduceIte, Nat.reduceEqDiff]) | refine Tri.seq (Tri.block ?_) | refine Tri.block ?_ | refine Tri.seq ?_ | (refine Tri.ret ?_; refine Con.fin (.inl rfl) (by simp only [Tryd.f77, cfgKY2, resA, resA1, go_sem]; rfl) (by simp only [Obs]) (by first | (simp only [kRRt, Con.of, resV, e, go_sem]; done) | fail) trivial rfl rfl))
                case true =>
                  refine Tri.at (by first | (simp only [q36, b36, c36, d36, Con.start, go_sem]; rfl) | rfl) ?_
                  repeat (first | ((first | refine Tri.seq (Tri.regT (cfgKY2_ok.pins _) ?_) | refine Tri.rgnT (cfgKY2_ok.pins _) ?_); (repeat (first | refine RunT.oneA (hp := by simp (maxSteps := 2000000) (disch := first | decide | omega | (simp only [List.length_append, List.length_cons, List.length_nil, List.length_take, List.length_drop]; omega)) only [q36, b36, c36, d36, go_sem]; rfl) (h := ?_) | refine RunT.notA (h := ?_))); refine RunT.nil ?_; try simp only [Then]) | refine Tri.cF (by first | (simp only [go_sem]; done) | fail) ?_ | refine Tri.cT (by first | (simp only [go_sem]; done) | fail) ?_ | (refine Tri.skip ?_; try simp only [Then]) | (refine Tri.exit ?_; simp only [Then, InBlock, if_true, if_false, ↓reduceIte, Nat.reduceEqDiff]) | refine Tri.seq (Tri.block ?_) | refine Tri.block ?_ | refine Tri.seq ?_ | (refine Tri.ret ?_; refine Con.fin (.inl rfl) (by simp only [Tryd.f77, cfgKY2, resA, resA1, go_sem]; rfl) (by simp only [Obs, and_true, true_and]) (by first | (simp only [kRRt, Con.of, Con.ofO, resV, q36, b36, c36, d36, go_sem]; done) | fail) trivial rfl rfl))
                  cases b37 : decide ((3000 : Int) < ((ti.length : Nat) : Int))
                  case true =>
                    have e : (fdR ((7 : Int), cl, sv, no, en, fl, ti, se, co, ())).isSome = false := by
                      rw [fd_7]
                      rw [Bool.eq_false_iff]; intro h
                      first | (rw [b37] at h; simp at h; done) | (simp only [Bool.and_eq_true, Bool.not_eq_true', strEq_nil_len, zero_eq_i, decide_eq_true_eq, decide_eq_false_iff_not] at h; simp only [decide_eq_true_eq] at b37; omega)
                    refine Tri.at (by first | (simp only [q37, q38, b37, e, Con.start, go_sem]; rfl) | rfl) ?_
                    repeat (first | ((first | refine Tri.seq (Tri.regT (cfgKY2_ok.pins _) ?_) | refine Tri.rgnT (cfgKY2_ok.pins _) ?_); (repeat (first | refine RunT.oneA (hp := by simp (maxSteps := 2000000) (disch := first | decide | omega | (simp only [List.length_append, List.length_cons, List.length_nil, List.length_take, List.length_drop]; omega)) only [b37, go_sem]; rfl) (h := ?_) | refine RunT.notA (h := ?_))); refine RunT.nil ?_; try simp only [Then]) | refine Tri.cF (by first | (simp only [go_sem]; done) | fail) ?_ | refine Tri.cT (by first | (simp only [go_sem]; done) | fail) ?_ | (refine Tri.skip ?_; try simp only [InBlock, Then]) | (refine Tri.exit ?_; simp only [Then, InBlock, if_true, if_false, ↓reduceIte, Nat.reduceEqDiff]) | refine Tri.seq (Tri.block ?_) | refine Tri.block ?_ | refine Tri.seq ?_ | (refine Tri.ret ?_; refine Con.fin (.inl rfl) (by simp only [Tryd.f77, cfgKY2, resA, resA1, go_sem]; rfl) (by simp only [Obs]) (by first | (simp only [kRRt, Con.of, resV, e, go_sem]; done) | fail) trivial rfl rfl))
                  case false =>
                    cases c37 : decide ((0 : Int) < ((ti.length : Nat) : Int))
                    case true =>
                      have e : (fdR ((7 : Int), cl, sv, no, en, fl, ti, se, co, ())).isSome = false := by
                        rw [fd_7]
                        rw [Bool.eq_false_iff]; intro h
                        first | (rw [c37] at h; simp at h; done) | (simp only [Bool.and_eq_true, Bool.not_eq_true', strEq_nil_len, zero_eq_i, decide_eq_true_eq, decide_eq_false_iff_not] at h; simp only [decide_eq_true_eq] at c37; omega)
                      refine Tri.at (by first | (simp only [q37, q38, b37, c37, e, Con.start, go_sem]; rfl) | rfl) ?_
                      repeat (first | ((first | refine Tri.seq (Tri.regT (cfgKY2_ok.pins _) ?_) | refine Tri.rgnT (cfgKY2_ok.pins _) ?_); (repeat (first | refine RunT.oneA (hp := by simp (maxSteps := 2000000) (disch := first | decide | omega | (simp only [List.length_append, List.length_cons, List.length_nil, List.length_take, List.length_drop]; omega)) only [q37, b37, c37, go_sem]; rfl) (h := ?_) | refine RunT.notA (h := ?_))); refine RunT.nil ?_; try simp only [Then]) | refine Tri.cF (by first | (simp only [go_sem]; done) | fail) ?_ | refine Tri.cT (by first | (simp only [go_sem]; done) | fail) ?_ | (refine Tri.skip ?_; try simp only [InBlock, Then]) | (refine Tri.exit ?_; simp only [Then, InBlock, if_true, if_false, ↓reduceIte, Nat.reduceEqDiff]) | refine Tri.seq (Tri.block ?_) | refine Tri.block ?_ | refine Tri.seq ?_ | (refine Tri.ret ?_; refine Con.fin (.inl rfl) (by simp only [Tryd.f77, cfgKY2, resA, resA1, go_sem]; rfl) (by simp only [Obs]) (by first | (simp only [kRRt, Con.of, resV, e, go_sem]; done) | fail) trivial rfl rfl))
                    case false =>
                      cases b38 : decide ((3000 : Int) < ((se.length : Nat) : Int))
                      case true =>
                        have e : (fdR ((7 : Int), cl, sv, no, en, fl, ti, se, co, ())).isSome = false := by
                          rw [fd_7]
                          rw [Bool.eq_false_iff]; intro h
                          first | (rw [b38] at h; simp at h; done) | (simp only [Bool.and_eq_true, Bool.not_eq_true', strEq_nil_len, zero_eq_i, decide_eq_true_eq, decide_eq_false_iff_not] at h; simp only [decide_eq_true_eq] at b38; omega)
                        refine Tri.at (by first | (simp only [q37, q38, b37, c37, b38, e, Con.start, go_sem]; rfl) | rfl) ?_
                        repeat (first | ((first | refine Tri.seq (Tri.regT (cfgKY2_ok.pins _) ?_) | refine Tri.rgnT (cfgKY2_ok.pins _) ?_); (repeat (first | refine RunT.oneA (hp := by simp (maxSteps := 2000000) (disch := first | decide | omega | (simp only [List.length_append, List.length_cons, List.length_nil, List.length_take, List.length_drop]; omega)) only [q37, b37, c37, b38, go_sem]; rfl) (h := ?_) | refine RunT.notA (h := ?_))); refine RunT.nil ?_; try simp only [Then]) | refine Tri.cF (by first | (simp only [go_sem]; done) | fail) ?_ | refine Tri.cT (by first | (simp only [go_sem]; done) | fail) ?_ | (refine Tri.skip ?_; try simp only [InBlock, Then]) | (refine Tri.exit ?_; simp only [Then, InBlock, if_true, if_false, ↓reduceIte, Nat.reduceEqDiff]) | refine Tri.seq (Tri.block ?_) | refine Tri.block ?_ | refine Tri.seq ?_ | (refine Tri.ret ?_; refine Con.fin (.inl rfl) (by simp only [Tryd.f77, cfgKY2, resA, resA1, go_sem]; rfl) (by simp only [Obs]) (by first | (simp only [kRRt, Con.of, resV, e, go_sem]; done) | fail) trivial rfl rfl))
                      case false =>
                        cases c38 : decide ((0 : Int) < ((se.length : Nat) : Int))
                        case true =>
                          have e : (fdR ((7 : Int), cl, sv, no, en, fl, ti, se, co, ())).isSome = false := by
                            rw [fd_7]
                            rw [Bool.eq_false_iff]; intro h
                            first | (rw [c38] at h; simp at h; done) | (simp only [Bool.and_eq_true, Bool.not_eq_true', strEq_nil_len, zero_eq_i, decide_eq_true_eq, decide_eq_false_iff_not] at h; simp only [decide_eq_true_eq] at c38; omega)
                          refine Tri.at (by first | (simp only [q37, q38, b37, c37, b38, c38, e, Con.start, go_sem]; rfl) | rfl) ?_
                          repeat (first | ((first | refine Tri.seq (Tri.regT (cfgKY2_ok.pins _) ?_) | refine Tri.rgnT (cfgKY2_ok.pins _) ?_); (repeat (first | refine RunT.oneA (hp := by simp (maxSteps := 2000000) (disch := first | decide | omega | (simp only [List.length_append, List.length_cons, List.length_nil, List.length_take, List.length_drop]; omega)) only [q37, q38, b37, c37, b38, c38, go_sem]; rfl) (h := ?_) | refine RunT.notA (h := ?_))); refine RunT.nil ?_; try simp only [Then]) | refine Tri.cF (by first | (simp only [go_sem]; done) | fail) ?_ | refine Tri.cT (by first | (simp only [go_sem]; done) | fail) ?_ | (refine Tri.skip ?_; try simp only [InBlock, Then]) | (refine Tri.exit ?_; simp only [Then, InBlock, if_true, if_false, ↓reduceIte, Nat.reduceEqDiff]) | refine Tri.seq (Tri.block ?_) | refine Tri.block ?_ | refine Tri.seq ?_ | (refine Tri.ret ?_; refine Con.fin (.inl rfl) (by simp only [Tryd.f77, cfgKY2, resA, resA1, go_sem]; rfl) (by simp only [Obs]) (by first | (simp only [kRRt, Con.of, resV, e, go_sem]; done) | fail) trivial rfl rfl))
                        case false =>
                          refine Tri.at (by first | (simp only [q37, q38, b37, c37, b38, c38, Con.start, go_sem]; rfl) | rfl) ?_
                          repeat (first | ((first | refine Tri.seq (Tri.regT (cfgKY2_ok.pins _) ?_) | refine Tri.rgnT (cfgKY2_ok.pins _) ?_); (repeat (first | refine RunT.oneA (hp := by simp (maxSteps := 2000000) (disch := first | decide | omega | (simp only [List.length_append, List.length_cons, List.length_nil, List.length_take, List.length_drop]; omega)) only [q37, q38, b37, c37, b38, c38, go_sem]; rfl) (h := ?_) | refine RunT.notA (h := ?_))); refine RunT.nil ?_; try simp only [Then]) | refine Tri.cF (by first | (simp only [go_sem]; done) | fail) ?_ | refine Tri.cT (by first | (simp only [go_sem]; done) | fail) ?_ | (refine Tri.skip ?_; try simp only [Then]) | (refine Tri.exit ?_; simp only [Then, InBlock, if_true, if_false, ↓reduceIte, Nat.reduceEqDiff]) | refine Tri.seq (Tri.block ?_) | refine Tri.block ?_ | refine Tri.seq ?_ | (refine Tri.ret ?_; refine Con.fin (.inl rfl) (by simp only [Tryd.f77, cfgKY2, resA, resA1, go_sem]; rfl) (by simp only [Obs, and_true, true_and]) (by first | (simp only [kRRt, Con.of, Con.ofO, resV, q37, q38, b37, c37, b38, c38, go_sem]; done) | fail) trivial rfl rfl))
                          cases b39 : decide (co < 1)
                          case true =>
                            have e : (fdR ((7 : Int), cl, sv, no, en, fl, ti, se, co, ())).isSome = false := by
                              rw [fd_7]
                              rw [Bool.eq_false_iff]; intro h
                              first | (rw [b39] at h; simp at h; done) | (simp only [Bool.and_eq_true, Bool.not_eq_true', Bool.not_eq_false', strEq_nil_r, strEq_nil_len, zero_eq_i, decide_eq_true_eq, decide_eq_false_iff_not] at h; simp only [Bool.and_eq_true, Bool.not_eq_true', Bool.not_eq_false', strEq_nil_r, strEq_nil_len, zero_eq_i, decide_eq_true_eq, decide_eq_false_iff_not] at b39; omega)
                            refine Tri.at (by first | (simp only [q39, go_sem]; rfl) | rfl) ?_
                            repeat (first | ((first | refine Tri.seq (Tri.regT (cfgKY2_ok.pins _) ?_) | refine Tri.rgnT (cfgKY2_ok.pins _) ?_); (repeat (first | refine RunT.oneA (hp := by simp (maxSteps := 2000000) (disch := first | decide | omega | (simp only [List.length_append, List.length_cons, List.length_nil, List.length_take, List.length_drop]; omega)) only [b39, go_sem]; rfl) (h := ?_) | refine RunT.notA (h := ?_))); refine RunT.nil ?_; try simp only [InBlock, Then]) | refine Tri.cF (by first | (simp only [go_sem]; done) | fail) ?_ | refine Tri.cT (by first | (simp only [go_sem]; done) | fail) ?_ | (refine Tri.skip ?_; try simp only [InBlock, Then]) | (refine Tri.exit ?_; simp only [Then, InBlock, if_true, if_false, ↓reduceIte, Nat.reduceEqDiff]) | refine Tri.seq (Tri.block ?_) | refine Tri.block ?_ | refine Tri.seq ?_ | (refine Tri.ret ?_; refine Con.fin (.inl rfl) (by simp only [Tryd.f77, cfgKY2, resA, resA1, go_sem]; rfl) (by simp only [Obs]) (by first | (simp only [kRRt, Con.of, resV, e, go_sem]; done) | fail) trivial rfl rfl))
                          case false =>
                            cases c39 : decide ((999 : Int) < co)
                            case false =>
                              have e : (fdR ((7 : Int), cl, sv, no, en, fl, ti, se, co, ())).isSome = true := by
                                rw [fd_7]
                                simp only [Bool.and_eq_true, Bool.not_eq_true', strEq_nil_r, strEq_nil_len, zero_eq_i, decide_eq_true_eq, decide_eq_false_iff_not] at a32 a33 b35 c35 d35 b36 c36 d36 b37 c37 b38 c38 b39 c39 ⊢
                                repeat' apply And.intro
                                all_goals first | assumption | omega
                              refine Tri.at (by first | (simp only [q39, go_sem]; rfl) | rfl) ?_
                              repeat (first | ((first | refine Tri.seq (Tri.regT (cfgKY2_ok.pins _) ?_) | refine Tri.rgnT (cfgKY2_ok.pins _) ?_); (repeat (first | refine RunT.oneA (hp := by simp (maxSteps := 2000000) (disch := first | decide | omega | (simp only [List.length_append, List.length_cons, List.length_nil, List.length_take, List.length_drop]; omega)) only [b39, c39, go_sem]; rfl) (h := ?_) | refine RunT.notA (h := ?_))); refine RunT.nil ?_; try simp only [InBlock, Then]) | refine Tri.cF (by first | (simp only [go_sem]; done) | fail) ?_ | refine Tri.cT (by first | (simp only [go_sem]; done) | fail) ?_ | (refine Tri.skip ?_; try simp only [InBlock, Then]) | (refine Tri.exit ?_; simp only [Then, InBlock, if_true, if_false, ↓reduceIte, Nat.reduceEqDiff]) | refine Tri.seq (Tri.block ?_) | refine Tri.block ?_ | refine Tri.seq ?_ | (refine Tri.ret ?_; refine Con.fin (.inl rfl) (by simp only [Tryd.f77, cfgKY2, resA, resA1, go_sem]; rfl) (by simp only [Obs]) (by first | (simp only [kRRt, Con.of, resV, e, go_sem]; done) | fail) trivial rfl rfl))
                            case true =>
                              have e : (fdR ((7 : Int), cl, sv, no, en, fl, ti, se, co, ())).isSome = false := by
                                rw [fd_7]
                                rw [Bool.eq_false_iff]; intro h
                                first | (rw [c39] at h; simp at h; done) | (simp only [Bool.and_eq_true, Bool.not_eq_true', Bool.not_eq_false', strEq_nil_r, strEq_nil_len, zero_eq_i, decide_eq_true_eq, decide_eq_false_iff_not] at h; simp only [Bool.and_eq_true, Bool.not_eq_true', Bool.not_eq_false', strEq_nil_r, strEq_nil_len, zero_eq_i, decide_eq_true_eq, decide_eq_false_iff_not] at c39; omega)
                              refine Tri.at (by first | (simp only [q39, go_sem]; rfl) | rfl) ?_
                              repeat (first | ((first | refine Tri.seq (Tri.regT (cfgKY2_ok.pins _) ?_) | refine Tri.rgnT (cfgKY2_ok.pins _) ?_); (repeat (first | refine RunT.oneA (hp := by simp (maxSteps := 2000000) (disch := first | decide | omega | (simp only [List.length_append, List.length_cons, List.length_nil, List.length_take, List.length_drop]; omega)) only [b39, c39, go_sem]; rfl) (h := ?_) | refine RunT.notA (h := ?_))); refine RunT.nil ?_; try simp only [InBlock, Then]) | refine Tri.cF (by first | (simp only [go_sem]; done) | fail) ?_ | refine Tri.cT (by first | (simp only [go_sem]; done) | fail) ?_ | (refine Tri.skip ?_; try simp only [InBlock, Then]) | (refine Tri.exit ?_; simp only [Then, InBlock, if_true, if_false, ↓reduceIte, Nat.reduceEqDiff]) | refine Tri.seq (Tri.block ?_) | refine Tri.block ?_ | refine Tri.seq ?_ | (refine Tri.ret ?_; refine Con.fin (.inl rfl) (by simp only [Tryd.f77, cfgKY2, resA, resA1, go_sem]; rfl) (by simp only [Obs]) (by first | (simp only [kRRt, Con.of, resV, e, go_sem]; done) | fail) trivial rfl rfl))
end
end Go.Proofs.YtjdeaphfamenaaaDoor

namespace Go.Proofs.YtjdeaphfamenaaaDoor
open Go.Vc Go.Proofs
set_option maxRecDepth 10000
set_option maxHeartbeats 4000000
section
attribute [local go_sem] Tryd.f77 kRRt kHs kRNmd cfgKY2 tyTabM tyTabK tyTab
theorem rrt_body (p : kRRt.Par) (hp : ∀ q ∈ kRRt.pre p, q) : BodyOK Tryd.prog cfgKY2 Tryd.f77 (Tryd.f77.body.get rfl) kRRt p := by
  by_cases k1 : (p.1.1 : Int) = 1
  · exact rrt_1 p hp k1
  by_cases k2 : (p.1.1 : Int) = 2
  · exact rrt_2 p hp k2
  by_cases k3 : (p.1.1 : Int) = 3
  · exact rrt_3 p hp k3
  by_cases k4 : (p.1.1 : Int) = 4
  · exact rrt_4 p hp k4
  by_cases k5 : (p.1.1 : Int) = 5
  · exact rrt_5 p hp k5
  by_cases k6 : (p.1.1 : Int) = 6
  · exact rrt_6 p hp k6
  by_cases k7 : (p.1.1 : Int) = 7
  · exact rrt_7 p hp k7
  obtain ⟨⟨(kd : Int), (cl : List UInt8), (sv : List UInt8), (no : UInt64), (en : Int), (fl : Int), (ti : List UInt8), (se : List UInt8), (co : Int), u1⟩, u⟩ := p
  replace k1 : ¬ kd = 1 := k1
  replace k2 : ¬ kd = 2 := k2
  replace k3 : ¬ kd = 3 := k3
  replace k4 : ¬ kd = 4 := k4
  replace k5 : ¬ kd = 5 := k5
  replace k6 : ¬ kd = 6 := k6
  replace k7 : ¬ kd = 7 := k7
  refine ⟨?_, Nat.zero_le _, rfl, rfl⟩
  show Tri _ _ _ (Code.seq _ (Code.seq _ (Code.seq (Code.seq _ (Code.cond _ (Code.seq _ _) _)) (Code.seq (Code.seq _ (Code.cond _ (Code.seq _ _) _)) (Code.seq (Code.seq _ (Code.cond _ (Code.seq _ _) _)) (Code.seq (Code.seq _ (Code.cond _ (Code.seq _ _) _)) (Code.seq (Code.seq _ (Code.cond _ (Code.seq _ _) _)) (Code.seq (Code.seq _ (Code.cond _ (Code.seq _ _) _)) (Code.seq (Code.seq _ (Code.cond _ (Code.seq _ _) _)) (Code.seq _ _)))))))))) _
  have e : (fdR (kd, cl, sv, no, en, fl, ti, se, co, u1)).isSome = false := by
    cases h : fdR (kd, cl, sv, no, en, fl, ti, se, co, u1) with
    | none => rfl
    | some fs =>
      have := kd_one h
      have h2 : 1 ≤ kd ∧ kd ≤ 7 := this
      omega
  by_cases h1 : kd < 1
  · have h1' : decide (kd < 1) = true := decide_eq_true h1
    refine Tri.at (by first | (simp only [h1', e, Con.start, go_sem]; rfl) | rfl) ?_
    repeat (first | ((first | refine Tri.seq (Tri.regT (cfgKY2_ok.pins _) ?_) | refine Tri.rgnT (cfgKY2_ok.pins _) ?_); (repeat (first | refine RunT.oneA (hp := by simp (maxSteps := 2000000) (disch := first | decide | omega | (simp only [List.length_append, List.length_cons, List.length_nil, List.length_take, List.length_drop]; omega)) only [h1', e, go_sem]; rfl) (h := ?_) | refine RunT.notA (h := ?_))); refine RunT.nil ?_; try simp only [InBlock, Then]) | refine Tri.cF (by first | (simp only [h1', e, go_sem]; done) | fail) ?_ | refine Tri.cT (by first | (simp only [h1', e, go_sem]; done) | fail) ?_ | (refine Tri.skip ?_; try simp only [InBlock, Then]) | (refine Tri.exit ?_; simp only [Then, InBlock, if_true, if_false, ↓reduceIte, Nat.reduceEqDiff]) | refine Tri.seq (Tri.block ?_) | refine Tri.block ?_ | refine Tri.seq ?_ | (refine Tri.ret ?_; refine Con.fin (.inl rfl) (by simp only [Tryd.f77, cfgKY2, resA, resA1, go_sem]; rfl) (by simp only [Obs, and_true, true_and]) (by first | (simp only [kRRt, Con.of, Con.ofO, resV, h1', e, go_sem]; done) | fail) trivial rfl rfl))
  · have h1' : decide (kd < 1) = false := decide_eq_false h1
    have h7' : decide ((7 : Int) < kd) = true := decide_eq_true (by omega)
    refine Tri.at (by first | (simp only [h1', h7', e, Con.start, go_sem]; rfl) | rfl) ?_
    repeat (first | ((first | refine Tri.seq (Tri.regT (cfgKY2_ok.pins _) ?_) | refine Tri.rgnT (cfgKY2_ok.pins _) ?_); (repeat (first | refine RunT.oneA (hp := by simp (maxSteps := 2000000) (disch := first | decide | omega | (simp only [List.length_append, List.length_cons, List.length_nil, List.length_take, List.length_drop]; omega)) only [h1', h7', e, go_sem]; rfl) (h := ?_) | refine RunT.notA (h := ?_))); refine RunT.nil ?_; try simp only [InBlock, Then]) | refine Tri.cF (by first | (simp only [h1', h7', e, go_sem]; done) | fail) ?_ | refine Tri.cT (by first | (simp only [h1', h7', e, go_sem]; done) | fail) ?_ | (refine Tri.skip ?_; try simp only [InBlock, Then]) | (refine Tri.exit ?_; simp only [Then, InBlock, if_true, if_false, ↓reduceIte, Nat.reduceEqDiff]) | refine Tri.seq (Tri.block ?_) | refine Tri.block ?_ | refine Tri.seq ?_ | (refine Tri.ret ?_; refine Con.fin (.inl rfl) (by simp only [Tryd.f77, cfgKY2, resA, resA1, go_sem]; rfl) (by simp only [Obs, and_true, true_and]) (by first | (simp only [kRRt, Con.of, Con.ofO, resV, h1', h7', e, go_sem]; done) | fail) trivial rfl rfl))
theorem rrt_sum : FSumOK Tryd.prog cfgKY2.G 77 kRRt.sum := Con.sumOK cfgKY2_ok kRRt Tryd.func77 rfl rfl (Con.of_inv _ _ _) rrt_body
end
end Go.Proofs.YtjdeaphfamenaaaDoor
