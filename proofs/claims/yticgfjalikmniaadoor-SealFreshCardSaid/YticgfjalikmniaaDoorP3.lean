/- Part of a proof: Keys that are drawn by symbols are all unlike -/
import Derived.Test.YticgfjalikmniaaDoorP2
import Derived.Test.YticgfjalikmniaaDoorP1
import Derived.Test.YticgfjalikmniaaDoorVc4
import Derived.Test.YticgfjalikmniaaDoorVc3
import Derived.Shelf.Bytes.SlClone
set_option linter.unusedVariables false
set_option linter.unusedSimpArgs false
set_option linter.unusedSectionVars false
namespace Go.Proofs.YticgfjalikmniaaDoor
open Go.Vc Go.Proofs
set_option maxRecDepth 10000
set_option maxHeartbeats 4000000
def cpI (z s : List UInt8) : Nat → List UInt8
  | 0 => z
  | i + 1 => (cpI z s i).set i (s.getD i 0)
theorem cpI_eq (z s : List UInt8) : ∀ i, i ≤ s.length → i ≤ z.length → cpI z s i = s.take i ++ z.drop i
  | 0, _, _ => rfl
  | i + 1, h1, h2 => by
    have hh := cpI_eq z s i (by omega) (by omega)
    have hl : (s.take i).length = i := by rw [List.length_take]; omega
    have hi : i < s.length := h1
    have hz : i < z.length := h2
    rw [cpI, hh, List.set_append_right _ _ (by omega), hl, Nat.sub_self, List.drop_eq_getElem_cons hz, List.set_cons_zero, List.take_add_one, List.getD_eq_getElem?_getD, List.getElem?_eq_getElem hi]
    simp only [Option.getD_some, Option.toList_some, List.append_assoc, List.cons_append, List.nil_append]
theorem cpI_pad {s : List UInt8} (h : s.length ≤ 64) {n : Nat} (hn : n = s.length) : cpI (List.replicate 64 0) s n = padK s := by
  subst hn
  rw [cpI_eq _ _ _ (Nat.le_refl _) (by rw [List.length_replicate]; exact h), List.take_length, List.drop_replicate]
  rfl
def mpI (K : List UInt8) (m : UInt8) : Nat → List UInt8
  | 0 => []
  | i + 1 => mpI K m i ++ [K.getD i 0 ^^^ m]
theorem mpI_eq (K : List UInt8) (m : UInt8) : ∀ i, i ≤ K.length → mpI K m i = (K.take i).map (· ^^^ m)
  | 0, _ => rfl
  | i + 1, h => by
    have hi : i < K.length := h
    rw [mpI, mpI_eq K m i (by omega), List.take_add_one, List.getD_eq_getElem?_getD, List.getElem?_eq_getElem hi]
    simp only [List.map_append, Option.getD_some, Option.toList_some, List.map_cons, List.map_nil]
theorem mpI_len (K : List UInt8) (m : UInt8) : ∀ i, (mpI K m i).length = i
  | 0 => rfl
  | i + 1 => by rw [mpI, List.length_append, mpI_len K m i]; rfl
theorem mpI_xK {s : List UInt8} (h : s.length ≤ 64) (m : UInt8) : mpI (padK s) m 64 = xK s m := by
  have := padK_len h
  rw [mpI_eq _ _ _ (by omega), List.take_of_length_le (by omega)]
  rfl
def kMacR : Con := Con.of [.v (.slice false (.int .u8)), .v (.slice false (.int .u8))] (fun x => [List.length (α := UInt8) x.1 ≤ 800000, List.length (α := UInt8) x.2.1 ≤ 800000]) (fun x => ⟨.pure h32 (macS x.1 x.2.1), []⟩)
def cfgF1 : Cfg2 := { ty := tyTab, fn := fun | 19 => some kSumR.sum | _ => none, G := shaG, pin := [], eq := fun _ => none }
theorem cfgF1_ok : CfgOK Tryd.prog cfgF1 := ⟨tysOK, (fun f s h => by
  simp only [cfgF1] at h
  split at h
  · injection h with h; subst h; exact .inl sumR_sum
  · cases h), (fun t d h => by cases h)⟩
section
attribute [local go_sem] Tryd.f25 kMacR kSumR cfgF1 tyTab
theorem macR_body (p : kMacR.Par) (hp : ∀ q ∈ kMacR.pre p, q) : BodyOK Tryd.prog cfgF1 Tryd.f25 (Tryd.f25.body.get rfl) kMacR p := by
  obtain ⟨(s : List UInt8), (d : List UInt8), u⟩ := p
  obtain ⟨h0, h1, _⟩ := Obs.of hp
  replace h0 : s.length ≤ 800000 := h0
  replace h1 : d.length ≤ 800000 := h1
  refine ⟨?_, Nat.zero_le _, rfl, rfl⟩
  show Tri _ _ _ (Code.seq _ (Code.seq _ (Code.seq (Code.seq _ (Code.cond _ (Code.seq _ (Code.seq _ (Code.block _ (Code.loop (Code.seq (Code.seq _ (Code.cond _ _ _)) (Code.seq (Code.block _ _) _)))))) (Code.seq _ (Code.block _ (Code.loop (Code.seq (Code.seq _ (Code.cond _ _ _)) (Code.seq (Code.block _ _) _))))))) (Code.seq _ (Code.seq (Code.seq _ (Code.block _ (Code.loop (Code.seq (Code.seq _ (Code.cond _ _ _)) (Code.seq (Code.block _ (Code.seq _ _)) _))))) (Code.seq _ (Code.seq _ _))))))) _
  obtain ⟨Z, hZ⟩ : ∃ Z : List UInt8, Z = Kd.dflt h32 := ⟨_, rfl⟩
  refine Tri.at (by first | (simp only [List.take_of_length_le, Con.start, go_sem]; rfl) | rfl) ?_
  refine Tri.seq (Tri.regT (cfgF1_ok.pins _) ?_)
  repeat (first | refine RunT.oneA (hp := by simp (maxSteps := 2000000) (disch := first | decide | omega | (simp only [List.length_append, List.length_cons, List.length_nil, List.length_take, List.length_drop]; omega)) only [List.take_of_length_le, go_sem]; rfl) (h := ?_) | refine RunT.notA (h := ?_))
  refine RunT.nil ?_
  refine Tri.seq (Tri.regT (cfgF1_ok.pins _) ?_)
  repeat (first | refine RunT.oneA (hp := by simp (maxSteps := 2000000) (disch := first | decide | omega | (simp only [List.length_append, List.length_cons, List.length_nil, List.length_take, List.length_drop]; omega)) only [List.take_of_length_le, go_sem]; rfl) (h := ?_) | refine RunT.notA (h := ?_))
  refine RunT.nil ?_
  refine Tri.seqWk (fun k : List UInt8 => (⟨[none, some (.pure (.slice false (.int .u8)) d), none, none, some (.ptr 0 [] 0), some (.tsl 1 [] 0 0 1 64)] ++ List.replicate 66 none, [.live (.pure h32 Z), .live (.pure (.arr 64 (.int .u8)) k)]⟩ : AS)) (fun k => k = padK (keyM s)) ?_ ?_
  · by_cases hl : 64 < s.length
    · have hl' : decide ((64 : Int) < (s.length : Int)) = true := decide_eq_true (by omega)
      have hk : keyM s = dig s := if_pos hl
      have hdl := dig_len s
      generalize hD : dig s = D at hk hdl
      repeat (first | ((first | refine Tri.seq (Tri.regT (cfgF1_ok.pins _) ?_) | refine Tri.rgnT (cfgF1_ok.pins _) ?_); (repeat (first | refine RunT.oneA (hp := by simp (maxSteps := 2000000) (disch := first | decide | omega | (simp only [List.length_append, List.length_cons, List.length_nil, List.length_take, List.length_drop]; omega)) only [hl', hD, hdl, go_sem]; rfl) (h := ?_) | refine RunT.notA (h := ?_))); refine RunT.nil ?_; try simp only [InBlock, Then]) | refine Tri.cF (by first | (simp only [hl', hD, hdl, go_sem]; done) | fail) ?_ | refine Tri.cT (by first | (simp only [hl', hD, hdl, go_sem]; done) | fail) ?_ | (refine Tri.skip ?_; try simp only [InBlock, Then]) | (refine Tri.exit ?_; simp only [Then, InBlock, if_true, if_false, ↓reduceIte, Nat.reduceEqDiff]) | refine Tri.seq (Tri.block ?_) | refine Tri.block ?_ | refine Tri.seq ?_ | (refine Tri.ret ?_; refine Con.fin (.inl rfl) (by simp only [Tryd.f25, cfgF1, resA, resA1, go_sem]; rfl) (by simp only [Obs, and_true, true_and]) (by first | (simp only [kMacR, Con.of, Con.ofO, resV, hl', hD, hdl, go_sem]; done) | fail) trivial rfl rfl))
      refine Tri.loop (fun i : Nat => (⟨[none, some (.pure (.slice false (.int .u8)) d), none, none, some (.ptr 0 [] 0), some (.tsl 1 [] 0 0 1 64), some (.ptr 2 [] 0), some (.int .i64 (i : Int))] ++ List.replicate 64 none, [.live (.pure h32 Z), .live (.pure (.arr 64 (.int .u8)) (cpI (List.replicate 64 0) D i)), .live (.pure h32 D)]⟩ : AS)) (fun i => i ≤ 32) (fun i => 32 - i) 0 ?_ (Nat.zero_le _) ?_
      · refine Wk.of ?_ ?_ rfl rfl
        · simp only [lessTs, List.reduceReplicate, List.cons_append, List.nil_append] <;> ((repeat' apply And.intro) <;> first | with_reducible rfl | exact True.intro | exact congrArg (fun z : Int => some (AV.int IntKind.i64 z)) (show (_ : Int) = _ by omega) | exact congrArg (fun z : Nat => some (AV.tsl _ _ _ _ _ z)) (show (_ : Nat) = _ by omega) | exact arrEq (by omega) (by with_reducible rfl))
        rw [hZ]
        exact ⟨rfl, rfl, rfl, trivial⟩
      · intro i hi
        generalize hX : cpI (List.replicate 64 0) D i = X
        by_cases h2 : i < 32
        · have h2' : decide ((i : Int) < 32) = true := decide_eq_true (by omega)
          refine Tri.at (by first | (simp only [h2', Con.start, go_sem]; rfl) | rfl) ?_
          repeat (first | ((first | refine Tri.seq (Tri.regT (cfgF1_ok.pins _) ?_) | refine Tri.rgnT (cfgF1_ok.pins _) ?_); (repeat (first | refine RunT.oneA (hp := by simp (maxSteps := 2000000) (disch := first | decide | omega | (simp only [List.length_append, List.length_cons, List.length_nil, List.length_take, List.length_drop]; omega)) only [h2', go_sem]; rfl) (h := ?_) | refine RunT.notA (h := ?_))); refine RunT.nil ?_; try simp only [InBlock, Then]) | refine Tri.cF (by first | (simp only [h2', go_sem]; done) | fail) ?_ | refine Tri.cT (by first | (simp only [h2', go_sem]; done) | fail) ?_ | (refine Tri.skip ?_; try simp only [InBlock, Then]) | (refine Tri.exit ?_; simp only [Then, InBlock, if_true, if_false, ↓reduceIte, Nat.reduceEqDiff]) | refine Tri.seq (Tri.block ?_) | refine Tri.block ?_ | refine Tri.seq ?_ | (refine Tri.ret ?_; refine Con.fin (.inl rfl) (by simp only [Tryd.f25, cfgF1, resA, resA1, go_sem]; rfl) (by simp only [Obs, and_true, true_and]) (by first | (simp only [kMacR, Con.of, Con.ofO, resV, h2', go_sem]; done) | fail) trivial rfl rfl))
          refine ⟨i+1, (by omega), (by omega), Wk.of ?_ ?_ rfl rfl⟩
          · simp only [lessTs, List.reduceReplicate, List.cons_append, List.nil_append, cpI, hX] <;> ((repeat' apply And.intro) <;> first | with_reducible rfl | exact True.intro | exact congrArg (fun z : Int => some (AV.int IntKind.i64 z)) (show (_ : Int) = _ by omega) | exact congrArg (fun z : Nat => some (AV.tsl _ _ _ _ _ z)) (show (_ : Nat) = _ by omega) | exact arrEq (by omega) (by with_reducible rfl))
          · simp only [lessHs, cpI, hX] <;> ((repeat' apply And.intro) <;> first | with_reducible rfl | exact True.intro | exact congrArg (fun z : Int => some (AV.int IntKind.i64 z)) (show (_ : Int) = _ by omega) | exact congrArg (fun z : Nat => some (AV.tsl _ _ _ _ _ z)) (show (_ : Nat) = _ by omega) | exact arrEq (by omega) (by with_reducible rfl))
        · have h2' : decide ((i : Int) < 32) = false := decide_eq_false (by omega)
          refine Tri.at (by first | (simp only [h2', Con.start, go_sem]; rfl) | rfl) ?_
          repeat (first | ((first | refine Tri.seq (Tri.regT (cfgF1_ok.pins _) ?_) | refine Tri.rgnT (cfgF1_ok.pins _) ?_); (repeat (first | refine RunT.oneA (hp := by simp (maxSteps := 2000000) (disch := first | decide | omega | (simp only [List.length_append, List.length_cons, List.length_nil, List.length_take, List.length_drop]; omega)) only [h2', go_sem]; rfl) (h := ?_) | refine RunT.notA (h := ?_))); refine RunT.nil ?_; try simp only [InBlock, Then]) | refine Tri.cF (by first | (simp only [h2', go_sem]; done) | fail) ?_ | refine Tri.cT (by first | (simp only [h2', go_sem]; done) | fail) ?_ | (refine Tri.skip ?_; try simp only [InBlock, Then]) | (refine Tri.exit ?_; simp only [Then, InBlock, if_true, if_false, ↓reduceIte, Nat.reduceEqDiff]) | refine Tri.seq (Tri.block ?_) | refine Tri.block ?_ | refine Tri.seq ?_ | (refine Tri.ret ?_; refine Con.fin (.inl rfl) (by simp only [Tryd.f25, cfgF1, resA, resA1, go_sem]; rfl) (by simp only [Obs, and_true, true_and]) (by first | (simp only [kMacR, Con.of, Con.ofO, resV, h2', go_sem]; done) | fail) trivial rfl rfl))
          have hXe : X = padK (keyM s) := by rw [← hX, hk, cpI_pad (by omega) (by omega)]
          refine ⟨X, hXe, ?_⟩
          refine Wk.of ?_ ?_ rfl rfl
          · simp only [lessTs, List.reduceReplicate, List.cons_append, List.nil_append] <;> ((repeat' apply And.intro) <;> first | with_reducible rfl | exact True.intro | exact congrArg (fun z : Int => some (AV.int IntKind.i64 z)) (show (_ : Int) = _ by omega) | exact congrArg (fun z : Nat => some (AV.tsl _ _ _ _ _ z)) (show (_ : Nat) = _ by omega) | exact arrEq (by omega) (by with_reducible rfl))
          exact ⟨rfl, rfl, trivial⟩
    · have hl' : decide ((64 : Int) < (s.length : Int)) = false := decide_eq_false (by omega)
      have hk : keyM s = s := if_neg hl
      repeat (first | ((first | refine Tri.seq (Tri.regT (cfgF1_ok.pins _) ?_) | refine Tri.rgnT (cfgF1_ok.pins _) ?_); (repeat (first | refine RunT.oneA (hp := by simp (maxSteps := 2000000) (disch := first | decide | omega | (simp only [List.length_append, List.length_cons, List.length_nil, List.length_take, List.length_drop]; omega)) only [hl', go_sem]; rfl) (h := ?_) | refine RunT.notA (h := ?_))); refine RunT.nil ?_; try simp only [InBlock, Then]) | refine Tri.cF (by first | (simp only [hl', go_sem]; done) | fail) ?_ | refine Tri.cT (by first | (simp only [hl', go_sem]; done) | fail) ?_ | (refine Tri.skip ?_; try simp only [InBlock, Then]) | (refine Tri.exit ?_; simp only [Then, InBlock, if_true, if_false, ↓reduceIte, Nat.reduceEqDiff]) | refine Tri.seq (Tri.block ?_) | refine Tri.block ?_ | refine Tri.seq ?_ | (refine Tri.ret ?_; refine Con.fin (.inl rfl) (by simp only [Tryd.f25, cfgF1, resA, resA1, go_sem]; rfl) (by simp only [Obs, and_true, true_and]) (by first | (simp only [kMacR, Con.of, Con.ofO, resV, hl', go_sem]; done) | fail) trivial rfl rfl))
      refine Tri.loop (fun i : Nat => (⟨[some (.pure (.slice false (.int .u8)) s), some (.pure (.slice false (.int .u8)) d), none, none, some (.ptr 0 [] 0), some (.tsl 1 [] 0 0 1 64), none, none, some (.int .i64 (i : Int))] ++ List.replicate 63 none, [.live (.pure h32 Z), .live (.pure (.arr 64 (.int .u8)) (cpI (List.replicate 64 0) s i))]⟩ : AS)) (fun i => i ≤ s.length) (fun i => s.length - i) 0 ?_ (Nat.zero_le _) ?_
      · refine Wk.of ?_ ?_ rfl rfl
        · simp only [lessTs, List.reduceReplicate, List.cons_append, List.nil_append] <;> ((repeat' apply And.intro) <;> first | with_reducible rfl | exact True.intro | exact congrArg (fun z : Int => some (AV.int IntKind.i64 z)) (show (_ : Int) = _ by omega) | exact congrArg (fun z : Nat => some (AV.tsl _ _ _ _ _ z)) (show (_ : Nat) = _ by omega) | exact arrEq (by omega) (by with_reducible rfl))
        rw [hZ]
        exact ⟨rfl, rfl, trivial⟩
      · intro i hi
        generalize hX : cpI (List.replicate 64 0) s i = X
        by_cases h2 : i < s.length
        · have h2' : decide ((i : Int) < (s.length : Int)) = true := decide_eq_true (by omega)
          refine Tri.at (by first | (simp only [h2', Con.start, go_sem]; rfl) | rfl) ?_
          repeat (first | ((first | refine Tri.seq (Tri.regT (cfgF1_ok.pins _) ?_) | refine Tri.rgnT (cfgF1_ok.pins _) ?_); (repeat (first | refine RunT.oneA (hp := by simp (maxSteps := 2000000) (disch := first | decide | omega | (simp only [List.length_append, List.length_cons, List.length_nil, List.length_take, List.length_drop]; omega)) only [h2', go_sem]; rfl) (h := ?_) | refine RunT.notA (h := ?_))); refine RunT.nil ?_; try simp only [InBlock, Then]) | refine Tri.cF (by first | (simp only [h2', go_sem]; done) | fail) ?_ | refine Tri.cT (by first | (simp only [h2', go_sem]; done) | fail) ?_ | (refine Tri.skip ?_; try simp only [InBlock, Then]) | (refine Tri.exit ?_; simp only [Then, InBlock, if_true, if_false, ↓reduceIte, Nat.reduceEqDiff]) | refine Tri.seq (Tri.block ?_) | refine Tri.block ?_ | refine Tri.seq ?_ | (refine Tri.ret ?_; refine Con.fin (.inl rfl) (by simp only [Tryd.f25, cfgF1, resA, resA1, go_sem]; rfl) (by simp only [Obs, and_true, true_and]) (by first | (simp only [kMacR, Con.of, Con.ofO, resV, h2', go_sem]; done) | fail) trivial rfl rfl))
          refine ⟨i+1, (by omega), (by omega), Wk.of ?_ ?_ rfl rfl⟩
          · simp only [lessTs, List.reduceReplicate, List.cons_append, List.nil_append, cpI, hX] <;> ((repeat' apply And.intro) <;> first | with_reducible rfl | exact True.intro | exact congrArg (fun z : Int => some (AV.int IntKind.i64 z)) (show (_ : Int) = _ by omega) | exact congrArg (fun z : Nat => some (AV.tsl _ _ _ _ _ z)) (show (_ : Nat) = _ by omega) | exact arrEq (by omega) (by with_reducible rfl))
          · simp only [lessHs, cpI, hX] <;> ((repeat' apply And.intro) <;> first | with_reducible rfl | exact True.intro | exact congrArg (fun z : Int => some (AV.int IntKind.i64 z)) (show (_ : Int) = _ by omega) | exact congrArg (fun z : Nat => some (AV.tsl _ _ _ _ _ z)) (show (_ : Nat) = _ by omega) | exact arrEq (by omega) (by with_reducible rfl))
        · have h2' : decide ((i : Int) < (s.length : Int)) = false := decide_eq_false (by omega)
          refine Tri.at (by first | (simp only [h2', Con.start, go_sem]; rfl) | rfl) ?_
          repeat (first | ((first | refine Tri.seq (Tri.regT (cfgF1_ok.pins _) ?_) | refine Tri.rgnT (cfgF1_ok.pins _) ?_); (repeat (first | refine RunT.oneA (hp := by simp (maxSteps := 2000000) (disch := first | decide | omega | (simp only [List.length_append, List.length_cons, List.length_nil, List.length_take, List.length_drop]; omega)) only [h2', go_sem]; rfl) (h := ?_) | refine RunT.notA (h := ?_))); refine RunT.nil ?_; try simp only [InBlock, Then]) | refine Tri.cF (by first | (simp only [h2', go_sem]; done) | fail) ?_ | refine Tri.cT (by first | (simp only [h2', go_sem]; done) | fail) ?_ | (refine Tri.skip ?_; try simp only [InBlock, Then]) | (refine Tri.exit ?_; simp only [Then, InBlock, if_true, if_false, ↓reduceIte, Nat.reduceEqDiff]) | refine Tri.seq (Tri.block ?_) | refine Tri.block ?_ | refine Tri.seq ?_ | (refine Tri.ret ?_; refine Con.fin (.inl rfl) (by simp only [Tryd.f25, cfgF1, resA, resA1, go_sem]; rfl) (by simp only [Obs, and_true, true_and]) (by first | (simp only [kMacR, Con.of, Con.ofO, resV, h2', go_sem]; done) | fail) trivial rfl rfl))
          have hXe : X = padK (keyM s) := by rw [← hX, hk, cpI_pad (by omega) (by omega)]
          refine ⟨X, hXe, ?_⟩
          refine Wk.of ?_ ?_ rfl rfl
          · simp only [lessTs, List.reduceReplicate, List.cons_append, List.nil_append] <;> ((repeat' apply And.intro) <;> first | with_reducible rfl | exact True.intro | exact congrArg (fun z : Int => some (AV.int IntKind.i64 z)) (show (_ : Int) = _ by omega) | exact congrArg (fun z : Nat => some (AV.tsl _ _ _ _ _ z)) (show (_ : Nat) = _ by omega) | exact arrEq (by omega) (by with_reducible rfl))
          exact ⟨rfl, rfl, trivial⟩
  · rintro k rfl
    have hkl := keyM_len s
    have hpl := padK_len hkl
    refine Tri.at (by first | (simp only [List.take_of_length_le, Con.start, go_sem]; rfl) | rfl) ?_
    repeat (first | ((first | refine Tri.seq (Tri.regT (cfgF1_ok.pins _) ?_) | refine Tri.rgnT (cfgF1_ok.pins _) ?_); (repeat (first | refine RunT.oneA (hp := by simp (maxSteps := 2000000) (disch := first | decide | omega | (simp only [List.length_append, List.length_cons, List.length_nil, List.length_take, List.length_drop]; omega)) only [List.take_of_length_le, go_sem]; rfl) (h := ?_) | refine RunT.notA (h := ?_))); refine RunT.nil ?_; try simp only [InBlock, Then]) | refine Tri.cF (by first | (simp only [List.take_of_length_le, go_sem]; done) | fail) ?_ | refine Tri.cT (by first | (simp only [List.take_of_length_le, go_sem]; done) | fail) ?_ | (refine Tri.skip ?_; try simp only [InBlock, Then]) | (refine Tri.exit ?_; simp only [Then, InBlock, if_true, if_false, ↓reduceIte, Nat.reduceEqDiff]) | refine Tri.seq (Tri.block ?_) | refine Tri.block ?_ | refine Tri.seq ?_ | (refine Tri.ret ?_; refine Con.fin (.inl rfl) (by simp only [Tryd.f25, cfgF1, resA, resA1, go_sem]; rfl) (by simp only [Obs, and_true, true_and]) (by first | (simp only [kMacR, Con.of, Con.ofO, resV, List.take_of_length_le, go_sem]; done) | fail) trivial rfl rfl))
    refine Tri.loop (fun i : Nat => (⟨[none, some (.pure (.slice false (.int .u8)) d), none, none, some (.ptr 0 [] 0), some (.tsl 1 [] 0 0 1 64), none, none, none, some (.tsl 2 [] 0 0 1 i), some (.tsl 3 [] 0 0 1 i), some (.int .i64 (i : Int))] ++ List.replicate 60 none, [.live (.pure h32 Z), .live (.pure (.arr 64 (.int .u8)) (padK (keyM s))), .live (.pure (.arr i (.int .u8)) (mpI (padK (keyM s)) 54 i)), .live (.pure (.arr i (.int .u8)) (mpI (padK (keyM s)) 92 i))]⟩ : AS)) (fun i => i ≤ 64) (fun i => 64 - i) 0 ?_ (Nat.zero_le _) ?_
    · refine Wk.of ?_ ?_ rfl rfl
      · simp only [lessTs, List.reduceReplicate, List.cons_append, List.nil_append, mpI] <;> ((repeat' apply And.intro) <;> first | with_reducible rfl | exact True.intro | exact congrArg (fun z : Int => some (AV.int IntKind.i64 z)) (show (_ : Int) = _ by omega) | exact congrArg (fun z : Nat => some (AV.tsl _ _ _ _ _ z)) (show (_ : Nat) = _ by omega) | exact arrEq (by omega) (by with_reducible rfl))
      · simp only [lessHs, mpI] <;> ((repeat' apply And.intro) <;> first | with_reducible rfl | exact True.intro | exact congrArg (fun z : Int => some (AV.int IntKind.i64 z)) (show (_ : Int) = _ by omega) | exact congrArg (fun z : Nat => some (AV.tsl _ _ _ _ _ z)) (show (_ : Nat) = _ by omega) | exact arrEq (by omega) (by with_reducible rfl))
    · intro i hi
      have e1 := mpI_len (padK (keyM s)) 54 i
      have e2 := mpI_len (padK (keyM s)) 92 i
      generalize hA : mpI (padK (keyM s)) 54 i = A at e1
      generalize hB : mpI (padK (keyM s)) 92 i = B at e2
      by_cases h2 : i < 64
      · have h2' : decide ((i : Int) < 64) = true := decide_eq_true (by omega)
        refine Tri.at (by first | (simp only [h2', e1, e2, List.take_of_length_le, Con.start, go_sem]; rfl) | rfl) ?_
        repeat (first | ((first | refine Tri.seq (Tri.regT (cfgF1_ok.pins _) ?_) | refine Tri.rgnT (cfgF1_ok.pins _) ?_); (repeat (first | refine RunT.oneA (hp := by simp (maxSteps := 2000000) (disch := first | decide | omega | (simp only [List.length_append, List.length_cons, List.length_nil, List.length_take, List.length_drop]; omega)) only [h2', e1, e2, List.take_of_length_le, go_sem]; rfl) (h := ?_) | refine RunT.notA (h := ?_))); refine RunT.nil ?_; try simp only [InBlock, Then]) | refine Tri.cF (by first | (simp only [h2', e1, e2, List.take_of_length_le, go_sem]; done) | fail) ?_ | refine Tri.cT (by first | (simp only [h2', e1, e2, List.take_of_length_le, go_sem]; done) | fail) ?_ | (refine Tri.skip ?_; try simp only [InBlock, Then]) | (refine Tri.exit ?_; simp only [Then, InBlock, if_true, if_false, ↓reduceIte, Nat.reduceEqDiff]) | refine Tri.seq (Tri.block ?_) | refine Tri.block ?_ | refine Tri.seq ?_ | (refine Tri.ret ?_; refine Con.fin (.inl rfl) (by simp only [Tryd.f25, cfgF1, resA, resA1, go_sem]; rfl) (by simp only [Obs, and_true, true_and]) (by first | (simp only [kMacR, Con.of, Con.ofO, resV, h2', e1, e2, List.take_of_length_le, go_sem]; done) | fail) trivial rfl rfl))
        refine ⟨i+1, (by omega), (by omega), Wk.of ?_ ?_ rfl rfl⟩
        · simp only [lessTs, List.reduceReplicate, List.cons_append, List.nil_append, mpI, hA, hB] <;> ((repeat' apply And.intro) <;> first | with_reducible rfl | exact True.intro | exact congrArg (fun z : Int => some (AV.int IntKind.i64 z)) (show (_ : Int) = _ by omega) | exact congrArg (fun z : Nat => some (AV.tsl _ _ _ _ _ z)) (show (_ : Nat) = _ by omega) | exact arrEq (by omega) (by with_reducible rfl))
        · simp only [lessHs, mpI, hA, hB] <;> ((repeat' apply And.intro) <;> first | with_reducible rfl | exact True.intro | exact congrArg (fun z : Int => some (AV.int IntKind.i64 z)) (show (_ : Int) = _ by omega) | exact congrArg (fun z : Nat => some (AV.tsl _ _ _ _ _ z)) (show (_ : Nat) = _ by omega) | exact arrEq (by omega) (by with_reducible rfl))
      · have h2' : decide ((i : Int) < 64) = false := decide_eq_false (by omega)
        have hAe : A = xK (keyM s) 54 := by rw [← hA, show i = 64 by omega, mpI_xK hkl]
        have hBe : B = xK (keyM s) 92 := by rw [← hB, show i = 64 by omega, mpI_xK hkl]
        have hm : dig (B ++ dig (A ++ d)) = macS s d := by rw [hAe, hBe]; rfl
        have hdl := dig_len (A ++ d)
        obtain rfl : i = 64 := by omega
        refine Tri.at (by first | (simp only [h2', e1, e2, hm, hdl, List.take_of_length_le, Con.start, go_sem]; rfl) | rfl) ?_
        repeat (first | ((first | refine Tri.seq (Tri.regT (cfgF1_ok.pins _) ?_) | refine Tri.rgnT (cfgF1_ok.pins _) ?_); (repeat (first | refine RunT.oneA (hp := by simp (maxSteps := 2000000) (disch := first | decide | omega | (simp only [List.length_append, List.length_cons, List.length_nil, List.length_take, List.length_drop]; omega)) only [h2', e1, e2, hm, hdl, List.take_of_length_le, go_sem]; rfl) (h := ?_) | refine RunT.notA (h := ?_))); refine RunT.nil ?_; try simp only [InBlock, Then]) | refine Tri.cF (by first | (simp only [h2', e1, e2, hm, hdl, List.take_of_length_le, go_sem]; done) | fail) ?_ | refine Tri.cT (by first | (simp only [h2', e1, e2, hm, hdl, List.take_of_length_le, go_sem]; done) | fail) ?_ | (refine Tri.skip ?_; try simp only [InBlock, Then]) | (refine Tri.exit ?_; simp only [Then, InBlock, if_true, if_false, ↓reduceIte, Nat.reduceEqDiff]) | refine Tri.seq (Tri.block ?_) | refine Tri.block ?_ | refine Tri.seq ?_ | (refine Tri.ret ?_; refine Con.fin (.inl rfl) (by simp only [Tryd.f25, cfgF1, resA, resA1, go_sem]; rfl) (by simp only [Obs, and_true, true_and]) (by first | (simp only [kMacR, Con.of, Con.ofO, resV, h2', e1, e2, hm, hdl, List.take_of_length_le, go_sem]; done) | fail) trivial rfl rfl))
theorem macR_sum : FSumOK Tryd.prog cfgF1.G 25 kMacR.sum := Con.sumOK cfgF1_ok kMacR Tryd.func25 rfl rfl (Con.of_inv _ _ _) macR_body
end
end Go.Proofs.YticgfjalikmniaaDoor

namespace Go.Proofs.YticgfjalikmniaaDoor
open Go.Vc Go.Proofs
set_option maxRecDepth 10000
set_option maxHeartbeats 4000000
def derS (key label : List UInt8) (n : UInt64) : List UInt8 := List.take 16 (macS key (label ++ 0 :: numS n))
theorem derS_len (key label : List UInt8) (n : UInt64) : (derS key label n).length = 16 := by rw [derS, List.length_take, macS_len]; rfl
def kDer : Con := Con.of [.v k16, .v .str, .v (.int .u64)] (fun x => [List.length (α := UInt8) x.1 = 16, List.length (α := UInt8) x.2.1 ≤ 100000]) (fun x => ⟨.pure k16 (derS x.1 x.2.1 x.2.2.1), []⟩)
def pwI (word k : List UInt8) : Nat → List UInt8
  | 0 => k
  | i + 1 => List.take 16 (macS word (pwI word k i))
def pwS (word salt : List UInt8) : List UInt8 := pwI word (List.take 16 (macS word salt)) 8
theorem pwI_len (word salt : List UInt8) : ∀ i, (pwI word (List.take 16 (macS word salt)) i).length = 16
  | 0 => by rw [pwI, List.length_take, macS_len]; rfl
  | i + 1 => by rw [pwI, List.length_take, macS_len]; rfl
def kPw : Con := Con.of [.v .str, .v .str] (fun x => [List.length (α := UInt8) x.1 ≤ 100000, List.length (α := UInt8) x.2.1 ≤ 100000]) (fun x => ⟨.pure k16 (pwS x.1 x.2.1), []⟩)
def cfgG1 : Cfg2 := { ty := tyTab, fn := fun | 24 => some kMac.sum | 43 => some kHead.sum | 44 => some kNum.sum | 25 => some kMacR.sum | 45 => some kHead.sum | 46 => some kNum.sum | _ => none, G := shaG, pin := [], eq := fun _ => none }
theorem cfgG1_ok : CfgOK Tryd.prog cfgG1 := ⟨tysOK, (fun f s h => by
  simp only [cfgG1] at h
  split at h
  · injection h with h; subst h; exact .inl mac_sum
  · injection h with h; subst h; exact .inl head_sum
  · injection h with h; subst h; exact .inl num_sum
  · injection h with h; subst h; exact .inl macR_sum
  · injection h with h; subst h; exact .inl keyR_sum
  · injection h with h; subst h; exact .inl numR_sum
  · cases h), (fun t d h => by cases h)⟩
section
attribute [local go_sem] Tryd.f27 kDer kMac kMacR kHead kNum cfgG1 tyTab
theorem der_body (p : kDer.Par) (hp : ∀ q ∈ kDer.pre p, q) : BodyOK Tryd.prog cfgG1 Tryd.f27 (Tryd.f27.body.get rfl) kDer p := by
  obtain ⟨(key : List UInt8), (label : List UInt8), (n : UInt64), u⟩ := p
  obtain ⟨h0, h1, _⟩ := Obs.of hp
  replace h0 : key.length = 16 := h0
  replace h1 : label.length ≤ 100000 := h1
  refine ⟨?_, Nat.zero_le _, rfl, rfl⟩
  show Tri _ _ _ (Code.seq _ (Code.seq _ (Code.seq _ _))) _
  obtain ⟨Z, hZ⟩ : ∃ Z : List UInt8, Z = Kd.dflt k16 := ⟨_, rfl⟩
  have hn := numS_len n
  have hm := macS_len key (label ++ 0 :: numS n)
  have ht : List.take (label.length + 1 + (numS n).length) (label ++ 0 :: numS n) = label ++ 0 :: numS n := List.take_of_length_le (by simp; omega)
  have hd : List.take 16 (macS key (label ++ 0 :: numS n)) = derS key label n := rfl
  refine Tri.at (by first | (simp only [hd, ht, hm, List.append_assoc, List.take_of_length_le, Con.start, go_sem]; rfl) | rfl) ?_
  repeat (first | ((first | refine Tri.seq (Tri.regT (cfgG1_ok.pins _) ?_) | refine Tri.rgnT (cfgG1_ok.pins _) ?_); (repeat (first | refine RunT.oneA (hp := by simp (maxSteps := 2000000) (disch := first | decide | omega | (simp only [List.length_append, List.length_cons, List.length_nil, List.length_take, List.length_drop]; omega)) only [hd, ht, hm, List.append_assoc, List.take_of_length_le, go_sem]; rfl) (h := ?_) | refine RunT.notA (h := ?_))); refine RunT.nil ?_; try simp only [InBlock, Then]) | ((first | refine Tri.seq (Tri.drwT (mixed) (cfgG1_ok.pins _) ?_) | refine Tri.drnT (mixed) (cfgG1_ok.pins _) ?_); (repeat (first | refine RunD.oneA (hp := by simp (maxSteps := 2000000) (disch := first | decide | omega | (simp only [List.length_append, List.length_cons, List.length_nil, List.length_take, List.length_drop]; omega)) only [hd, ht, hm, List.append_assoc, List.take_of_length_le, go_sem]; rfl) (h := ?_) | refine RunD.notA (h := ?_))); refine RunD.nil ?_; refine ⟨by kernel_rfl, ?_⟩; try simp only [InBlock, Then]) | refine Tri.cF (by first | (simp only [hd, ht, hm, List.append_assoc, List.take_of_length_le, go_sem]; done) | fail) ?_ | refine Tri.cT (by first | (simp only [hd, ht, hm, List.append_assoc, List.take_of_length_le, go_sem]; done) | fail) ?_ | (refine Tri.skip ?_; try simp only [InBlock, Then]) | (refine Tri.exit ?_; simp only [Then, InBlock, if_true, if_false, ↓reduceIte, Nat.reduceEqDiff]) | refine Tri.seq (Tri.block ?_) | refine Tri.block ?_ | refine Tri.seq ?_ | (refine Tri.ret ?_; refine Con.fin (.inl rfl) (by simp only [Tryd.f27, cfgG1, resA, resA1, go_sem]; rfl) (by simp only [Obs, and_true, true_and]) (by first | (simp only [kDer, Con.of, Con.ofO, resV, hd, ht, hm, List.append_assoc, List.take_of_length_le, go_sem]; done) | fail) trivial rfl rfl))
theorem der_sum : FSumOK Tryd.prog cfgG1.G 27 kDer.sum := Con.sumOK cfgG1_ok kDer Tryd.func27 rfl rfl (Con.of_inv _ _ _) der_body
end
section
attribute [local go_sem] Tryd.f28 kDer kMac kMacR kHead kNum cfgG1 tyTab
theorem derR_body (p : kDer.Par) (hp : ∀ q ∈ kDer.pre p, q) : BodyOK Tryd.prog cfgG1 Tryd.f28 (Tryd.f28.body.get rfl) kDer p := by
  obtain ⟨(key : List UInt8), (label : List UInt8), (n : UInt64), u⟩ := p
  obtain ⟨h0, h1, _⟩ := Obs.of hp
  replace h0 : key.length = 16 := h0
  replace h1 : label.length ≤ 100000 := h1
  refine ⟨?_, Nat.zero_le _, rfl, rfl⟩
  show Tri _ _ _ (Code.seq _ (Code.seq _ (Code.seq _ _))) _
  obtain ⟨Z, hZ⟩ : ∃ Z : List UInt8, Z = Kd.dflt k16 := ⟨_, rfl⟩
  have hn := numS_len n
  have hm := macS_len key (label ++ 0 :: numS n)
  have ht : List.take (label.length + 1 + (numS n).length) (label ++ 0 :: numS n) = label ++ 0 :: numS n := List.take_of_length_le (by simp; omega)
  have hd : List.take 16 (macS key (label ++ 0 :: numS n)) = derS key label n := rfl
  refine Tri.at (by first | (simp only [hd, ht, hm, List.append_assoc, List.take_of_length_le, Con.start, go_sem]; rfl) | rfl) ?_
  repeat (first | ((first | refine Tri.seq (Tri.regT (cfgG1_ok.pins _) ?_) | refine Tri.rgnT (cfgG1_ok.pins _) ?_); (repeat (first | refine RunT.oneA (hp := by simp (maxSteps := 2000000) (disch := first | decide | omega | (simp only [List.length_append, List.length_cons, List.length_nil, List.length_take, List.length_drop]; omega)) only [hd, ht, hm, List.append_assoc, List.take_of_length_le, go_sem]; rfl) (h := ?_) | refine RunT.notA (h := ?_))); refine RunT.nil ?_; try simp only [InBlock, Then]) | ((first | refine Tri.seq (Tri.drwT (mixed) (cfgG1_ok.pins _) ?_) | refine Tri.drnT (mixed) (cfgG1_ok.pins _) ?_); (repeat (first | refine RunD.oneA (hp := by simp (maxSteps := 2000000) (disch := first | decide | omega | (simp only [List.length_append, List.length_cons, List.length_nil, List.length_take, List.length_drop]; omega)) only [hd, ht, hm, List.append_assoc, List.take_of_length_le, go_sem]; rfl) (h := ?_) | refine RunD.notA (h := ?_))); refine RunD.nil ?_; refine ⟨by kernel_rfl, ?_⟩; try simp only [InBlock, Then]) | refine Tri.cF (by first | (simp only [hd, ht, hm, List.append_assoc, List.take_of_length_le, go_sem]; done) | fail) ?_ | refine Tri.cT (by first | (simp only [hd, ht, hm, List.append_assoc, List.take_of_length_le, go_sem]; done) | fail) ?_ | (refine Tri.skip ?_; try simp only [InBlock, Then]) | (refine Tri.exit ?_; simp only [Then, InBlock, if_true, if_false, ↓reduceIte, Nat.reduceEqDiff]) | refine Tri.seq (Tri.block ?_) | refine Tri.block ?_ | refine Tri.seq ?_ | (refine Tri.ret ?_; refine Con.fin (.inl rfl) (by simp only [Tryd.f28, cfgG1, resA, resA1, go_sem]; rfl) (by simp only [Obs, and_true, true_and]) (by first | (simp only [kDer, Con.of, Con.ofO, resV, hd, ht, hm, List.append_assoc, List.take_of_length_le, go_sem]; done) | fail) trivial rfl rfl))
theorem derR_sum : FSumOK Tryd.prog cfgG1.G 28 kDer.sum := Con.sumOK cfgG1_ok kDer Tryd.func28 rfl rfl (Con.of_inv _ _ _) derR_body
end
section
attribute [local go_sem] Tryd.f29 kPw kMac kMacR kHead kNum cfgG1 tyTab
theorem pw_body (p : kPw.Par) (hp : ∀ q ∈ kPw.pre p, q) : BodyOK Tryd.prog cfgG1 Tryd.f29 (Tryd.f29.body.get rfl) kPw p := by
  obtain ⟨(word : List UInt8), (salt : List UInt8), u⟩ := p
  obtain ⟨h0, h1, _⟩ := Obs.of hp
  replace h0 : word.length ≤ 100000 := h0
  replace h1 : salt.length ≤ 100000 := h1
  refine ⟨?_, Nat.zero_le _, rfl, rfl⟩
  show Tri _ _ _ (Code.seq _ (Code.seq _ (Code.seq (Code.seq _ (Code.block _ (Code.loop (Code.seq _ (Code.seq (Code.cond _ _ _) (Code.seq (Code.block _ _) _)))))) (Code.seq _ _)))) _
  obtain ⟨Z, hZ⟩ : ∃ Z : List UInt8, Z = Kd.dflt k16 := ⟨_, rfl⟩
  have hm := macS_len word salt
  refine Tri.at (by first | (simp only [hm, List.take_of_length_le, Con.start, go_sem]; rfl) | rfl) ?_
  repeat (first | ((first | refine Tri.seq (Tri.regT (cfgG1_ok.pins _) ?_) | refine Tri.rgnT (cfgG1_ok.pins _) ?_); (repeat (first | refine RunT.oneA (hp := by simp (maxSteps := 2000000) (disch := first | decide | omega | (simp only [List.length_append, List.length_cons, List.length_nil, List.length_take, List.length_drop]; omega)) only [hm, List.take_of_length_le, go_sem]; rfl) (h := ?_) | refine RunT.notA (h := ?_))); refine RunT.nil ?_; try simp only [InBlock, Then]) | ((first | refine Tri.seq (Tri.drwT (mixed) (cfgG1_ok.pins _) ?_) | refine Tri.drnT (mixed) (cfgG1_ok.pins _) ?_); (repeat (first | refine RunD.oneA (hp := by simp (maxSteps := 2000000) (disch := first | decide | omega | (simp only [List.length_append, List.length_cons, List.length_nil, List.length_take, List.length_drop]; omega)) only [hm, List.take_of_length_le, go_sem]; rfl) (h := ?_) | refine RunD.notA (h := ?_))); refine RunD.nil ?_; refine ⟨by kernel_rfl, ?_⟩; try simp only [InBlock, Then]) | refine Tri.cF (by first | (simp only [hm, List.take_of_length_le, go_sem]; done) | fail) ?_ | refine Tri.cT (by first | (simp only [hm, List.take_of_length_le, go_sem]; done) | fail) ?_ | (refine Tri.skip ?_; try simp only [InBlock, Then]) | (refine Tri.exit ?_; simp only [Then, InBlock, if_true, if_false, ↓reduceIte, Nat.reduceEqDiff]) | refine Tri.seq (Tri.block ?_) | refine Tri.block ?_ | refine Tri.seq ?_ | (refine Tri.ret ?_; refine Con.fin (.inl rfl) (by simp only [Tryd.f29, cfgG1, resA, resA1, go_sem]; rfl) (by simp only [Obs, and_true, true_and]) (by first | (simp only [kPw, Con.of, Con.ofO, resV, hm, List.take_of_length_le, go_sem]; done) | fail) trivial rfl rfl))
  generalize hK0 : List.take 16 (macS word salt) = K0
  refine Tri.loop (fun i : Nat => (⟨[some (.str word), none, none, none, some (.ptr 0 [] 0), some (.ptr 3 [] 0), none, none, none, none, none, none, some (.int .i64 (i : Int))] ++ List.replicate 8 none, [.live (.pure k16 Z), .live (.pure (.arr word.length (.int .u8)) word), .live (.pure (.arr salt.length (.int .u8)) salt), .live (.pure k16 (pwI word K0 i))]⟩ : AS)) (fun i => i ≤ 8) (fun i => 8 - i) 0 ?_ (Nat.zero_le _) ?_
  · refine Wk.of ?_ ?_ rfl rfl
    · simp only [lessTs, List.reduceReplicate, List.cons_append, List.nil_append] <;> ((repeat' apply And.intro) <;> first | with_reducible rfl | exact True.intro | exact congrArg (fun z : Int => some (AV.int IntKind.i64 z)) (show (_ : Int) = _ by omega) | exact congrArg (fun z : Nat => some (AV.tsl _ _ _ _ _ z)) (show (_ : Nat) = _ by omega) | exact arrEq (by omega) (by with_reducible rfl))
    rw [hZ]
    exact ⟨rfl, rfl, rfl, rfl, trivial⟩
  · intro i hi
    have hl := pwI_len word salt i
    rw [hK0] at hl
    generalize hX : pwI word K0 i = X at hl
    have hm2 := macS_len word X
    by_cases h2 : i < 8
    · have h2' : decide ((i : Int) < 8) = true := decide_eq_true (by omega)
      refine Tri.at (by first | (simp only [h2', hm2, List.take_of_length_le, Con.start, go_sem]; rfl) | rfl) ?_
      repeat (first | ((first | refine Tri.seq (Tri.regT (cfgG1_ok.pins _) ?_) | refine Tri.rgnT (cfgG1_ok.pins _) ?_); (repeat (first | refine RunT.oneA (hp := by simp (maxSteps := 2000000) (disch := first | decide | omega | (simp only [List.length_append, List.length_cons, List.length_nil, List.length_take, List.length_drop]; omega)) only [h2', hm2, List.take_of_length_le, go_sem]; rfl) (h := ?_) | refine RunT.notA (h := ?_))); refine RunT.nil ?_; try simp only [InBlock, Then]) | ((first | refine Tri.seq (Tri.drwT (mixed) (cfgG1_ok.pins _) ?_) | refine Tri.drnT (mixed) (cfgG1_ok.pins _) ?_); (repeat (first | refine RunD.oneA (hp := by simp (maxSteps := 2000000) (disch := first | decide | omega | (simp only [List.length_append, List.length_cons, List.length_nil, List.length_take, List.length_drop]; omega)) only [h2', hm2, List.take_of_length_le, go_sem]; rfl) (h := ?_) | refine RunD.notA (h := ?_))); refine RunD.nil ?_; refine ⟨by kernel_rfl, ?_⟩; try simp only [InBlock, Then]) | refine Tri.cF (by first | (simp only [h2', hm2, List.take_of_length_le, go_sem]; done) | fail) ?_ | refine Tri.cT (by first | (simp only [h2', hm2, List.take_of_length_le, go_sem]; done) | fail) ?_ | (refine Tri.skip ?_; try simp only [InBlock, Then]) | (refine Tri.exit ?_; simp only [Then, InBlock, if_true, if_false, ↓reduceIte, Nat.reduceEqDiff]) | refine Tri.seq (Tri.block ?_) | refine Tri.block ?_ | refine Tri.seq ?_ | (refine Tri.ret ?_; refine Con.fin (.inl rfl) (by simp only [Tryd.f29, cfgG1, resA, resA1, go_sem]; rfl) (by simp only [Obs, and_true, true_and]) (by first | (simp only [kPw, Con.of, Con.ofO, resV, h2', hm2, List.take_of_length_le, go_sem]; done) | fail) trivial rfl rfl))
      refine ⟨i+1, (by omega), (by omega), Wk.of ?_ ?_ rfl rfl⟩
      · simp only [lessTs, List.reduceReplicate, List.cons_append, List.nil_append, pwI, hX] <;> ((repeat' apply And.intro) <;> first | with_reducible rfl | exact True.intro | exact congrArg (fun z : Int => some (AV.int IntKind.i64 z)) (show (_ : Int) = _ by omega) | exact congrArg (fun z : Nat => some (AV.tsl _ _ _ _ _ z)) (show (_ : Nat) = _ by omega) | exact arrEq (by omega) (by with_reducible rfl))
      · simp only [lessHs, pwI, hX] <;> ((repeat' apply And.intro) <;> first | with_reducible rfl | exact True.intro | exact congrArg (fun z : Int => some (AV.int IntKind.i64 z)) (show (_ : Int) = _ by omega) | exact congrArg (fun z : Nat => some (AV.tsl _ _ _ _ _ z)) (show (_ : Nat) = _ by omega) | exact arrEq (by omega) (by with_reducible rfl))
    · have h2' : decide ((i : Int) < 8) = false := decide_eq_false (by omega)
      refine Tri.at (by first | (simp only [h2', Con.start, go_sem]; rfl) | rfl) ?_
      repeat (first | ((first | refine Tri.seq (Tri.regT (cfgG1_ok.pins _) ?_) | refine Tri.rgnT (cfgG1_ok.pins _) ?_); (repeat (first | refine RunT.oneA (hp := by simp (maxSteps := 2000000) (disch := first | decide | omega | (simp only [List.length_append, List.length_cons, List.length_nil, List.length_take, List.length_drop]; omega)) only [h2', go_sem]; rfl) (h := ?_) | refine RunT.notA (h := ?_))); refine RunT.nil ?_; try simp only [InBlock, Then]) | ((first | refine Tri.seq (Tri.drwT (mixed) (cfgG1_ok.pins _) ?_) | refine Tri.drnT (mixed) (cfgG1_ok.pins _) ?_); (repeat (first | refine RunD.oneA (hp := by simp (maxSteps := 2000000) (disch := first | decide | omega | (simp only [List.length_append, List.length_cons, List.length_nil, List.length_take, List.length_drop]; omega)) only [h2', go_sem]; rfl) (h := ?_) | refine RunD.notA (h := ?_))); refine RunD.nil ?_; refine ⟨by kernel_rfl, ?_⟩; try simp only [InBlock, Then]) | refine Tri.cF (by first | (simp only [h2', go_sem]; done) | fail) ?_ | refine Tri.cT (by first | (simp only [h2', go_sem]; done) | fail) ?_ | (refine Tri.skip ?_; try simp only [InBlock, Then]) | (refine Tri.exit ?_; simp only [Then, InBlock, if_true, if_false, ↓reduceIte, Nat.reduceEqDiff]) | refine Tri.seq (Tri.block ?_) | refine Tri.block ?_ | refine Tri.seq ?_ | (refine Tri.ret ?_; refine Con.fin (.inl rfl) (by simp only [Tryd.f29, cfgG1, resA, resA1, go_sem]; rfl) (by simp only [Obs, and_true, true_and]) (by first | (simp only [kPw, Con.of, Con.ofO, resV, h2', go_sem]; done) | fail) trivial rfl rfl))
      refine Tri.ret ?_
      refine Con.fin (.inl rfl) (by simp only [Tryd.f29, cfgG1, resA, resA1, go_sem]; rfl) (by simp only [Obs, and_true, true_and]) ?_ ?_ rfl rfl
      · show AV.pure k16 X = AV.pure k16 (pwS word salt)
        rw [← hX, show i = 8 by omega, ← hK0]
        rfl
      · trivial
theorem pw_sum : FSumOK Tryd.prog cfgG1.G 29 kPw.sum := Con.sumOK cfgG1_ok kPw Tryd.func29 rfl rfl (Con.of_inv _ _ _) pw_body
end
section
attribute [local go_sem] Tryd.f30 kPw kMac kMacR kHead kNum cfgG1 tyTab
theorem pwR_body (p : kPw.Par) (hp : ∀ q ∈ kPw.pre p, q) : BodyOK Tryd.prog cfgG1 Tryd.f30 (Tryd.f30.body.get rfl) kPw p := by
  obtain ⟨(word : List UInt8), (salt : List UInt8), u⟩ := p
  obtain ⟨h0, h1, _⟩ := Obs.of hp
  replace h0 : word.length ≤ 100000 := h0
  replace h1 : salt.length ≤ 100000 := h1
  refine ⟨?_, Nat.zero_le _, rfl, rfl⟩
  show Tri _ _ _ (Code.seq _ (Code.seq _ (Code.seq (Code.seq _ (Code.block _ (Code.loop (Code.seq (Code.seq _ (Code.cond _ _ _)) (Code.seq (Code.block _ _) _))))) (Code.seq _ _)))) _
  obtain ⟨Z, hZ⟩ : ∃ Z : List UInt8, Z = Kd.dflt k16 := ⟨_, rfl⟩
  have hm := macS_len word salt
  refine Tri.at (by first | (simp only [hm, List.take_of_length_le, Con.start, go_sem]; rfl) | rfl) ?_
  repeat (first | ((first | refine Tri.seq (Tri.regT (cfgG1_ok.pins _) ?_) | refine Tri.rgnT (cfgG1_ok.pins _) ?_); (repeat (first | refine RunT.oneA (hp := by simp (maxSteps := 2000000) (disch := first | decide | omega | (simp only [List.length_append, List.length_cons, List.length_nil, List.length_take, List.length_drop]; omega)) only [hm, List.take_of_length_le, go_sem]; rfl) (h := ?_) | refine RunT.notA (h := ?_))); refine RunT.nil ?_; try simp only [InBlock, Then]) | ((first | refine Tri.seq (Tri.drwT (mixed) (cfgG1_ok.pins _) ?_) | refine Tri.drnT (mixed) (cfgG1_ok.pins _) ?_); (repeat (first | refine RunD.oneA (hp := by simp (maxSteps := 2000000) (disch := first | decide | omega | (simp only [List.length_append, List.length_cons, List.length_nil, List.length_take, List.length_drop]; omega)) only [hm, List.take_of_length_le, go_sem]; rfl) (h := ?_) | refine RunD.notA (h := ?_))); refine RunD.nil ?_; refine ⟨by kernel_rfl, ?_⟩; try simp only [InBlock, Then]) | refine Tri.cF (by first | (simp only [hm, List.take_of_length_le, go_sem]; done) | fail) ?_ | refine Tri.cT (by first | (simp only [hm, List.take_of_length_le, go_sem]; done) | fail) ?_ | (refine Tri.skip ?_; try simp only [InBlock, Then]) | (refine Tri.exit ?_; simp only [Then, InBlock, if_true, if_false, ↓reduceIte, Nat.reduceEqDiff]) | refine Tri.seq (Tri.block ?_) | refine Tri.block ?_ | refine Tri.seq ?_ | (refine Tri.ret ?_; refine Con.fin (.inl rfl) (by simp only [Tryd.f30, cfgG1, resA, resA1, go_sem]; rfl) (by simp only [Obs, and_true, true_and]) (by first | (simp only [kPw, Con.of, Con.ofO, resV, hm, List.take_of_length_le, go_sem]; done) | fail) trivial rfl rfl))
  generalize hK0 : List.take 16 (macS word salt) = K0
  refine Tri.loop (fun i : Nat => (⟨[some (.str word), none, none, none, some (.ptr 0 [] 0), some (.ptr 3 [] 0), some (.int .i64 (i : Int))] ++ List.replicate 16 none, [.live (.pure k16 Z), .live (.pure (.arr word.length (.int .u8)) word), .live (.pure (.arr salt.length (.int .u8)) salt), .live (.pure k16 (pwI word K0 i))]⟩ : AS)) (fun i => i ≤ 8) (fun i => 8 - i) 0 ?_ (Nat.zero_le _) ?_
  · refine Wk.of ?_ ?_ rfl rfl
    · simp only [lessTs, List.reduceReplicate, List.cons_append, List.nil_append] <;> ((repeat' apply And.intro) <;> first | with_reducible rfl | exact True.intro | exact congrArg (fun z : Int => some (AV.int IntKind.i64 z)) (show (_ : Int) = _ by omega) | exact congrArg (fun z : Nat => some (AV.tsl _ _ _ _ _ z)) (show (_ : Nat) = _ by omega) | exact arrEq (by omega) (by with_reducible rfl))
    rw [hZ]
    exact ⟨rfl, rfl, rfl, rfl, trivial⟩
  · intro i hi
    have hl := pwI_len word salt i
    rw [hK0] at hl
    generalize hX : pwI word K0 i = X at hl
    have hm2 := macS_len word X
    by_cases h2 : i < 8
    · have h2' : decide ((i : Int) < 8) = true := decide_eq_true (by omega)
      refine Tri.at (by first | (simp only [h2', hm2, List.take_of_length_le, Con.start, go_sem]; rfl) | rfl) ?_
      repeat (first | ((first | refine Tri.seq (Tri.regT (cfgG1_ok.pins _) ?_) | refine Tri.rgnT (cfgG1_ok.pins _) ?_); (repeat (first | refine RunT.oneA (hp := by simp (maxSteps := 2000000) (disch := first | decide | omega | (simp only [List.length_append, List.length_cons, List.length_nil, List.length_take, List.length_drop]; omega)) only [h2', hm2, List.take_of_length_le, go_sem]; rfl) (h := ?_) | refine RunT.notA (h := ?_))); refine RunT.nil ?_; try simp only [InBlock, Then]) | ((first | refine Tri.seq (Tri.drwT (mixed) (cfgG1_ok.pins _) ?_) | refine Tri.drnT (mixed) (cfgG1_ok.pins _) ?_); (repeat (first | refine RunD.oneA (hp := by simp (maxSteps := 2000000) (disch := first | decide | omega | (simp only [List.length_append, List.length_cons, List.length_nil, List.length_take, List.length_drop]; omega)) only [h2', hm2, List.take_of_length_le, go_sem]; rfl) (h := ?_) | refine RunD.notA (h := ?_))); refine RunD.nil ?_; refine ⟨by kernel_rfl, ?_⟩; try simp only [InBlock, Then]) | refine Tri.cF (by first | (simp only [h2', hm2, List.take_of_length_le, go_sem]; done) | fail) ?_ | refine Tri.cT (by first | (simp only [h2', hm2, List.take_of_length_le, go_sem]; done) | fail) ?_ | (refine Tri.skip ?_; try simp only [InBlock, Then]) | (refine Tri.exit ?_; simp only [Then, InBlock, if_true, if_false, ↓reduceIte, Nat.reduceEqDiff]) | refine Tri.seq (Tri.block ?_) | refine Tri.block ?_ | refine Tri.seq ?_ | (refine Tri.ret ?_; refine Con.fin (.inl rfl) (by simp only [Tryd.f30, cfgG1, resA, resA1, go_sem]; rfl) (by simp only [Obs, and_true, true_and]) (by first | (simp only [kPw, Con.of, Con.ofO, resV, h2', hm2, List.take_of_length_le, go_sem]; done) | fail) trivial rfl rfl))
      refine ⟨i+1, (by omega), (by omega), Wk.of ?_ ?_ rfl rfl⟩
      · simp only [lessTs, List.reduceReplicate, List.cons_append, List.nil_append, pwI, hX] <;> ((repeat' apply And.intro) <;> first | with_reducible rfl | exact True.intro | exact congrArg (fun z : Int => some (AV.int IntKind.i64 z)) (show (_ : Int) = _ by omega) | exact congrArg (fun z : Nat => some (AV.tsl _ _ _ _ _ z)) (show (_ : Nat) = _ by omega) | exact arrEq (by omega) (by with_reducible rfl))
      · simp only [lessHs, pwI, hX] <;> ((repeat' apply And.intro) <;> first | with_reducible rfl | exact True.intro | exact congrArg (fun z : Int => some (AV.int IntKind.i64 z)) (show (_ : Int) = _ by omega) | exact congrArg (fun z : Nat => some (AV.tsl _ _ _ _ _ z)) (show (_ : Nat) = _ by omega) | exact arrEq (by omega) (by with_reducible rfl))
    · have h2' : decide ((i : Int) < 8) = false := decide_eq_false (by omega)
      refine Tri.at (by first | (simp only [h2', Con.start, go_sem]; rfl) | rfl) ?_
      repeat (first | ((first | refine Tri.seq (Tri.regT (cfgG1_ok.pins _) ?_) | refine Tri.rgnT (cfgG1_ok.pins _) ?_); (repeat (first | refine RunT.oneA (hp := by simp (maxSteps := 2000000) (disch := first | decide | omega | (simp only [List.length_append, List.length_cons, List.length_nil, List.length_take, List.length_drop]; omega)) only [h2', go_sem]; rfl) (h := ?_) | refine RunT.notA (h := ?_))); refine RunT.nil ?_; try simp only [InBlock, Then]) | ((first | refine Tri.seq (Tri.drwT (mixed) (cfgG1_ok.pins _) ?_) | refine Tri.drnT (mixed) (cfgG1_ok.pins _) ?_); (repeat (first | refine RunD.oneA (hp := by simp (maxSteps := 2000000) (disch := first | decide | omega | (simp only [List.length_append, List.length_cons, List.length_nil, List.length_take, List.length_drop]; omega)) only [h2', go_sem]; rfl) (h := ?_) | refine RunD.notA (h := ?_))); refine RunD.nil ?_; refine ⟨by kernel_rfl, ?_⟩; try simp only [InBlock, Then]) | refine Tri.cF (by first | (simp only [h2', go_sem]; done) | fail) ?_ | refine Tri.cT (by first | (simp only [h2', go_sem]; done) | fail) ?_ | (refine Tri.skip ?_; try simp only [InBlock, Then]) | (refine Tri.exit ?_; simp only [Then, InBlock, if_true, if_false, ↓reduceIte, Nat.reduceEqDiff]) | refine Tri.seq (Tri.block ?_) | refine Tri.block ?_ | refine Tri.seq ?_ | (refine Tri.ret ?_; refine Con.fin (.inl rfl) (by simp only [Tryd.f30, cfgG1, resA, resA1, go_sem]; rfl) (by simp only [Obs, and_true, true_and]) (by first | (simp only [kPw, Con.of, Con.ofO, resV, h2', go_sem]; done) | fail) trivial rfl rfl))
      refine Tri.ret ?_
      refine Con.fin (.inl rfl) (by simp only [Tryd.f30, cfgG1, resA, resA1, go_sem]; rfl) (by simp only [Obs, and_true, true_and]) ?_ ?_ rfl rfl
      · show AV.pure k16 X = AV.pure k16 (pwS word salt)
        rw [← hX, show i = 8 by omega, ← hK0]
        rfl
      · trivial
theorem pwR_sum : FSumOK Tryd.prog cfgG1.G 30 kPw.sum := Con.sumOK cfgG1_ok kPw Tryd.func30 rfl rfl (Con.of_inv _ _ _) pwR_body
end
theorem jefe : strEq (List.take 4 (macS (List.take 4 [74, 101, 102, 101]) (List.take 28 [119, 104, 97, 116, 32, 100, 111, 32, 121, 97, 32, 119, 97, 110, 116, 32, 102, 111, 114, 32, 110, 111, 116, 104, 105, 110, 103, 63]))) [91, 220, 193, 70] = true := by kernel_rfl
def kSpk4 : Con := Con.of [] (fun _ => []) (fun _ => ⟨.bool true, []⟩)
section
attribute [local go_sem] Tryd.f23 kSpk4 kMac cfgG1 tyTab
theorem spk4_body (p : kSpk4.Par) (hp : ∀ q ∈ kSpk4.pre p, q) : BodyOK Tryd.prog cfgG1 Tryd.f23 (Tryd.f23.body.get rfl) kSpk4 p := by
  refine ⟨?_, Nat.zero_le _, rfl, rfl⟩
  show Tri _ _ _ (Code.seq _ (Code.seq _ (Code.seq _ _))) _
  refine Tri.at (by first | (simp only [jefe, Con.start, go_sem]; rfl) | rfl) ?_
  repeat (first | ((first | refine Tri.seq (Tri.regT (cfgG1_ok.pins _) ?_) | refine Tri.rgnT (cfgG1_ok.pins _) ?_); (repeat (first | refine RunT.oneA (hp := by simp (maxSteps := 2000000) (disch := first | decide | omega | (simp only [List.length_append, List.length_cons, List.length_nil, List.length_take, List.length_drop]; omega)) only [jefe, go_sem]; rfl) (h := ?_) | refine RunT.notA (h := ?_))); refine RunT.nil ?_; try simp only [InBlock, Then]) | ((first | refine Tri.seq (Tri.drwT (mixed) (cfgG1_ok.pins _) ?_) | refine Tri.drnT (mixed) (cfgG1_ok.pins _) ?_); (repeat (first | refine RunD.oneA (hp := by simp (maxSteps := 2000000) (disch := first | decide | omega | (simp only [List.length_append, List.length_cons, List.length_nil, List.length_take, List.length_drop]; omega)) only [jefe, go_sem]; rfl) (h := ?_) | refine RunD.notA (h := ?_))); refine RunD.nil ?_; refine ⟨by kernel_rfl, ?_⟩; try simp only [InBlock, Then]) | refine Tri.cF (by first | (simp only [jefe, go_sem]; done) | fail) ?_ | refine Tri.cT (by first | (simp only [jefe, go_sem]; done) | fail) ?_ | (refine Tri.skip ?_; try simp only [InBlock, Then]) | (refine Tri.exit ?_; simp only [Then, InBlock, if_true, if_false, ↓reduceIte, Nat.reduceEqDiff]) | refine Tri.seq (Tri.block ?_) | refine Tri.block ?_ | refine Tri.seq ?_ | (refine Tri.ret ?_; refine Con.fin (.inl rfl) (by simp only [Tryd.f23, cfgG1, resA, resA1, go_sem]; rfl) (by simp only [Obs, and_true, true_and]) (by first | (simp only [kSpk4, Con.of, Con.ofO, resV, jefe, go_sem]; done) | fail) trivial rfl rfl))
theorem spk4_sum : FSumOK Tryd.prog cfgG1.G 23 kSpk4.sum := Con.sumOK cfgG1_ok kSpk4 Tryd.func23 rfl rfl (Con.of_inv _ _ _) spk4_body
end
end Go.Proofs.YticgfjalikmniaaDoor

namespace Go.Proofs.YticgfjalikmniaaDoor
open Go.Vc Go.Proofs
set_option maxRecDepth 10000
set_option maxHeartbeats 4000000
def cfgE1 : Cfg2 := { ty := tyTab, fn := fun  | _ => none, G := shaG, pin := [], eq := fun _ => none }
theorem cfgE1_ok : CfgOK Tryd.prog cfgE1 := ⟨tysOK, (fun f s h => by cases h), (fun t d h => by cases h)⟩
def dfI (a b : List UInt8) : Nat → UInt8
  | 0 => 0
  | i + 1 => dfI a b i ||| (a.getD i 0 ^^^ b.getD i 0)
theorem or_zero (x y : UInt8) : x ||| y = 0 ↔ x = 0 ∧ y = 0 := by
  constructor
  · intro h
    have h' := congrArg UInt8.toNat h
    rw [UInt8.toNat_or] at h'
    have : x.toNat = 0 ∧ y.toNat = 0 := by
      have := Nat.or_eq_zero_iff.1 h'
      exact this
    exact ⟨UInt8.toNat_inj.1 this.1, UInt8.toNat_inj.1 this.2⟩
  · rintro ⟨rfl, rfl⟩; rfl
theorem xor_zero (x y : UInt8) : x ^^^ y = 0 ↔ x = y := UInt8.xor_eq_zero_iff
theorem dfI_zero (a b : List UInt8) : ∀ i, dfI a b i = 0 ↔ ∀ j, j < i → a.getD j 0 = b.getD j 0
  | 0 => ⟨fun _ j hj => by omega, fun _ => rfl⟩
  | i + 1 => by
    rw [dfI, or_zero, dfI_zero a b i, xor_zero]
    constructor
    · rintro ⟨h1, h2⟩ j hj
      by_cases e : j = i
      · rw [e]; exact h2
      · exact h1 j (by omega)
    · intro h
      exact ⟨fun j hj => h j (by omega), h i (by omega)⟩
theorem dfI_eq {a b : List UInt8} (h : a.length = b.length) : decide (dfI a b a.length = 0) = strEq a b := by
  unfold strEq
  refine decide_eq_decide.2 ?_
  rw [dfI_zero]
  constructor
  · intro hh
    apply List.ext_getElem h
    intro j h1 h2
    have := hh j h1
    rw [List.getD_eq_getElem?_getD, List.getD_eq_getElem?_getD, List.getElem?_eq_getElem h1, List.getElem?_eq_getElem h2] at this
    exact this
  · rintro rfl j _; rfl
def kEq : Con := Con.of [.v (.slice false (.int .u8)), .v (.slice false (.int .u8))] (fun x => [List.length (α := UInt8) x.1 ≤ 1000000000]) (fun x => ⟨.bool (strEq x.1 x.2.1), []⟩)
attribute [local go_sem] Tryd.f26 kEq cfgE1 tyTab
theorem equal_body (p : kEq.Par) (hp : ∀ q ∈ kEq.pre p, q) : BodyOK Tryd.prog cfgE1 Tryd.f26 (Tryd.f26.body.get rfl) kEq p := by
  obtain ⟨(a : List UInt8), (b : List UInt8), u⟩ := p
  obtain ⟨h0, _⟩ := Obs.of hp
  replace h0 : a.length ≤ 1000000000 := h0
  refine ⟨?_, Nat.zero_le _, rfl, rfl⟩
  show Tri _ _ _ (Code.seq _ (Code.seq (Code.seq _ (Code.cond _ (Code.seq _ _) _)) (Code.seq _ (Code.seq (Code.seq _ (Code.block _ (Code.loop (Code.seq _ (Code.seq (Code.cond _ _ _) (Code.seq (Code.block _ (Code.seq _ _)) _)))))) (Code.seq _ _))))) _
  by_cases hl : a.length = b.length
  · have hl' : decide ((a.length : Int) = (b.length : Int)) = true := decide_eq_true (by omega)
    refine Tri.at (by first | (simp only [hl', Con.start, go_sem]; rfl) | rfl) ?_
    repeat (first | ((first | refine Tri.seq (Tri.regT (cfgE1_ok.pins _) ?_) | refine Tri.rgnT (cfgE1_ok.pins _) ?_); (repeat (first | refine RunT.oneA (hp := by simp (maxSteps := 2000000) (disch := first | decide | omega | (simp only [List.length_append, List.length_cons, List.length_nil, List.length_take, List.length_drop]; omega)) only [hl', go_sem]; rfl) (h := ?_) | refine RunT.notA (h := ?_))); refine RunT.nil ?_; try simp only [InBlock, Then]) | ((first | refine Tri.seq (Tri.drwT (mixed) (cfgE1_ok.pins _) ?_) | refine Tri.drnT (mixed) (cfgE1_ok.pins _) ?_); (repeat (first | refine RunD.oneA (hp := by simp (maxSteps := 2000000) (disch := first | decide | omega | (simp only [List.length_append, List.length_cons, List.length_nil, List.length_take, List.length_drop]; omega)) only [hl', go_sem]; rfl) (h := ?_) | refine RunD.notA (h := ?_))); refine RunD.nil ?_; refine ⟨by kernel_rfl, ?_⟩; try simp only [InBlock, Then]) | refine Tri.cF (by first | (simp only [hl', go_sem]; done) | fail) ?_ | refine Tri.cT (by first | (simp only [hl', go_sem]; done) | fail) ?_ | (refine Tri.skip ?_; try simp only [InBlock, Then]) | (refine Tri.exit ?_; simp only [Then, InBlock, if_true, if_false, ↓reduceIte, Nat.reduceEqDiff]) | refine Tri.seq (Tri.block ?_) | refine Tri.block ?_ | refine Tri.seq ?_ | (refine Tri.ret ?_; refine Con.fin (.inl rfl) (by simp only [Tryd.f26, cfgE1, resA, resA1, go_sem]; rfl) (by simp only [Obs, and_true, true_and]) (by first | (simp only [kEq, Con.of, Con.ofO, resV, hl', go_sem]; done) | fail) trivial rfl rfl))
    refine Tri.loop (fun i : Nat => (⟨[some (.pure (.slice false (.int .u8)) a), some (.pure (.slice false (.int .u8)) b), none, none, none, some (.int .u8 (dfI a b i)), none, none, none, none, none, none, none, some (.pure (.slice false (.int .u8)) a), some (.int .i64 (a.length : Int)), some (.int .i64 (i : Int))] ++ List.replicate 15 none, []⟩ : AS)) (fun i => i ≤ a.length) (fun i => a.length - i) 0 ?_ (Nat.zero_le _) ?_
    · refine Wk.of ?_ ?_ rfl rfl
      · simp only [lessTs, List.reduceReplicate, List.cons_append, List.nil_append, dfI] <;> ((repeat' apply And.intro) <;> first | with_reducible rfl | exact True.intro | exact congrArg (fun z : Int => some (AV.int IntKind.i64 z)) (show (_ : Int) = _ by omega) | exact congrArg (fun z : Nat => some (AV.tsl _ _ _ _ _ z)) (show (_ : Nat) = _ by omega) | exact arrEq (by omega) (by with_reducible rfl))
      · simp only [lessHs, dfI] <;> ((repeat' apply And.intro) <;> first | with_reducible rfl | exact True.intro | exact congrArg (fun z : Int => some (AV.int IntKind.i64 z)) (show (_ : Int) = _ by omega) | exact congrArg (fun z : Nat => some (AV.tsl _ _ _ _ _ z)) (show (_ : Nat) = _ by omega) | exact arrEq (by omega) (by with_reducible rfl))
    · intro i hi
      generalize hD : dfI a b i = D
      by_cases h1 : i < a.length
      · have h1' : decide ((i : Int) < (a.length : Int)) = true := decide_eq_true (by omega)
        refine Tri.at (by first | (simp only [h1', Con.start, go_sem]; rfl) | rfl) ?_
        repeat (first | ((first | refine Tri.seq (Tri.regT (cfgE1_ok.pins _) ?_) | refine Tri.rgnT (cfgE1_ok.pins _) ?_); (repeat (first | refine RunT.oneA (hp := by simp (maxSteps := 2000000) (disch := first | decide | omega | (simp only [List.length_append, List.length_cons, List.length_nil, List.length_take, List.length_drop]; omega)) only [h1', go_sem]; rfl) (h := ?_) | refine RunT.notA (h := ?_))); refine RunT.nil ?_; try simp only [InBlock, Then]) | ((first | refine Tri.seq (Tri.drwT (mixed) (cfgE1_ok.pins _) ?_) | refine Tri.drnT (mixed) (cfgE1_ok.pins _) ?_); (repeat (first | refine RunD.oneA (hp := by simp (maxSteps := 2000000) (disch := first | decide | omega | (simp only [List.length_append, List.length_cons, List.length_nil, List.length_take, List.length_drop]; omega)) only [h1', go_sem]; rfl) (h := ?_) | refine RunD.notA (h := ?_))); refine RunD.nil ?_; refine ⟨by kernel_rfl, ?_⟩; try simp only [InBlock, Then]) | refine Tri.cF (by first | (simp only [h1', go_sem]; done) | fail) ?_ | refine Tri.cT (by first | (simp only [h1', go_sem]; done) | fail) ?_ | (refine Tri.skip ?_; try simp only [InBlock, Then]) | (refine Tri.exit ?_; simp only [Then, InBlock, if_true, if_false, ↓reduceIte, Nat.reduceEqDiff]) | refine Tri.seq (Tri.block ?_) | refine Tri.block ?_ | refine Tri.seq ?_ | (refine Tri.ret ?_; refine Con.fin (.inl rfl) (by simp only [Tryd.f26, cfgE1, resA, resA1, go_sem]; rfl) (by simp only [Obs, and_true, true_and]) (by first | (simp only [kEq, Con.of, Con.ofO, resV, h1', go_sem]; done) | fail) trivial rfl rfl))
        refine ⟨i+1, (by omega), (by omega), Wk.of ?_ ?_ rfl rfl⟩
        · simp only [lessTs, List.reduceReplicate, List.cons_append, List.nil_append, dfI, hD] <;> ((repeat' apply And.intro) <;> first | with_reducible rfl | exact True.intro | exact congrArg (fun z : Int => some (AV.int IntKind.i64 z)) (show (_ : Int) = _ by omega) | exact congrArg (fun z : Nat => some (AV.tsl _ _ _ _ _ z)) (show (_ : Nat) = _ by omega) | exact arrEq (by omega) (by with_reducible rfl))
        · simp only [lessHs, dfI, hD] <;> ((repeat' apply And.intro) <;> first | with_reducible rfl | exact True.intro | exact congrArg (fun z : Int => some (AV.int IntKind.i64 z)) (show (_ : Int) = _ by omega) | exact congrArg (fun z : Nat => some (AV.tsl _ _ _ _ _ z)) (show (_ : Nat) = _ by omega) | exact arrEq (by omega) (by with_reducible rfl))
      · have h1' : decide ((i : Int) < (a.length : Int)) = false := decide_eq_false (by omega)
        have hD0 : decide (D = 0) = strEq a b := by rw [← dfI_eq hl, ← hD, show i = a.length by omega]
        refine Tri.at (by first | (simp only [h1', hD0, Con.start, go_sem]; rfl) | rfl) ?_
        repeat (first | ((first | refine Tri.seq (Tri.regT (cfgE1_ok.pins _) ?_) | refine Tri.rgnT (cfgE1_ok.pins _) ?_); (repeat (first | refine RunT.oneA (hp := by simp (maxSteps := 2000000) (disch := first | decide | omega | (simp only [List.length_append, List.length_cons, List.length_nil, List.length_take, List.length_drop]; omega)) only [h1', hD0, go_sem]; rfl) (h := ?_) | refine RunT.notA (h := ?_))); refine RunT.nil ?_; try simp only [InBlock, Then]) | ((first | refine Tri.seq (Tri.drwT (mixed) (cfgE1_ok.pins _) ?_) | refine Tri.drnT (mixed) (cfgE1_ok.pins _) ?_); (repeat (first | refine RunD.oneA (hp := by simp (maxSteps := 2000000) (disch := first | decide | omega | (simp only [List.length_append, List.length_cons, List.length_nil, List.length_take, List.length_drop]; omega)) only [h1', hD0, go_sem]; rfl) (h := ?_) | refine RunD.notA (h := ?_))); refine RunD.nil ?_; refine ⟨by kernel_rfl, ?_⟩; try simp only [InBlock, Then]) | refine Tri.cF (by first | (simp only [h1', hD0, go_sem]; done) | fail) ?_ | refine Tri.cT (by first | (simp only [h1', hD0, go_sem]; done) | fail) ?_ | (refine Tri.skip ?_; try simp only [InBlock, Then]) | (refine Tri.exit ?_; simp only [Then, InBlock, if_true, if_false, ↓reduceIte, Nat.reduceEqDiff]) | refine Tri.seq (Tri.block ?_) | refine Tri.block ?_ | refine Tri.seq ?_ | (refine Tri.ret ?_; refine Con.fin (.inl rfl) (by simp only [Tryd.f26, cfgE1, resA, resA1, go_sem]; rfl) (by simp only [Obs, and_true, true_and]) (by first | (simp only [kEq, Con.of, Con.ofO, resV, h1', hD0, go_sem]; done) | fail) trivial rfl rfl))
  · have hl' : decide ((a.length : Int) = (b.length : Int)) = false := decide_eq_false (by omega)
    have hs : strEq a b = false := decide_eq_false fun e => hl (by rw [e])
    refine Tri.at (by first | (simp only [hl', hs, Con.start, go_sem]; rfl) | rfl) ?_
    repeat (first | ((first | refine Tri.seq (Tri.regT (cfgE1_ok.pins _) ?_) | refine Tri.rgnT (cfgE1_ok.pins _) ?_); (repeat (first | refine RunT.oneA (hp := by simp (maxSteps := 2000000) (disch := first | decide | omega | (simp only [List.length_append, List.length_cons, List.length_nil, List.length_take, List.length_drop]; omega)) only [hl', hs, go_sem]; rfl) (h := ?_) | refine RunT.notA (h := ?_))); refine RunT.nil ?_; try simp only [InBlock, Then]) | ((first | refine Tri.seq (Tri.drwT (mixed) (cfgE1_ok.pins _) ?_) | refine Tri.drnT (mixed) (cfgE1_ok.pins _) ?_); (repeat (first | refine RunD.oneA (hp := by simp (maxSteps := 2000000) (disch := first | decide | omega | (simp only [List.length_append, List.length_cons, List.length_nil, List.length_take, List.length_drop]; omega)) only [hl', hs, go_sem]; rfl) (h := ?_) | refine RunD.notA (h := ?_))); refine RunD.nil ?_; refine ⟨by kernel_rfl, ?_⟩; try simp only [InBlock, Then]) | refine Tri.cF (by first | (simp only [hl', hs, go_sem]; done) | fail) ?_ | refine Tri.cT (by first | (simp only [hl', hs, go_sem]; done) | fail) ?_ | (refine Tri.skip ?_; try simp only [InBlock, Then]) | (refine Tri.exit ?_; simp only [Then, InBlock, if_true, if_false, ↓reduceIte, Nat.reduceEqDiff]) | refine Tri.seq (Tri.block ?_) | refine Tri.block ?_ | refine Tri.seq ?_ | (refine Tri.ret ?_; refine Con.fin (.inl rfl) (by simp only [Tryd.f26, cfgE1, resA, resA1, go_sem]; rfl) (by simp only [Obs, and_true, true_and]) (by first | (simp only [kEq, Con.of, Con.ofO, resV, hl', hs, go_sem]; done) | fail) trivial rfl rfl))
theorem equal_sum : FSumOK Tryd.prog cfgE1.G 26 kEq.sum := Con.sumOK cfgE1_ok kEq Tryd.func26 rfl rfl (Con.of_inv _ _ _) equal_body
end Go.Proofs.YticgfjalikmniaaDoor

namespace Go.Proofs.YticgfjalikmniaaDoor.Ae
open Go.Vc Go.Proofs
set_option maxRecDepth 10000
def twice (b : UInt8) : UInt8 := if b &&& 128 = 0 then b <<< 1 else (b <<< 1) ^^^ 27
def kTwice : Con := Con.of [.v (.int .u8)] (fun _ => []) (fun x => ⟨.int .u8 (twice x.1), []⟩)
def cfgA : Cfg2 := { ty := tyTabS, fn := fun _ => none, G := shaG, pin := [], eq := fun _ => none }
theorem cfgA_ok : CfgOK Tryd.prog cfgA := ⟨tysSOK, (fun f s h => by cases h), (fun t d h => by cases h)⟩
theorem twice_body (p : kTwice.Par) : BodyOK Tryd.prog cfgA Tryd.f59 (Tryd.f59.body.get rfl) kTwice p := by
  obtain ⟨x, u⟩ := p
  refine ⟨?_, Nat.le_refl _, rfl, rfl⟩
  show Tri _ _ _ (Code.seq _ (Code.seq (Code.seq _ (Code.cond _ (Code.seq _ _) _)) (Code.seq _ _))) _
  refine Tri.seq (Tri.reg (cfgA_ok.pins _) (by simp only [Tryd.f59, kTwice, cfgA, tyTabS, go_sem]; rfl) (by simp only [Obs]) ?_)
  refine Tri.seq (Tri.seq (Tri.reg (cfgA_ok.pins _) (by simp only [Tryd.f59, kTwice, cfgA, tyTabS, go_sem]; rfl) (by simp only [Obs]) ?_))
  refine Tri.split (b := !decide (x &&& 128 = 0)) rfl (fun hb => ?_) (fun hb => ?_)
  · refine Tri.seq (Tri.reg (cfgA_ok.pins _) (by simp only [Tryd.f59, kTwice, cfgA, tyTabS, go_sem]; rfl) (by simp [Obs]) ?_)
    refine Tri.ret ?_
    refine Con.done (.inl rfl) (by simp only [Tryd.f59, resA, resA1, go_sem]; rfl) (by simp only [Obs]) ?_ (.nil _) rfl (fun id h => by cases h)
    ·
      have hb' : ¬ (x &&& 128 = 0) := by simpa using hb
      simp only [resV, kTwice, Con.of, twice, if_neg hb']
  · refine Tri.skp ?_
    refine Tri.seq (Tri.reg (cfgA_ok.pins _) (by simp only [Tryd.f59, kTwice, cfgA, tyTabS, go_sem]; rfl) (by simp [Obs]) ?_)
    refine Tri.ret ?_
    refine Con.done (.inl rfl) (by simp only [Tryd.f59, resA, resA1, go_sem]; rfl) (by simp only [Obs]) ?_ (.nil _) rfl (fun id h => by cases h)
    ·
      have hb' : (x &&& 128 = 0) := by simpa using hb
      simp only [resV, kTwice, Con.of, twice, if_pos hb']
theorem twice_sum : FSumOK Tryd.prog cfgA.G 59 kTwice.sum := Con.sumOK cfgA_ok kTwice Tryd.func59 rfl rfl (Con.of_inv _ _ _) fun p _ => twice_body p
end Go.Proofs.YticgfjalikmniaaDoor.Ae

namespace Go.Proofs.YticgfjalikmniaaDoor.Ae
open Go.Vc Go.Proofs
set_option maxRecDepth 10000
theorem mixed : Tryd.prog.follows .mixedOrders = true := by kernel_rfl
def turn (b : UInt8) (n : Int) : UInt8 := shlT .u8 b n.toNat ||| shrT .u8 b (8 - n).toNat
def kTurn : Con := Con.of [.v (.int .u8), .v (.int .i64)] (fun x => [0 ≤ toI .i64 x.2.1, toI .i64 x.2.1 ≤ 8]) (fun x => ⟨.int .u8 (turn x.1 x.2.1), []⟩)
theorem turn_body (p : kTurn.Par) (hp : ∀ q ∈ kTurn.pre p, q) : BodyOK Tryd.prog cfgA Tryd.f62 (Tryd.f62.body.get rfl) kTurn p := by
  obtain ⟨(x : UInt8), (n : Int), u⟩ := p
  obtain ⟨h1, h2, _⟩ := Obs.of hp
  replace h1 : (0 : Int) ≤ n := h1
  replace h2 : (n : Int) ≤ 8 := h2
  refine ⟨?_, Nat.le_refl _, rfl, rfl⟩
  show Tri _ _ _ (Code.seq _ (Code.seq _ _)) _
  refine Tri.seq (Tri.reg (cfgA_ok.pins _) (by simp (maxSteps := 2000000) (disch := first | decide | omega | (simp only [List.length_append, List.length_cons, List.length_nil, List.length_take, List.length_drop]; omega)) only [Tryd.f62, kTurn, cfgA, tyTabS, go_sem]; rfl) (by first | exact True.intro | (simp only [Obs, and_true, true_and]; omega) | (simp [Obs, AV.sizeL, AV.size, Kd.sz]; done) | (simp [Obs, AV.sizeL, AV.size, Kd.sz]; omega)) ?_)
  refine Tri.seq (Tri.drw (mixed) (cfgA_ok.pins _) (by simp (maxSteps := 2000000) (disch := first | decide | omega | (simp only [List.length_append, List.length_cons, List.length_nil, List.length_take, List.length_drop]; omega)) only [Tryd.f62, kTurn, cfgA, tyTabS, go_sem]; rfl) (by first | exact True.intro | (simp only [Obs, and_true, true_and]; omega) | (simp [Obs, AV.sizeL, AV.size, Kd.sz]; done) | (simp [Obs, AV.sizeL, AV.size, Kd.sz]; omega)) (by kernel_rfl) ?_)
  refine Tri.ret ?_
  refine Con.fin (.inl rfl) (by simp only [Tryd.f62, resA, resA1, go_sem]; rfl) (by trivial) ?_ trivial rfl rfl
  rfl
theorem turn_sum : FSumOK Tryd.prog cfgA.G 62 kTurn.sum := Con.sumOK cfgA_ok kTurn Tryd.func62 rfl rfl (Con.of_inv _ _ _) turn_body
end Go.Proofs.YticgfjalikmniaaDoor.Ae

namespace Go.Proofs.YticgfjalikmniaaDoor.Ae
open Go.Vc Go.Proofs
set_option maxRecDepth 10000
set_option maxHeartbeats 2000000
def cfgB : Cfg2 := { ty := tyTabS, fn := fun | 59 => some kTwice.sum | 62 => some kTurn.sum | _ => none, G := shaG, pin := [], eq := fun _ => none }
theorem cfgB_ok : CfgOK Tryd.prog cfgB := ⟨tysSOK, (fun f s h => by
  simp only [cfgB] at h
  split at h
  · injection h with h; subst h; exact .inl twice_sum
  · injection h with h; subst h; exact .inl turn_sum
  · cases h), (fun t d h => by cases h)⟩
def boxQ (q : UInt8) : UInt8 :=
  let a := q ^^^ q <<< 1
  let b := a ^^^ a <<< 2
  let c := b ^^^ b <<< 4
  if c &&& 128 = 0 then c else c ^^^ 9
def boxV (q : UInt8) : UInt8 := q ^^^ turn q 1 ^^^ turn q 2 ^^^ turn q 3 ^^^ turn q 4 ^^^ 99
def boxI (box : List UInt8) : Nat → UInt8 × UInt8 × List UInt8
  | 0 => (1, 1, box.set 0 99)
  | k + 1 => let s := boxI box k; (s.1 ^^^ twice s.1, boxQ s.2.1, s.2.2.set (s.1 ^^^ twice s.1).toNat (boxV (boxQ s.2.1)))
def kBoxes : Con := Con.of [.p cipK] (fun _ => []) (fun x => ⟨.tuple [], [.pure cipK ((boxI x.1.1 255).2.2, x.1.2)]⟩)
theorem boxes_body (p : kBoxes.Par) (hp : ∀ q ∈ kBoxes.pre p, q) : BodyOK Tryd.prog cfgB Tryd.f58 (Tryd.f58.body.get rfl) kBoxes p := by
  obtain ⟨⟨(box : List UInt8), (keys : a44.T × Unit)⟩, u⟩ := p
  refine ⟨?_, Nat.le_refl _, rfl, rfl⟩
  show Tri _ _ _ (Code.seq _ (Code.seq _ (Code.seq _ (Code.block _ (Code.loop (Code.seq _ (Code.seq (Code.cond _ _ _) (Code.seq (Code.block _ _) _)))))))) _
  refine Tri.seq (Tri.reg (cfgB_ok.pins _) (by simp (maxSteps := 2000000) (disch := first | decide | omega | (simp only [List.length_append, List.length_cons, List.length_nil, List.length_take, List.length_drop]; omega)) only [Tryd.f58, kBoxes, kTwice, kTurn, cfgB, tyTabS, cipK, go_sem]; rfl) (by first | exact True.intro | (simp only [Obs, and_true, true_and]; omega) | (simp [Obs, AV.sizeL, AV.size, Kd.sz]; done) | (simp [Obs, AV.sizeL, AV.size, Kd.sz]; omega)) ?_)
  refine Tri.seq (Tri.reg (cfgB_ok.pins _) (by simp (maxSteps := 2000000) (disch := first | decide | omega | (simp only [List.length_append, List.length_cons, List.length_nil, List.length_take, List.length_drop]; omega)) only [Tryd.f58, kBoxes, kTwice, kTurn, cfgB, tyTabS, cipK, go_sem]; rfl) (by first | exact True.intro | (simp only [Obs, and_true, true_and]; omega) | (simp [Obs, AV.sizeL, AV.size, Kd.sz]; done) | (simp [Obs, AV.sizeL, AV.size, Kd.sz]; omega)) ?_)
  refine Tri.seq (Tri.reg (cfgB_ok.pins _) (by simp (maxSteps := 2000000) (disch := first | decide | omega | (simp only [List.length_append, List.length_cons, List.length_nil, List.length_take, List.length_drop]; omega)) only [Tryd.f58, kBoxes, kTwice, kTurn, cfgB, tyTabS, cipK, go_sem]; rfl) (by first | exact True.intro | (simp only [Obs, and_true, true_and]; omega) | (simp [Obs, AV.sizeL, AV.size, Kd.sz]; done) | (simp [Obs, AV.sizeL, AV.size, Kd.sz]; omega)) ?_)
  refine Tri.block ?_
  refine Tri.loop (fun k : Nat => (⟨[some (.ptr 0 [] 0), none, some (.int .u8 (boxI box k).1), some (.int .u8 (boxI box k).2.1), none, none, none, none, some (.int .i64 (k : Int))] ++ List.replicate 42 none, [.live (.pure cipK ((boxI box k).2.2, keys))]⟩ : AS)) (· ≤ 255) (fun k => 255 - k) 0 ?_ (Nat.zero_le _) ?_
  · refine Wk.of ?_ ?_ rfl rfl
    · simp only [lessTs, List.reduceReplicate, List.cons_append, List.nil_append] <;> ((repeat' apply And.intro) <;> first | rfl | trivial)
    · simp only [lessHs, boxI]
      trivial
  · intro k hk
    show Tri _ _ _ (Code.seq _ (Code.seq (Code.cond _ _ _) (Code.seq (Code.block _ (Code.seq _ (Code.seq _ (Code.seq _ (Code.seq _ (Code.seq (Code.seq _ (Code.cond _ _ _)) _)))))) _))) _
    refine Tri.seq (Tri.reg (cfgB_ok.pins _) (by simp (maxSteps := 2000000) (disch := first | decide | omega | (simp only [List.length_append, List.length_cons, List.length_nil, List.length_take, List.length_drop]; omega)) only [Tryd.f58, kBoxes, kTwice, kTurn, cfgB, tyTabS, cipK, go_sem]; rfl) (by first | exact True.intro | (simp only [Obs, and_true, true_and]; omega) | (simp [Obs, AV.sizeL, AV.size, Kd.sz]; done) | (simp [Obs, AV.sizeL, AV.size, Kd.sz]; omega)) ?_)
    refine Tri.seq ?_
    refine Tri.split (by simp only [AS.ev, go_sem]; rfl) (fun hc => ?_) (fun hc => ?_)
    · refine Tri.skp ?_
      refine Tri.seq (Tri.block ?_)
      refine Tri.seq (Tri.reg (cfgB_ok.pins _) (by simp (maxSteps := 2000000) (disch := first | decide | omega | (simp only [List.length_append, List.length_cons, List.length_nil, List.length_take, List.length_drop]; omega)) only [Tryd.f58, kBoxes, kTwice, kTurn, cfgB, tyTabS, cipK, go_sem]; rfl) (by first | exact True.intro | (simp only [Obs, and_true, true_and]; omega) | (simp [Obs, AV.sizeL, AV.size, Kd.sz]; done) | (simp [Obs, AV.sizeL, AV.size, Kd.sz]; omega)) ?_)
      refine Tri.seq (Tri.reg (cfgB_ok.pins _) (by simp (maxSteps := 2000000) (disch := first | decide | omega | (simp only [List.length_append, List.length_cons, List.length_nil, List.length_take, List.length_drop]; omega)) only [Tryd.f58, kBoxes, kTwice, kTurn, cfgB, tyTabS, cipK, go_sem]; rfl) (by first | exact True.intro | (simp only [Obs, and_true, true_and]; omega) | (simp [Obs, AV.sizeL, AV.size, Kd.sz]; done) | (simp [Obs, AV.sizeL, AV.size, Kd.sz]; omega)) ?_)
      refine Tri.seq (Tri.reg (cfgB_ok.pins _) (by simp (maxSteps := 2000000) (disch := first | decide | omega | (simp only [List.length_append, List.length_cons, List.length_nil, List.length_take, List.length_drop]; omega)) only [Tryd.f58, kBoxes, kTwice, kTurn, cfgB, tyTabS, cipK, go_sem]; rfl) (by first | exact True.intro | (simp only [Obs, and_true, true_and]; omega) | (simp [Obs, AV.sizeL, AV.size, Kd.sz]; done) | (simp [Obs, AV.sizeL, AV.size, Kd.sz]; omega)) ?_)
      refine Tri.seq (Tri.reg (cfgB_ok.pins _) (by simp (maxSteps := 2000000) (disch := first | decide | omega | (simp only [List.length_append, List.length_cons, List.length_nil, List.length_take, List.length_drop]; omega)) only [Tryd.f58, kBoxes, kTwice, kTurn, cfgB, tyTabS, cipK, go_sem]; rfl) (by first | exact True.intro | (simp only [Obs, and_true, true_and]; omega) | (simp [Obs, AV.sizeL, AV.size, Kd.sz]; done) | (simp [Obs, AV.sizeL, AV.size, Kd.sz]; omega)) ?_)
      refine Tri.seq ?_
      refine Tri.seq (Tri.reg (cfgB_ok.pins _) (by simp (maxSteps := 2000000) (disch := first | decide | omega | (simp only [List.length_append, List.length_cons, List.length_nil, List.length_take, List.length_drop]; omega)) only [Tryd.f58, kBoxes, kTwice, kTurn, cfgB, tyTabS, cipK, go_sem]; rfl) (by first | exact True.intro | (simp only [Obs, and_true, true_and]; omega) | (simp [Obs, AV.sizeL, AV.size, Kd.sz]; done) | (simp [Obs, AV.sizeL, AV.size, Kd.sz]; omega)) ?_)
      refine Tri.split (by simp only [AS.ev, go_sem]; rfl) (fun hd => ?_) (fun hd => ?_)
      · refine (Tri.rgn (cfgB_ok.pins _) (by simp (maxSteps := 2000000) (disch := first | decide | omega | (simp only [List.length_append, List.length_cons, List.length_nil, List.length_take, List.length_drop]; omega)) only [Tryd.f58, kBoxes, kTwice, kTurn, cfgB, tyTabS, cipK, go_sem]; rfl) (by first | exact True.intro | (simp only [Obs, and_true, true_and]; omega) | (simp [Obs, AV.sizeL, AV.size, Kd.sz]; done) | (simp [Obs, AV.sizeL, AV.size, Kd.sz]; omega)) ?_)
        try simp only [InBlock, Then]
        have hlt := UInt8.toNat_lt ((boxI box k).1 ^^^ twice (boxI box k).1)
        refine (Tri.drn (mixed) (cfgB_ok.pins _) (by simp (maxSteps := 2000000) (disch := first | decide | omega | (simp only [List.length_append, List.length_cons, List.length_nil, List.length_take, List.length_drop]; omega)) only [Tryd.f58, kBoxes, kTwice, kTurn, cfgB, tyTabS, cipK, go_sem]; rfl) (by (simp only [Obs, and_true, true_and]; exact ⟨Int.natCast_nonneg _, Int.ofNat_lt.2 hlt, hlt⟩)) (by kernel_rfl) ?_)
        try simp only [InBlock, Then]
        refine (Tri.rgn (cfgB_ok.pins _) (by simp (maxSteps := 2000000) (disch := first | decide | omega | (simp only [List.length_append, List.length_cons, List.length_nil, List.length_take, List.length_drop]; omega)) only [Tryd.f58, kBoxes, kTwice, kTurn, cfgB, tyTabS, cipK, go_sem]; rfl) (by first | exact True.intro | (simp only [Obs, and_true, true_and]; omega) | (simp [Obs, AV.sizeL, AV.size, Kd.sz]; done) | (simp [Obs, AV.sizeL, AV.size, Kd.sz]; omega)) ?_)
        try simp only [InBlock, Then]
        have hd' := hd
        simp only [Bool.not_eq_true', decide_eq_false_iff_not] at hd'
        have hc' : (k : Int) < 255 := by simpa using hc
        refine ⟨k + 1, (by omega), (by omega), Wk.of ?_ ?_ rfl rfl⟩
        · simp only [lessTs, List.reduceReplicate, List.cons_append, List.nil_append, boxI, boxQ, if_neg hd'] <;> ((repeat' apply And.intro) <;> first | rfl | trivial)
        · simp only [lessHs, boxI, boxQ, boxV, if_neg hd'] <;> ((repeat' apply And.intro) <;> first | rfl | trivial)
      · refine Tri.skp ?_
        have hlt := UInt8.toNat_lt ((boxI box k).1 ^^^ twice (boxI box k).1)
        refine (Tri.drn (mixed) (cfgB_ok.pins _) (by simp (maxSteps := 2000000) (disch := first | decide | omega | (simp only [List.length_append, List.length_cons, List.length_nil, List.length_take, List.length_drop]; omega)) only [Tryd.f58, kBoxes, kTwice, kTurn, cfgB, tyTabS, cipK, go_sem]; rfl) (by (simp only [Obs, and_true, true_and]; exact ⟨Int.natCast_nonneg _, Int.ofNat_lt.2 hlt, hlt⟩)) (by kernel_rfl) ?_)
        try simp only [InBlock, Then]
        refine (Tri.rgn (cfgB_ok.pins _) (by simp (maxSteps := 2000000) (disch := first | decide | omega | (simp only [List.length_append, List.length_cons, List.length_nil, List.length_take, List.length_drop]; omega)) only [Tryd.f58, kBoxes, kTwice, kTurn, cfgB, tyTabS, cipK, go_sem]; rfl) (by first | exact True.intro | (simp only [Obs, and_true, true_and]; omega) | (simp [Obs, AV.sizeL, AV.size, Kd.sz]; done) | (simp [Obs, AV.sizeL, AV.size, Kd.sz]; omega)) ?_)
        try simp only [InBlock, Then]
        have hd' := hd
        simp only [Bool.not_eq_false', decide_eq_true_eq] at hd'
        have hc' : (k : Int) < 255 := by simpa using hc
        refine ⟨k + 1, (by omega), (by omega), Wk.of ?_ ?_ rfl rfl⟩
        · simp only [lessTs, List.reduceReplicate, List.cons_append, List.nil_append, boxI, boxQ, if_pos hd'] <;> ((repeat' apply And.intro) <;> first | rfl | trivial)
        · simp only [lessHs, boxI, boxQ, boxV, if_pos hd'] <;> ((repeat' apply And.intro) <;> first | rfl | trivial)
    · refine Tri.exit ?_
      show Con.post _ _ _ _ _ _
      have hc' : k = 255 := by
        have : ¬ ((k : Int) < 255) := by simpa using hc
        omega
      subst hc'
      refine Con.fin (.inr rfl) (by simp only [Tryd.f58, resA, resA1, go_sem]; rfl) (by trivial) rfl ?_ rfl rfl
      simp only [lessHs, kBoxes, Con.of, List.map] <;> ((repeat' apply And.intro) <;> first | rfl | trivial)
theorem boxes_sum : FSumOK Tryd.prog cfgB.G 58 kBoxes.sum := Con.sumOK cfgB_ok kBoxes Tryd.func58 rfl rfl (Con.of_inv _ _ _) boxes_body
end Go.Proofs.YticgfjalikmniaaDoor.Ae

namespace Go.Proofs.YticgfjalikmniaaDoor.Ae
open Go.Vc Go.Proofs
set_option maxRecDepth 10000
set_option maxHeartbeats 2000000
def addI (keys : List (List UInt8)) (r : Nat) (s : List UInt8) : Nat → List UInt8
  | 0 => s
  | k + 1 => (addI keys r s k).set k ((addI keys r s k).getD k 0 ^^^ (keys.getD (4 * r + k / 4) (Kd.dflt a4)).getD (k % 4) 0)
def kAdd : Con := Con.of [.p cipK, .p a16, .v (.int .i64)] (fun x => [0 ≤ toI .i64 x.2.2.1, toI .i64 x.2.2.1 ≤ 10]) (fun x => ⟨.tuple [], [.pure cipK x.1, .pure a16 (addI x.1.2.1 (Int.toNat x.2.2.1) x.2.1 16)]⟩)
theorem add_body (p : kAdd.Par) (hp : ∀ q ∈ kAdd.pre p, q) : BodyOK Tryd.prog cfgA Tryd.f63 (Tryd.f63.body.get rfl) kAdd p := by
  obtain ⟨⟨(box : List UInt8), (keys : List (List UInt8)), u1⟩, (s : List UInt8), (n : Int), u⟩ := p
  obtain ⟨h1, h2, _⟩ := Obs.of hp
  replace h1 : (0 : Int) ≤ n := h1
  replace h2 : (n : Int) ≤ 10 := h2
  obtain ⟨r, rfl⟩ := Int.eq_ofNat_of_zero_le h1
  refine ⟨?_, Nat.le_refl _, rfl, rfl⟩
  show Tri _ _ _ (Code.seq _ (Code.block _ (Code.loop (Code.seq _ (Code.seq (Code.cond _ _ _) (Code.seq (Code.block _ (Code.seq _ _)) _)))))) _
  refine Tri.seq (Tri.reg (cfgA_ok.pins _) (by simp (maxSteps := 2000000) (disch := first | decide | omega | (simp only [List.length_append, List.length_cons, List.length_nil, List.length_take, List.length_drop]; omega)) only [Tryd.f63, kAdd, cfgA, tyTabS, go_sem]; rfl) (by first | exact True.intro | (simp only [Obs, and_true, true_and]; omega) | (simp [Obs, AV.sizeL, AV.size, Kd.sz]; done) | (simp [Obs, AV.sizeL, AV.size, Kd.sz]; omega)) ?_)
  refine Tri.block ?_
  refine Tri.loop (fun k : Nat => (⟨[some (.ptr 0 [] 0), some (.ptr 1 [] 0), some (.int .i64 (r : Int)), none, none, none, none, some (.int .i64 (k : Int))] ++ List.replicate 24 none, [.live (.pure cipK (box, keys, u1)), .live (.pure a16 (addI keys r s k))]⟩ : AS)) (· ≤ 16) (fun k => 16 - k) 0 ?_ (Nat.zero_le _) ?_
  · refine Wk.of ?_ ?_ rfl rfl
    · simp only [lessTs, List.reduceReplicate, List.cons_append, List.nil_append] <;> ((repeat' apply And.intro) <;> first | rfl | trivial)
    · simp only [lessHs, addI] <;> ((repeat' apply And.intro) <;> first | rfl | trivial)
  · intro k hk
    refine Tri.seq (Tri.reg (cfgA_ok.pins _) (by simp (maxSteps := 2000000) (disch := first | decide | omega | (simp only [List.length_append, List.length_cons, List.length_nil, List.length_take, List.length_drop]; omega)) only [Tryd.f63, kAdd, cfgA, tyTabS, go_sem]; rfl) (by first | exact True.intro | (simp only [Obs, and_true, true_and]; omega) | (simp [Obs, AV.sizeL, AV.size, Kd.sz]; done) | (simp [Obs, AV.sizeL, AV.size, Kd.sz]; omega)) ?_)
    refine Tri.seq ?_
    refine Tri.split (by simp only [AS.ev, go_sem]; rfl) (fun hc => ?_) (fun hc => ?_)
    · have hc' : k < 16 := by
        have : (k : Int) < 16 := by simpa using hc
        omega
      refine Tri.skp ?_
      refine Tri.seq (Tri.block ?_)
      refine Tri.seq (Tri.reg (cfgA_ok.pins _) (by simp (maxSteps := 2000000) (disch := first | decide | omega | (simp only [List.length_append, List.length_cons, List.length_nil, List.length_take, List.length_drop]; omega)) only [Tryd.f63, kAdd, cfgA, tyTabS, go_sem]; rfl) (by first | exact True.intro | (simp only [Obs, and_true, true_and]; omega) | (simp [Obs, AV.sizeL, AV.size, Kd.sz]; done) | (simp [Obs, AV.sizeL, AV.size, Kd.sz]; omega)) ?_)
      refine (Tri.drn (mixed) (cfgA_ok.pins _) (by simp (maxSteps := 2000000) (disch := first | decide | omega | (simp only [List.length_append, List.length_cons, List.length_nil, List.length_take, List.length_drop]; omega)) only [Tryd.f63, kAdd, cfgA, tyTabS, go_sem]; rfl) (by first | exact True.intro | (simp only [Obs, and_true, true_and]; omega) | (simp [Obs, AV.sizeL, AV.size, Kd.sz]; done) | (simp [Obs, AV.sizeL, AV.size, Kd.sz]; omega)) (by kernel_rfl) ?_)
      try simp only [InBlock, Then]
      refine (Tri.rgn (cfgA_ok.pins _) (by simp (maxSteps := 2000000) (disch := first | decide | omega | (simp only [List.length_append, List.length_cons, List.length_nil, List.length_take, List.length_drop]; omega)) only [Tryd.f63, kAdd, cfgA, tyTabS, go_sem]; rfl) (by first | exact True.intro | (simp only [Obs, and_true, true_and]; omega) | (simp [Obs, AV.sizeL, AV.size, Kd.sz]; done) | (simp [Obs, AV.sizeL, AV.size, Kd.sz]; omega)) ?_)
      try simp only [InBlock, Then]
      refine ⟨k + 1, (by omega), (by omega), Wk.of ?_ ?_ rfl rfl⟩
      · simp only [lessTs, List.reduceReplicate, List.cons_append, List.nil_append] <;> ((repeat' apply And.intro) <;> first | rfl | trivial)
      · simp only [lessHs, addI] <;> ((repeat' apply And.intro) <;> first | rfl | trivial)
    · refine Tri.exit ?_
      show Con.post _ _ _ _ _ _
      have hc' : k = 16 := by
        have : ¬ ((k : Int) < 16) := by simpa using hc
        omega
      subst hc'
      refine Con.fin (.inr rfl) (by simp only [Tryd.f63, resA, resA1, go_sem]; rfl) (by trivial) rfl ?_ rfl rfl
      simp only [lessHs, kAdd, Con.of, List.map] <;> ((repeat' apply And.intro) <;> first | rfl | trivial)
theorem add_sum : FSumOK Tryd.prog cfgA.G 63 kAdd.sum := Con.sumOK cfgA_ok kAdd Tryd.func63 rfl rfl (Con.of_inv _ _ _) add_body
end Go.Proofs.YticgfjalikmniaaDoor.Ae

namespace Go.Proofs.YticgfjalikmniaaDoor.Ae
open Go.Vc Go.Proofs
set_option maxRecDepth 10000
set_option maxHeartbeats 2000000
def shI (box old : List UInt8) : Nat → List UInt8
  | 0 => old
  | k + 1 => (shI box old k).set k (box.getD (old.getD ((k + 4 * (k % 4)) % 16) 0).toNat 0)
def kShift : Con := Con.of [.p cipK, .p a16] (fun _ => []) (fun x => ⟨.tuple [], [.pure cipK x.1, .pure a16 (shI x.1.1 x.2.1 16)]⟩)
theorem shift_body (p : kShift.Par) (hp : ∀ q ∈ kShift.pre p, q) : BodyOK Tryd.prog cfgA Tryd.f64 (Tryd.f64.body.get rfl) kShift p := by
  obtain ⟨⟨(box : List UInt8), (keys : List (List UInt8)), u1⟩, (s : List UInt8), u⟩ := p
  refine ⟨?_, Nat.le_refl _, rfl, rfl⟩
  show Tri _ _ _ (Code.seq _ (Code.seq _ (Code.block _ (Code.loop (Code.seq _ (Code.seq (Code.cond _ _ _) (Code.seq (Code.block _ (Code.seq _ _)) _))))))) _
  refine Tri.seq (Tri.reg (cfgA_ok.pins _) (by simp (maxSteps := 2000000) (disch := first | decide | omega | (simp only [List.length_append, List.length_cons, List.length_nil, List.length_take, List.length_drop]; omega)) only [Tryd.f64, kShift, cfgA, tyTabS, go_sem]; rfl) (by first | exact True.intro | (simp only [Obs, and_true, true_and]; omega) | (simp [Obs, AV.sizeL, AV.size, Kd.sz]; done) | (simp [Obs, AV.sizeL, AV.size, Kd.sz]; omega)) ?_)
  refine Tri.seq (Tri.reg (cfgA_ok.pins _) (by simp (maxSteps := 2000000) (disch := first | decide | omega | (simp only [List.length_append, List.length_cons, List.length_nil, List.length_take, List.length_drop]; omega)) only [Tryd.f64, kShift, cfgA, tyTabS, go_sem]; rfl) (by first | exact True.intro | (simp only [Obs, and_true, true_and]; omega) | (simp [Obs, AV.sizeL, AV.size, Kd.sz]; done) | (simp [Obs, AV.sizeL, AV.size, Kd.sz]; omega)) ?_)
  refine Tri.block ?_
  refine Tri.loop (fun k : Nat => (⟨[some (.ptr 0 [] 0), some (.ptr 1 [] 0), none, none, some (.ptr 2 [] 0), none, none, none, none, some (.int .i64 (k : Int))] ++ List.replicate 20 none, [.live (.pure cipK (box, keys, u1)), .live (.pure a16 (shI box s k)), .live (.pure a16 s)]⟩ : AS)) (· ≤ 16) (fun k => 16 - k) 0 ?_ (Nat.zero_le _) ?_
  · refine Wk.of ?_ ?_ rfl rfl
    · simp only [lessTs, List.reduceReplicate, List.cons_append, List.nil_append] <;> ((repeat' apply And.intro) <;> first | rfl | trivial)
    · simp only [lessHs, shI] <;> ((repeat' apply And.intro) <;> first | rfl | trivial)
  · intro k hk
    refine Tri.seq (Tri.reg (cfgA_ok.pins _) (by simp (maxSteps := 2000000) (disch := first | decide | omega | (simp only [List.length_append, List.length_cons, List.length_nil, List.length_take, List.length_drop]; omega)) only [Tryd.f64, kShift, cfgA, tyTabS, go_sem]; rfl) (by first | exact True.intro | (simp only [Obs, and_true, true_and]; omega) | (simp [Obs, AV.sizeL, AV.size, Kd.sz]; done) | (simp [Obs, AV.sizeL, AV.size, Kd.sz]; omega)) ?_)
    refine Tri.seq ?_
    refine Tri.split (by simp only [AS.ev, go_sem]; rfl) (fun hc => ?_) (fun hc => ?_)
    · have hc' : k < 16 := by
        have : (k : Int) < 16 := by simpa using hc
        omega
      refine Tri.skp ?_
      refine Tri.seq (Tri.block ?_)
      refine Tri.seq (Tri.reg (cfgA_ok.pins _) (by simp (maxSteps := 2000000) (disch := first | decide | omega | (simp only [List.length_append, List.length_cons, List.length_nil, List.length_take, List.length_drop]; omega)) only [Tryd.f64, kShift, cfgA, tyTabS, go_sem]; rfl) (by first | exact True.intro | (simp only [Obs, and_true, true_and]; omega) | (simp [Obs, AV.sizeL, AV.size, Kd.sz]; done) | (simp [Obs, AV.sizeL, AV.size, Kd.sz]; omega)) ?_)
      have hlt := UInt8.toNat_lt (s.getD ((k + 4 * (k % 4)) % 16) 0)
      refine (Tri.drn (mixed) (cfgA_ok.pins _) (by simp (maxSteps := 2000000) (disch := first | decide | omega | (simp only [List.length_append, List.length_cons, List.length_nil, List.length_take, List.length_drop]; omega)) only [Tryd.f64, kShift, cfgA, tyTabS, go_sem]; rfl) (by (simp only [Obs, and_true, true_and]; generalize hz : (s.getD ((k + 4 * (k % 4)) % 16) 0).toNat = z at *; omega)) (by kernel_rfl) ?_)
      try simp only [InBlock, Then]
      refine (Tri.rgn (cfgA_ok.pins _) (by simp (maxSteps := 2000000) (disch := first | decide | omega | (simp only [List.length_append, List.length_cons, List.length_nil, List.length_take, List.length_drop]; omega)) only [Tryd.f64, kShift, cfgA, tyTabS, go_sem]; rfl) (by first | exact True.intro | (simp only [Obs, and_true, true_and]; omega) | (simp [Obs, AV.sizeL, AV.size, Kd.sz]; done) | (simp [Obs, AV.sizeL, AV.size, Kd.sz]; omega)) ?_)
      try simp only [InBlock, Then]
      refine ⟨k + 1, (by omega), (by omega), Wk.of ?_ ?_ rfl rfl⟩
      · simp only [lessTs, List.reduceReplicate, List.cons_append, List.nil_append] <;> ((repeat' apply And.intro) <;> first | rfl | trivial)
      · simp only [lessHs, shI] <;> ((repeat' apply And.intro) <;> first | rfl | trivial)
    · refine Tri.exit ?_
      show Con.post _ _ _ _ _ _
      have hc' : k = 16 := by
        have : ¬ ((k : Int) < 16) := by simpa using hc
        omega
      subst hc'
      refine Con.fin (.inr rfl) (by simp only [Tryd.f64, resA, resA1, go_sem]; rfl) (by trivial) rfl ?_ rfl rfl
      simp only [lessHs, kShift, Con.of, List.map] <;> ((repeat' apply And.intro) <;> first | rfl | trivial)
theorem shift_sum : FSumOK Tryd.prog cfgA.G 64 kShift.sum := Con.sumOK cfgA_ok kShift Tryd.func64 rfl rfl (Con.of_inv _ _ _) shift_body
end Go.Proofs.YticgfjalikmniaaDoor.Ae

namespace Go.Proofs.YticgfjalikmniaaDoor.Ae
open Go.Vc Go.Proofs
set_option maxRecDepth 10000
set_option maxHeartbeats 2000000
def mixC (s col : List UInt8) (all : UInt8) (c : Nat) : Nat → List UInt8
  | 0 => s
  | j + 1 => (mixC s col all c j).set (4 * c + j) (col.getD j 0 ^^^ all ^^^ twice (col.getD j 0 ^^^ col.getD ((j + 1) % 4) 0))
def mixI (s : List UInt8) : Nat → List UInt8
  | 0 => s
  | c + 1 => let t := mixI s c; let col := (t.drop (4 * c)).take 4; mixC t col (col.getD 0 0 ^^^ col.getD 1 0 ^^^ col.getD 2 0 ^^^ col.getD 3 0) c 4
def kMix : Con := Con.of [.p a16] (fun _ => []) (fun x => ⟨.tuple [], [.pure a16 (mixI x.1 4)]⟩)
theorem mix_body (p : kMix.Par) (hp : ∀ q ∈ kMix.pre p, q) : BodyOK Tryd.prog cfgB Tryd.f65 (Tryd.f65.body.get rfl) kMix p := by
  obtain ⟨(s : List UInt8), u⟩ := p
  refine ⟨?_, Nat.le_refl _, rfl, rfl⟩
  show Tri _ _ _ (Code.seq _ (Code.block _ (Code.loop (Code.seq (Code.seq _ (Code.cond _ _ _)) (Code.seq (Code.block _ (Code.seq _ (Code.seq _ (Code.seq _ (Code.block _ (Code.loop (Code.seq _ (Code.seq (Code.cond _ _ _) (Code.seq (Code.block _ (Code.seq _ _)) _))))))))) _))))) _
  refine Tri.seq (Tri.reg (cfgB_ok.pins _) (by simp (maxSteps := 2000000) (disch := first | decide | omega | (simp only [List.length_append, List.length_cons, List.length_nil, List.length_take, List.length_drop]; omega)) only [Tryd.f65, kMix, kTwice, cfgB, tyTabS, go_sem]; rfl) (by first | exact True.intro | (simp only [Obs, and_true, true_and]; omega) | (simp [Obs, AV.sizeL, AV.size, Kd.sz]; done) | (simp [Obs, AV.sizeL, AV.size, Kd.sz]; omega)) ?_)
  refine Tri.block ?_
  refine Tri.loop (fun c : Nat => (⟨[some (.ptr 0 [] 0), none, some (.int .i64 ((4 * c : Nat) : Int))] ++ List.replicate 51 none, [.live (.pure a16 (mixI s c))]⟩ : AS)) (· ≤ 4) (fun k => 4 - k) 0 ?_ (Nat.zero_le _) ?_
  · refine Wk.of ?_ ?_ rfl rfl
    · simp only [lessTs, List.reduceReplicate, List.cons_append, List.nil_append] <;> ((repeat' apply And.intro) <;> first | rfl | trivial)
    · simp only [lessHs, mixI] <;> ((repeat' apply And.intro) <;> first | rfl | trivial)
  · intro c hc
    refine Tri.seq ?_
    refine Tri.seq (Tri.reg (cfgB_ok.pins _) (by simp (maxSteps := 2000000) (disch := first | decide | omega | (simp only [List.length_append, List.length_cons, List.length_nil, List.length_take, List.length_drop]; omega)) only [Tryd.f65, kMix, kTwice, cfgB, tyTabS, go_sem]; rfl) (by first | exact True.intro | (simp only [Obs, and_true, true_and]; omega) | (simp [Obs, AV.sizeL, AV.size, Kd.sz]; done) | (simp [Obs, AV.sizeL, AV.size, Kd.sz]; omega)) ?_)
    refine Tri.split (by simp only [AS.ev, go_sem]; rfl) (fun hb => ?_) (fun hb => ?_)
    · have hc' : c < 4 := by
        have : ((4 * c : Nat) : Int) < 16 := by simpa using hb
        omega
      refine Tri.skp ?_
      refine Tri.seq (Tri.block ?_)
      refine Tri.seq (Tri.reg (cfgB_ok.pins _) (by simp (maxSteps := 2000000) (disch := first | decide | omega | (simp only [List.length_append, List.length_cons, List.length_nil, List.length_take, List.length_drop]; omega)) only [Tryd.f65, kMix, kTwice, cfgB, tyTabS, go_sem]; rfl) (by first | exact True.intro | (simp only [Obs, and_true, true_and]; omega) | (simp [Obs, AV.sizeL, AV.size, Kd.sz]; done) | (simp [Obs, AV.sizeL, AV.size, Kd.sz]; omega)) ?_)
      refine Tri.seq (Tri.reg (cfgB_ok.pins _) (by simp (maxSteps := 2000000) (disch := first | decide | omega | (simp only [List.length_append, List.length_cons, List.length_nil, List.length_take, List.length_drop]; omega)) only [Tryd.f65, kMix, kTwice, cfgB, tyTabS, go_sem]; rfl) (by first | exact True.intro | (simp only [Obs, and_true, true_and]; omega) | (simp [Obs, AV.sizeL, AV.size, Kd.sz]; done) | (simp [Obs, AV.sizeL, AV.size, Kd.sz]; omega)) ?_)
      refine Tri.seq (Tri.reg (cfgB_ok.pins _) (by simp (maxSteps := 2000000) (disch := first | decide | omega | (simp only [List.length_append, List.length_cons, List.length_nil, List.length_take, List.length_drop]; omega)) only [Tryd.f65, kMix, kTwice, cfgB, tyTabS, go_sem]; rfl) (by first | exact True.intro | (simp only [Obs, and_true, true_and]; omega) | (simp [Obs, AV.sizeL, AV.size, Kd.sz]; done) | (simp [Obs, AV.sizeL, AV.size, Kd.sz]; omega)) ?_)
      generalize hcol : List.take 4 (List.drop (4 * c) (mixI s c)) = col
      generalize hall : col.getD 0 0 ^^^ col.getD 1 0 ^^^ col.getD 2 0 ^^^ col.getD 3 0 = all
      refine Tri.block ?_
      refine Tri.loop (fun j : Nat => (⟨[some (.ptr 0 [] 0), none, some (.int .i64 ((4 * c : Nat) : Int)), some (.ptr 1 [] 0), some (.int .u8 all)] ++ List.replicate 25 none ++ [some (.pure a4 col), some (.int .i64 (j : Int))] ++ List.replicate 22 none, [.live (.pure a16 (mixC (mixI s c) col all c j)), .live (.pure a4 col)]⟩ : AS)) (· ≤ 4) (fun k => 4 - k) 0 ?_ (Nat.zero_le _) ?_
      · refine Wk.of ?_ ?_ rfl rfl
        · simp only [lessTs, List.reduceReplicate, List.cons_append, List.nil_append] <;> ((repeat' apply And.intro) <;> first | rfl | trivial)
        · simp only [lessHs, mixC] <;> ((repeat' apply And.intro) <;> first | rfl | trivial)
      · intro j hj
        refine Tri.seq (Tri.reg (cfgB_ok.pins _) (by simp (maxSteps := 2000000) (disch := first | decide | omega | (simp only [List.length_append, List.length_cons, List.length_nil, List.length_take, List.length_drop]; omega)) only [Tryd.f65, kMix, kTwice, cfgB, tyTabS, go_sem]; rfl) (by first | exact True.intro | (simp only [Obs, and_true, true_and]; omega) | (simp [Obs, AV.sizeL, AV.size, Kd.sz]; done) | (simp [Obs, AV.sizeL, AV.size, Kd.sz]; omega)) ?_)
        refine Tri.seq ?_
        refine Tri.split (by simp only [AS.ev, go_sem]; rfl) (fun hd => ?_) (fun hd => ?_)
        · have hd' : j < 4 := by
            have : (j : Int) < 4 := by simpa using hd
            omega
          refine Tri.skp ?_
          refine Tri.seq (Tri.block ?_)
          refine Tri.seq (Tri.reg (cfgB_ok.pins _) (by simp (maxSteps := 2000000) (disch := first | decide | omega | (simp only [List.length_append, List.length_cons, List.length_nil, List.length_take, List.length_drop]; omega)) only [Tryd.f65, kMix, kTwice, cfgB, tyTabS, go_sem]; rfl) (by first | exact True.intro | (simp only [Obs, and_true, true_and]; omega) | (simp [Obs, AV.sizeL, AV.size, Kd.sz]; done) | (simp [Obs, AV.sizeL, AV.size, Kd.sz]; omega)) ?_)
          refine (Tri.drn (mixed) (cfgB_ok.pins _) (by simp (maxSteps := 2000000) (disch := first | decide | omega | (simp only [List.length_append, List.length_cons, List.length_nil, List.length_take, List.length_drop]; omega)) only [Tryd.f65, kMix, kTwice, cfgB, tyTabS, go_sem]; rfl) (by first | exact True.intro | (simp only [Obs, and_true, true_and]; omega) | (simp [Obs, AV.sizeL, AV.size, Kd.sz]; done) | (simp [Obs, AV.sizeL, AV.size, Kd.sz]; omega)) (by kernel_rfl) ?_)
          try simp only [InBlock, Then]
          refine (Tri.rgn (cfgB_ok.pins _) (by simp (maxSteps := 2000000) (disch := first | decide | omega | (simp only [List.length_append, List.length_cons, List.length_nil, List.length_take, List.length_drop]; omega)) only [Tryd.f65, kMix, kTwice, cfgB, tyTabS, go_sem]; rfl) (by first | exact True.intro | (simp only [Obs, and_true, true_and]; omega) | (simp [Obs, AV.sizeL, AV.size, Kd.sz]; done) | (simp [Obs, AV.sizeL, AV.size, Kd.sz]; omega)) ?_)
          try simp only [InBlock, Then]
          refine ⟨j + 1, (by omega), (by omega), Wk.of ?_ ?_ rfl rfl⟩
          · simp only [lessTs, List.reduceReplicate, List.cons_append, List.nil_append] <;> ((repeat' apply And.intro) <;> first | rfl | trivial)
          · simp only [lessHs, mixC] <;> ((repeat' apply And.intro) <;> first | rfl | trivial)
        · refine Tri.exit ?_
          have hd' : j = 4 := by
            have : ¬ ((j : Int) < 4) := by simpa using hd
            omega
          subst hd'
          simp only [Then, InBlock, if_true]
          refine (Tri.rgn (cfgB_ok.pins _) (by simp (maxSteps := 2000000) (disch := first | decide | omega | (simp only [List.length_append, List.length_cons, List.length_nil, List.length_take, List.length_drop]; omega)) only [Tryd.f65, kMix, kTwice, cfgB, tyTabS, go_sem]; rfl) (by first | exact True.intro | (simp only [Obs, and_true, true_and]; omega) | (simp [Obs, AV.sizeL, AV.size, Kd.sz]; done) | (simp [Obs, AV.sizeL, AV.size, Kd.sz]; omega)) ?_)
          try simp only [InBlock, Then]
          refine ⟨c + 1, (by omega), (by omega), Wk.of ?_ ?_ rfl rfl⟩
          · simp only [lessTs, List.reduceReplicate, List.cons_append, List.nil_append] <;> ((repeat' apply And.intro) <;> first | rfl | trivial)
          · simp only [lessHs, mixI, hcol, hall] <;> ((repeat' apply And.intro) <;> first | rfl | trivial)
    · refine Tri.exit ?_
      show Con.post _ _ _ _ _ _
      have hc' : c = 4 := by
        have : ¬ (((4 * c : Nat) : Int) < 16) := by simpa using hb
        omega
      subst hc'
      refine Con.fin (.inr rfl) (by simp only [Tryd.f65, resA, resA1, go_sem]; rfl) (by trivial) rfl ?_ rfl rfl
      simp only [lessHs, kMix, Con.of, List.map] <;> ((repeat' apply And.intro) <;> first | rfl | trivial)
theorem mix_sum : FSumOK Tryd.prog cfgB.G 65 kMix.sum := Con.sumOK cfgB_ok kMix Tryd.func65 rfl rfl (Con.of_inv _ _ _) mix_body
end Go.Proofs.YticgfjalikmniaaDoor.Ae

namespace Go.Proofs.YticgfjalikmniaaDoor.Ae
open Go.Vc Go.Proofs
set_option maxRecDepth 10000
set_option maxHeartbeats 2000000
def ctI (a b : UInt64) : Nat → UInt64 × UInt64 × List UInt8
  | 0 => (a, b, List.replicate 16 0)
  | j + 1 => let s := ctI a b j; (s.1 >>> 8, s.2.1 >>> 8, (s.2.2.set (7 - j) s.1.toUInt8).set (8 + (7 - j)) s.2.1.toUInt8)
def kCounter : Con := Con.of [.v (.int .u64), .v (.int .u64)] (fun _ => []) (fun x => ⟨.pure a16 (ctI x.1 x.2.1 8).2.2, []⟩)
theorem counter_body (p : kCounter.Par) (hp : ∀ q ∈ kCounter.pre p, q) : BodyOK Tryd.prog cfgA Tryd.f61 (Tryd.f61.body.get rfl) kCounter p := by
  obtain ⟨(a : UInt64), (b : UInt64), u⟩ := p
  refine ⟨?_, Nat.le_refl _, rfl, rfl⟩
  show Tri _ _ _ (Code.seq _ (Code.seq (Code.seq _ (Code.block _ (Code.loop (Code.seq (Code.seq _ (Code.cond _ _ _)) (Code.seq (Code.block _ (Code.seq _ _)) _))))) (Code.seq _ _))) _
  refine Tri.seq (Tri.reg (cfgA_ok.pins _) (by simp (maxSteps := 2000000) (disch := first | decide | omega | (simp only [List.length_append, List.length_cons, List.length_nil, List.length_take, List.length_drop]; omega)) only [Tryd.f61, kCounter, cfgA, tyTabS, go_sem]; rfl) (by first | exact True.intro | (simp only [Obs, and_true, true_and]; omega) | (simp [Obs, AV.sizeL, AV.size, Kd.sz]; done) | (simp [Obs, AV.sizeL, AV.size, Kd.sz]; omega)) ?_)
  refine Tri.seq ?_
  refine Tri.seq (Tri.reg (cfgA_ok.pins _) (by simp (maxSteps := 2000000) (disch := first | decide | omega | (simp only [List.length_append, List.length_cons, List.length_nil, List.length_take, List.length_drop]; omega)) only [Tryd.f61, kCounter, cfgA, tyTabS, go_sem]; rfl) (by first | exact True.intro | (simp only [Obs, and_true, true_and]; omega) | (simp [Obs, AV.sizeL, AV.size, Kd.sz]; done) | (simp [Obs, AV.sizeL, AV.size, Kd.sz]; omega)) ?_)
  refine Tri.block ?_
  refine Tri.loop (fun j : Nat => (⟨[some (.int .u64 (ctI a b j).1), some (.int .u64 (ctI a b j).2.1), none, none, some (.ptr 0 [] 0), some (.int .i64 (7 - (j : Int)))] ++ List.replicate 18 none, [.live (.pure a16 (ctI a b j).2.2)]⟩ : AS)) (· ≤ 8) (fun k => 8 - k) 0 ?_ (Nat.zero_le _) ?_
  · refine Wk.of ?_ ?_ rfl rfl
    · simp only [lessTs, List.reduceReplicate, List.cons_append, List.nil_append] <;> ((repeat' apply And.intro) <;> first | rfl | trivial)
    · simp only [lessHs, ctI] <;> ((repeat' apply And.intro) <;> first | rfl | trivial)
  · intro j hj
    refine Tri.seq ?_
    refine Tri.seq (Tri.reg (cfgA_ok.pins _) (by simp (maxSteps := 2000000) (disch := first | decide | omega | (simp only [List.length_append, List.length_cons, List.length_nil, List.length_take, List.length_drop]; omega)) only [Tryd.f61, kCounter, cfgA, tyTabS, go_sem]; rfl) (by first | exact True.intro | (simp only [Obs, and_true, true_and]; omega) | (simp [Obs, AV.sizeL, AV.size, Kd.sz]; done) | (simp [Obs, AV.sizeL, AV.size, Kd.sz]; omega)) ?_)
    refine Tri.split (by simp only [AS.ev, go_sem]; rfl) (fun hc => ?_) (fun hc => ?_)
    · have hc' : j < 8 := by
        have : ¬ ((7 - (j : Int)) < 0) := by simpa using hc
        omega
      refine Tri.skp ?_
      refine Tri.seq (Tri.block ?_)
      obtain ⟨m, hm⟩ : ∃ m : Nat, 7 - (j : Int) = (m : Int) := ⟨7 - j, by omega⟩
      have hm' : 7 - j = m := by omega
      simp only [hm]
      refine Tri.seq (Tri.reg (cfgA_ok.pins _) (by simp (maxSteps := 2000000) (disch := first | decide | omega | (simp only [List.length_append, List.length_cons, List.length_nil, List.length_take, List.length_drop]; omega)) only [Tryd.f61, kCounter, cfgA, tyTabS, go_sem]; rfl) (by first | exact True.intro | (simp only [Obs, and_true, true_and]; omega) | (simp [Obs, AV.sizeL, AV.size, Kd.sz]; done) | (simp [Obs, AV.sizeL, AV.size, Kd.sz]; omega)) ?_)
      refine (Tri.rgn (cfgA_ok.pins _) (by simp (maxSteps := 2000000) (disch := first | decide | omega | (simp only [List.length_append, List.length_cons, List.length_nil, List.length_take, List.length_drop]; omega)) only [Tryd.f61, kCounter, cfgA, tyTabS, go_sem]; rfl) (by first | exact True.intro | (simp only [Obs, and_true, true_and]; omega) | (simp [Obs, AV.sizeL, AV.size, Kd.sz]; done) | (simp [Obs, AV.sizeL, AV.size, Kd.sz]; omega)) ?_)
      try simp only [InBlock, Then]
      refine (Tri.rgn (cfgA_ok.pins _) (by simp (maxSteps := 2000000) (disch := first | decide | omega | (simp only [List.length_append, List.length_cons, List.length_nil, List.length_take, List.length_drop]; omega)) only [Tryd.f61, kCounter, cfgA, tyTabS, go_sem]; rfl) (by first | exact True.intro | (simp only [Obs, and_true, true_and]; omega) | (simp [Obs, AV.sizeL, AV.size, Kd.sz]; done) | (simp [Obs, AV.sizeL, AV.size, Kd.sz]; omega)) ?_)
      try simp only [InBlock, Then]
      refine ⟨j + 1, (by omega), (by omega), Wk.of ?_ ?_ rfl rfl⟩
      · simp only [lessTs, List.reduceReplicate, List.cons_append, List.nil_append, ctI, ← hm, Int.natCast_add, Int.sub_sub] <;> ((repeat' apply And.intro) <;> first | rfl | trivial)
      · simp only [lessHs, ctI, hm'] <;> ((repeat' apply And.intro) <;> first | rfl | trivial)
    · refine Tri.exit ?_
      have hc' : j = 8 := by
        have : ((7 - (j : Int)) < 0) := by simpa using hc
        omega
      subst hc'
      simp only [Then, InBlock, if_true]
      refine Tri.seq (Tri.reg (cfgA_ok.pins _) (by simp (maxSteps := 2000000) (disch := first | decide | omega | (simp only [List.length_append, List.length_cons, List.length_nil, List.length_take, List.length_drop]; omega)) only [Tryd.f61, kCounter, cfgA, tyTabS, go_sem]; rfl) (by first | exact True.intro | (simp only [Obs, and_true, true_and]; omega) | (simp [Obs, AV.sizeL, AV.size, Kd.sz]; done) | (simp [Obs, AV.sizeL, AV.size, Kd.sz]; omega)) ?_)
      refine Tri.ret ?_
      refine Con.fin (.inl rfl) (by simp only [Tryd.f61, cfgA, tyTabS, resA, resA1, go_sem]; rfl) (by simp only [Obs, and_true, true_and]) rfl trivial rfl rfl
theorem counter_sum : FSumOK Tryd.prog cfgA.G 61 kCounter.sum := Con.sumOK cfgA_ok kCounter Tryd.func61 rfl rfl (Con.of_inv _ _ _) counter_body
end Go.Proofs.YticgfjalikmniaaDoor.Ae

namespace Go.Proofs.YticgfjalikmniaaDoor.Ae
open Go.Vc Go.Proofs
set_option maxRecDepth 10000
set_option maxHeartbeats 2000000
def cfgC : Cfg2 := { ty := tyTabS, fn := fun | 59 => some kTwice.sum | 63 => some kAdd.sum | 64 => some kShift.sum | 65 => some kMix.sum | 61 => some kCounter.sum | 62 => some kTurn.sum | _ => none, G := shaG, pin := [], eq := fun _ => none }
theorem cfgC_ok : CfgOK Tryd.prog cfgC := ⟨tysSOK, (fun f s h => by
  simp only [cfgC] at h
  split at h
  · injection h with h; subst h; exact .inl twice_sum
  · injection h with h; subst h; exact .inl add_sum
  · injection h with h; subst h; exact .inl shift_sum
  · injection h with h; subst h; exact .inl mix_sum
  · injection h with h; subst h; exact .inl counter_sum
  · injection h with h; subst h; exact .inl turn_sum
  · cases h), (fun t d h => by cases h)⟩
def rndI (box : List UInt8) (keys : List (List UInt8)) (s : List UInt8) : Nat → List UInt8
  | 0 => addI keys 0 s 16
  | r + 1 => let t := shI box (rndI box keys s r) 16; addI keys (r + 1) (if r + 1 < 10 then mixI t 4 else t) 16
def kBlock : Con := Con.of [.p cipK, .v a16] (fun _ => []) (fun x => ⟨.pure a16 (rndI x.1.1 x.1.2.1 x.2.1 10), [.pure cipK x.1]⟩)
theorem block_body (p : kBlock.Par) (hp : ∀ q ∈ kBlock.pre p, q) : BodyOK Tryd.prog cfgC Tryd.f60 (Tryd.f60.body.get rfl) kBlock p := by
  obtain ⟨⟨(box : List UInt8), (keys : List (List UInt8)), u1⟩, (s : List UInt8), u⟩ := p
  refine ⟨?_, Nat.le_refl _, rfl, rfl⟩
  show Tri _ _ _ (Code.seq _ (Code.seq _ (Code.seq (Code.seq _ (Code.block _ (Code.loop (Code.seq (Code.seq _ (Code.cond _ _ _)) (Code.seq (Code.block _ (Code.seq _ (Code.seq (Code.seq _ (Code.cond _ _ _)) _))) _))))) (Code.seq _ _)))) _
  refine Tri.seq (Tri.reg (cfgC_ok.pins _) (by simp (maxSteps := 2000000) (disch := first | decide | omega | (simp only [List.length_append, List.length_cons, List.length_nil, List.length_take, List.length_drop]; omega)) only [Tryd.f60, kBlock, kAdd, kShift, kMix, cfgC, tyTabS, go_sem]; rfl) (by first | exact True.intro | (simp only [Obs, and_true, true_and]; omega) | (simp [Obs, AV.sizeL, AV.size, Kd.sz]; done) | (simp [Obs, AV.sizeL, AV.size, Kd.sz]; omega)) ?_)
  refine Tri.seq (Tri.reg (cfgC_ok.pins _) (by simp (maxSteps := 2000000) (disch := first | decide | omega | (simp only [List.length_append, List.length_cons, List.length_nil, List.length_take, List.length_drop]; omega)) only [Tryd.f60, kBlock, kAdd, kShift, kMix, cfgC, tyTabS, go_sem]; rfl) (by first | exact True.intro | (simp only [Obs, and_true, true_and]; omega) | (simp [Obs, AV.sizeL, AV.size, Kd.sz]; done) | (simp [Obs, AV.sizeL, AV.size, Kd.sz]; omega)) ?_)
  refine Tri.seq ?_
  refine Tri.seq (Tri.reg (cfgC_ok.pins _) (by simp (maxSteps := 2000000) (disch := first | decide | omega | (simp only [List.length_append, List.length_cons, List.length_nil, List.length_take, List.length_drop]; omega)) only [Tryd.f60, kBlock, kAdd, kShift, kMix, cfgC, tyTabS, go_sem]; rfl) (by first | exact True.intro | (simp only [Obs, and_true, true_and]; omega) | (simp [Obs, AV.sizeL, AV.size, Kd.sz]; done) | (simp [Obs, AV.sizeL, AV.size, Kd.sz]; omega)) ?_)
  refine Tri.block ?_
  refine Tri.loop (fun r : Nat => (⟨[some (.ptr 0 [] 0), none, none, some (.ptr 1 [] 0), some (.ptr 2 [] 0), some (.int .i64 ((r + 1 : Nat) : Int))] ++ List.replicate 15 none, [.live (.pure cipK (box, keys, u1)), .live (.pure a16 (rndI box keys s r)), .live (.pure a16 (Kd.dflt a16))]⟩ : AS)) (· ≤ 10) (fun k => 10 - k) 0 ?_ (Nat.zero_le _) ?_
  · refine Wk.of ?_ ?_ rfl rfl
    · simp only [lessTs, List.reduceReplicate, List.cons_append, List.nil_append] <;> ((repeat' apply And.intro) <;> first | rfl | trivial)
    · simp only [lessHs, rndI] <;> ((repeat' apply And.intro) <;> first | rfl | trivial)
  · intro r hr
    refine Tri.seq ?_
    refine Tri.seq (Tri.reg (cfgC_ok.pins _) (by simp (maxSteps := 2000000) (disch := first | decide | omega | (simp only [List.length_append, List.length_cons, List.length_nil, List.length_take, List.length_drop]; omega)) only [Tryd.f60, kBlock, kAdd, kShift, kMix, cfgC, tyTabS, go_sem]; rfl) (by first | exact True.intro | (simp only [Obs, and_true, true_and]; omega) | (simp [Obs, AV.sizeL, AV.size, Kd.sz]; done) | (simp [Obs, AV.sizeL, AV.size, Kd.sz]; omega)) ?_)
    refine Tri.split (by simp only [AS.ev, go_sem]; rfl) (fun hc => ?_) (fun hc => ?_)
    · have hc' : r < 10 := by
        have : ¬ (10 < ((r + 1 : Nat) : Int)) := by simpa using hc
        omega
      refine Tri.skp ?_
      refine Tri.seq (Tri.block ?_)
      refine Tri.seq (Tri.reg (cfgC_ok.pins _) (by simp (maxSteps := 2000000) (disch := first | decide | omega | (simp only [List.length_append, List.length_cons, List.length_nil, List.length_take, List.length_drop]; omega)) only [Tryd.f60, kBlock, kAdd, kShift, kMix, cfgC, tyTabS, go_sem]; rfl) (by first | exact True.intro | (simp only [Obs, and_true, true_and]; omega) | (simp [Obs, AV.sizeL, AV.size, Kd.sz]; done) | (simp [Obs, AV.sizeL, AV.size, Kd.sz]; omega)) ?_)
      refine Tri.seq ?_
      refine Tri.seq (Tri.reg (cfgC_ok.pins _) (by simp (maxSteps := 2000000) (disch := first | decide | omega | (simp only [List.length_append, List.length_cons, List.length_nil, List.length_take, List.length_drop]; omega)) only [Tryd.f60, kBlock, kAdd, kShift, kMix, cfgC, tyTabS, go_sem]; rfl) (by first | exact True.intro | (simp only [Obs, and_true, true_and]; omega) | (simp [Obs, AV.sizeL, AV.size, Kd.sz]; done) | (simp [Obs, AV.sizeL, AV.size, Kd.sz]; omega)) ?_)
      refine Tri.split (by simp only [AS.ev, go_sem]; rfl) (fun hd => ?_) (fun hd => ?_)
      · have hd' : r + 1 < 10 := by
          have : (((r + 1 : Nat) : Int) < 10) := by simpa using hd
          omega
        refine (Tri.rgn (cfgC_ok.pins _) (by simp (maxSteps := 2000000) (disch := first | decide | omega | (simp only [List.length_append, List.length_cons, List.length_nil, List.length_take, List.length_drop]; omega)) only [Tryd.f60, kBlock, kAdd, kShift, kMix, cfgC, tyTabS, go_sem]; rfl) (by first | exact True.intro | (simp only [Obs, and_true, true_and]; omega) | (simp [Obs, AV.sizeL, AV.size, Kd.sz]; done) | (simp [Obs, AV.sizeL, AV.size, Kd.sz]; omega)) ?_)
        try simp only [InBlock, Then]
        refine (Tri.rgn (cfgC_ok.pins _) (by simp (maxSteps := 2000000) (disch := first | decide | omega | (simp only [List.length_append, List.length_cons, List.length_nil, List.length_take, List.length_drop]; omega)) only [Tryd.f60, kBlock, kAdd, kShift, kMix, cfgC, tyTabS, go_sem]; rfl) (by first | exact True.intro | (simp only [Obs, and_true, true_and]; omega) | (simp [Obs, AV.sizeL, AV.size, Kd.sz]; done) | (simp [Obs, AV.sizeL, AV.size, Kd.sz]; omega)) ?_)
        try simp only [InBlock, Then]
        refine (Tri.rgn (cfgC_ok.pins _) (by simp (maxSteps := 2000000) (disch := first | decide | omega | (simp only [List.length_append, List.length_cons, List.length_nil, List.length_take, List.length_drop]; omega)) only [Tryd.f60, kBlock, kAdd, kShift, kMix, cfgC, tyTabS, go_sem]; rfl) (by first | exact True.intro | (simp only [Obs, and_true, true_and]; omega) | (simp [Obs, AV.sizeL, AV.size, Kd.sz]; done) | (simp [Obs, AV.sizeL, AV.size, Kd.sz]; omega)) ?_)
        try simp only [InBlock, Then]
        refine ⟨r + 1, (by omega), (by omega), Wk.of ?_ ?_ rfl rfl⟩
        · simp only [lessTs, List.reduceReplicate, List.cons_append, List.nil_append] <;> ((repeat' apply And.intro) <;> first | rfl | trivial)
        · simp only [lessHs, rndI, if_pos hd'] <;> ((repeat' apply And.intro) <;> first | rfl | trivial)
      · have hd' : ¬ (r + 1 < 10) := by
          have : ¬ (((r + 1 : Nat) : Int) < 10) := by simpa using hd
          omega
        refine Tri.skp ?_
        refine (Tri.rgn (cfgC_ok.pins _) (by simp (maxSteps := 2000000) (disch := first | decide | omega | (simp only [List.length_append, List.length_cons, List.length_nil, List.length_take, List.length_drop]; omega)) only [Tryd.f60, kBlock, kAdd, kShift, kMix, cfgC, tyTabS, go_sem]; rfl) (by first | exact True.intro | (simp only [Obs, and_true, true_and]; omega) | (simp [Obs, AV.sizeL, AV.size, Kd.sz]; done) | (simp [Obs, AV.sizeL, AV.size, Kd.sz]; omega)) ?_)
        try simp only [InBlock, Then]
        refine (Tri.rgn (cfgC_ok.pins _) (by simp (maxSteps := 2000000) (disch := first | decide | omega | (simp only [List.length_append, List.length_cons, List.length_nil, List.length_take, List.length_drop]; omega)) only [Tryd.f60, kBlock, kAdd, kShift, kMix, cfgC, tyTabS, go_sem]; rfl) (by first | exact True.intro | (simp only [Obs, and_true, true_and]; omega) | (simp [Obs, AV.sizeL, AV.size, Kd.sz]; done) | (simp [Obs, AV.sizeL, AV.size, Kd.sz]; omega)) ?_)
        try simp only [InBlock, Then]
        refine ⟨r + 1, (by omega), (by omega), Wk.of ?_ ?_ rfl rfl⟩
        · simp only [lessTs, List.reduceReplicate, List.cons_append, List.nil_append] <;> ((repeat' apply And.intro) <;> first | rfl | trivial)
        · simp only [lessHs, rndI, if_neg hd'] <;> ((repeat' apply And.intro) <;> first | rfl | trivial)
    · refine Tri.exit ?_
      have hc' : r = 10 := by
        have : (10 < ((r + 1 : Nat) : Int)) := by simpa using hc
        omega
      subst hc'
      simp only [Then, InBlock, if_true]
      refine Tri.seq (Tri.reg (cfgC_ok.pins _) (by simp (maxSteps := 2000000) (disch := first | decide | omega | (simp only [List.length_append, List.length_cons, List.length_nil, List.length_take, List.length_drop]; omega)) only [Tryd.f60, kBlock, kAdd, kShift, kMix, cfgC, tyTabS, go_sem]; rfl) (by first | exact True.intro | (simp only [Obs, and_true, true_and]; omega) | (simp [Obs, AV.sizeL, AV.size, Kd.sz]; done) | (simp [Obs, AV.sizeL, AV.size, Kd.sz]; omega)) ?_)
      refine Tri.ret ?_
      refine Con.fin (.inl rfl) (by simp only [Tryd.f60, cfgC, tyTabS, resA, resA1, go_sem]; rfl) (by simp only [Obs, and_true, true_and]) rfl ?_ rfl rfl
      simp only [lessHs, kBlock, Con.of, List.map] <;> ((repeat' apply And.intro) <;> first | rfl | trivial)
theorem block_sum : FSumOK Tryd.prog cfgC.G 60 kBlock.sum := Con.sumOK cfgC_ok kBlock Tryd.func60 rfl rfl (Con.of_inv _ _ _) block_body
end Go.Proofs.YticgfjalikmniaaDoor.Ae

namespace Go.Proofs.YticgfjalikmniaaDoor.Ae
open Go.Vc Go.Proofs
set_option maxRecDepth 10000
set_option maxHeartbeats 4000000
def cfgD : Cfg2 := { ty := tyTabS, fn := fun | 60 => some kBlock.sum | 58 => some kBoxes.sum | 59 => some kTwice.sum | 61 => some kCounter.sum | _ => none, G := shaG, pin := [], eq := fun _ => none }
theorem cfgD_ok : CfgOK Tryd.prog cfgD := ⟨tysSOK, (fun f s h => by
  simp only [cfgD] at h
  split at h
  · injection h with h; subst h; exact .inl block_sum
  · injection h with h; subst h; exact .inl boxes_sum
  · injection h with h; subst h; exact .inl twice_sum
  · injection h with h; subst h; exact .inl counter_sum
  · cases h), (fun t d h => by cases h)⟩
abbrev d4 : List UInt8 := [0, 0, 0, 0]
def kxI (ks : List (List UInt8)) (i : Nat) : Nat → List (List UInt8)
  | 0 => ks
  | j + 1 => (kxI ks i j).set i (((kxI ks i j).getD i d4).set j (((kxI ks i j).getD i d4).getD j 0 ^^^ ((kxI ks i j).getD (i - 4) d4).getD j 0))
def cpK (old key : List UInt8) (i : Nat) : List UInt8 :=
  let src := List.take (16 - 4 * i) (List.drop (4 * i) key)
  List.take 0 old ++ List.take (min src.length 4) src ++ List.drop (List.take (min src.length 4) src).length old
def keyStep (box key : List UInt8) (i : Nat) (s : UInt8 × List (List UInt8)) : UInt8 × List (List UInt8) :=
  if i < 4 then (s.1, s.2.set i (cpK (s.2.getD i d4) key i)) else
    let k1 := s.2.set i (s.2.getD (i - 1) d4)
    let w := k1.getD i d4
    if i % 4 = 0 then (twice s.1, kxI (k1.set i [box.getD (w.getD 1 0).toNat 0 ^^^ s.1, box.getD (w.getD 2 0).toNat 0, box.getD (w.getD 3 0).toNat 0, box.getD (w.getD 0 0).toNat 0]) i 4)
    else (s.1, kxI k1 i 4)
def keyI (box key : List UInt8) : Nat → UInt8 × List (List UInt8)
  | 0 => (1, Kd.dflt a44)
  | i + 1 => keyStep box key i (keyI box key i)
def box0 : List UInt8 := (boxI (Kd.dflt a256) 255).2.2
def newC (key : List UInt8) : cipK.T := (box0, (keyI box0 key 44).2, ())
def kNew : Con := Con.of [.v a16] (fun _ => []) (fun x => ⟨.ptr 1 [] 0, [.pure a16 x.1, .pure cipK (newC x.1)]⟩)
theorem new_body (p : kNew.Par) (hp : ∀ q ∈ kNew.pre p, q) : BodyOK Tryd.prog cfgD Tryd.f55 (Tryd.f55.body.get rfl) kNew p := by
  obtain ⟨(key : List UInt8), u⟩ := p
  refine ⟨?_, Nat.zero_le _, rfl, rfl⟩
  show Tri _ _ _ (Code.seq _ (Code.seq _ (Code.seq _ (Code.seq _ (Code.seq (Code.seq _ (Code.block _ (Code.loop (Code.seq _ (Code.seq (Code.cond _ _ _) (Code.seq (Code.block _ (Code.seq _ (Code.seq _ (Code.seq (Code.seq _ (Code.cond _ (Code.seq _ _) _)) (Code.seq _ (Code.seq (Code.seq _ (Code.cond _ (Code.seq _ _) _)) (Code.seq _ (Code.block _ (Code.loop _))))))))) _)))))) (Code.seq _ _)))))) _
  refine Tri.seq (Tri.reg (cfgD_ok.pins _) (by simp (maxSteps := 2000000) (disch := first | decide | omega | (simp only [List.length_append, List.length_cons, List.length_nil, List.length_take, List.length_drop]; omega)) only [Tryd.f55, kNew, kBoxes, kTwice, cfgD, tyTabS, go_sem]; rfl) (by first | exact True.intro | (simp only [Obs, and_true, true_and]; omega) | (simp [Obs, AV.sizeL, AV.size, Kd.sz]; done) | (simp [Obs, AV.sizeL, AV.size, Kd.sz]; omega)) ?_)
  refine Tri.seq (Tri.reg (cfgD_ok.pins _) (by simp (maxSteps := 2000000) (disch := first | decide | omega | (simp only [List.length_append, List.length_cons, List.length_nil, List.length_take, List.length_drop]; omega)) only [Tryd.f55, kNew, kBoxes, kTwice, cfgD, tyTabS, go_sem]; rfl) (by first | exact True.intro | (simp only [Obs, and_true, true_and]; omega) | (simp [Obs, AV.sizeL, AV.size, Kd.sz]; done) | (simp [Obs, AV.sizeL, AV.size, Kd.sz]; omega)) ?_)
  refine Tri.seq (Tri.reg (cfgD_ok.pins _) (by simp (maxSteps := 2000000) (disch := first | decide | omega | (simp only [List.length_append, List.length_cons, List.length_nil, List.length_take, List.length_drop]; omega)) only [Tryd.f55, kNew, kBoxes, kTwice, cfgD, tyTabS, go_sem]; rfl) (by first | exact True.intro | (simp only [Obs, and_true, true_and]; omega) | (simp [Obs, AV.sizeL, AV.size, Kd.sz]; done) | (simp [Obs, AV.sizeL, AV.size, Kd.sz]; omega)) ?_)
  refine Tri.seq (Tri.reg (cfgD_ok.pins _) (by simp (maxSteps := 2000000) (disch := first | decide | omega | (simp only [List.length_append, List.length_cons, List.length_nil, List.length_take, List.length_drop]; omega)) only [Tryd.f55, kNew, kBoxes, kTwice, cfgD, tyTabS, go_sem]; rfl) (by first | exact True.intro | (simp only [Obs, and_true, true_and]; omega) | (simp [Obs, AV.sizeL, AV.size, Kd.sz]; done) | (simp [Obs, AV.sizeL, AV.size, Kd.sz]; omega)) ?_)
  refine Tri.seq ?_
  refine Tri.seq (Tri.reg (cfgD_ok.pins _) (by simp (maxSteps := 2000000) (disch := first | decide | omega | (simp only [List.length_append, List.length_cons, List.length_nil, List.length_take, List.length_drop]; omega)) only [Tryd.f55, kNew, kBoxes, kTwice, cfgD, tyTabS, go_sem]; rfl) (by first | exact True.intro | (simp only [Obs, and_true, true_and]; omega) | (simp [Obs, AV.sizeL, AV.size, Kd.sz]; done) | (simp [Obs, AV.sizeL, AV.size, Kd.sz]; omega)) ?_)
  refine Tri.block ?_
  refine Tri.loop (fun i : Nat => (⟨[none, some (.ptr 0 [] 0), none, some (.ptr 1 [] 0), some (.int .u8 (keyI box0 key i).1), none, none, none, none, none, none, none, some (.int .i64 (i : Int))] ++ List.replicate 94 none, [.live (.pure a16 key), .live (.pure cipK (box0, (keyI box0 key i).2, ()))]⟩ : AS)) (· ≤ 44) (fun k => 44 - k) 0 ?_ (Nat.zero_le _) ?_
  · refine Wk.of ?_ ?_ rfl rfl
    · simp only [lessTs, List.reduceReplicate, List.cons_append, List.nil_append] <;> ((repeat' apply And.intro) <;> first | rfl | trivial)
    · simp only [lessHs, keyI] <;> ((repeat' apply And.intro) <;> first | rfl | trivial)
  · intro i hi
    refine Tri.seq (Tri.reg (cfgD_ok.pins _) (by simp (maxSteps := 2000000) (disch := first | decide | omega | (simp only [List.length_append, List.length_cons, List.length_nil, List.length_take, List.length_drop]; omega)) only [Tryd.f55, kNew, kBoxes, kTwice, cfgD, tyTabS, go_sem]; rfl) (by first | exact True.intro | (simp only [Obs, and_true, true_and]; omega) | (simp [Obs, AV.sizeL, AV.size, Kd.sz]; done) | (simp [Obs, AV.sizeL, AV.size, Kd.sz]; omega)) ?_)
    refine Tri.seq ?_
    refine Tri.split (by simp only [AS.ev, go_sem]; rfl) (fun hc => ?_) (fun hc => ?_)
    · have hc' : i < 44 := by
        have : (i : Int) < 44 := by simpa using hc
        omega
      refine Tri.skp ?_
      refine Tri.seq (Tri.block ?_)
      refine Tri.seq (Tri.reg (cfgD_ok.pins _) (by simp (maxSteps := 2000000) (disch := first | decide | omega | (simp only [List.length_append, List.length_cons, List.length_nil, List.length_take, List.length_drop]; omega)) only [Tryd.f55, kNew, kBoxes, kTwice, cfgD, tyTabS, go_sem]; rfl) (by first | exact True.intro | (simp only [Obs, and_true, true_and]; omega) | (simp [Obs, AV.sizeL, AV.size, Kd.sz]; done) | (simp [Obs, AV.sizeL, AV.size, Kd.sz]; omega)) ?_)
      refine Tri.seq (Tri.reg (cfgD_ok.pins _) (by simp (maxSteps := 2000000) (disch := first | decide | omega | (simp only [List.length_append, List.length_cons, List.length_nil, List.length_take, List.length_drop]; omega)) only [Tryd.f55, kNew, kBoxes, kTwice, cfgD, tyTabS, go_sem]; rfl) (by first | exact True.intro | (simp only [Obs, and_true, true_and]; omega) | (simp [Obs, AV.sizeL, AV.size, Kd.sz]; done) | (simp [Obs, AV.sizeL, AV.size, Kd.sz]; omega)) ?_)
      refine Tri.seq (Tri.seq ?_)
      refine (Tri.rgn (cfgD_ok.pins _) (by simp (maxSteps := 2000000) (disch := first | decide | omega | (simp only [List.length_append, List.length_cons, List.length_nil, List.length_take, List.length_drop]; omega)) only [Tryd.f55, kNew, kBoxes, kTwice, cfgD, tyTabS, go_sem]; rfl) (by first | exact True.intro | (simp only [Obs, and_true, true_and]; omega) | (simp [Obs, AV.sizeL, AV.size, Kd.sz]; done) | (simp [Obs, AV.sizeL, AV.size, Kd.sz]; omega)) ?_)
      try simp only [InBlock, Then]
      refine Tri.split (by simp only [AS.ev, go_sem]; rfl) (fun hd => ?_) (fun hd => ?_)
      · have hd' : i < 4 := by
          have : (i : Int) < 4 := by simpa using hd
          omega
        refine Tri.seq (Tri.drw (mixed) (cfgD_ok.pins _) (by simp (maxSteps := 2000000) (disch := first | decide | omega | (simp only [List.length_append, List.length_cons, List.length_nil, List.length_take, List.length_drop]; omega)) only [Tryd.f55, kNew, kBoxes, kTwice, cfgD, tyTabS, go_sem]; rfl) (by first | exact True.intro | (simp only [Obs, and_true, true_and]; omega) | (simp [Obs, AV.sizeL, AV.size, Kd.sz]; done) | (simp [Obs, AV.sizeL, AV.size, Kd.sz]; omega)) (by kernel_rfl) ?_)
        refine Tri.exit ?_
        simp only [Then, InBlock, if_true]
        refine (Tri.rgn (cfgD_ok.pins _) (by simp (maxSteps := 2000000) (disch := first | decide | omega | (simp only [List.length_append, List.length_cons, List.length_nil, List.length_take, List.length_drop]; omega)) only [Tryd.f55, kNew, kBoxes, kTwice, cfgD, tyTabS, go_sem]; rfl) (by first | exact True.intro | (simp only [Obs, and_true, true_and]; omega) | (simp [Obs, AV.sizeL, AV.size, Kd.sz]; done) | (simp [Obs, AV.sizeL, AV.size, Kd.sz]; omega)) ?_)
        try simp only [InBlock, Then]
        refine ⟨i + 1, (by omega), (by omega), Wk.of ?_ ?_ rfl rfl⟩
        · simp only [lessTs, List.reduceReplicate, List.cons_append, List.nil_append, keyI, keyStep, if_pos hd'] <;> ((repeat' apply And.intro) <;> first | rfl | trivial)
        · simp only [lessHs, keyI, keyStep, if_pos hd'] <;> ((repeat' apply And.intro) <;> first | rfl | trivial)
      · have hd' : ¬ i < 4 := by
          have : ¬ (i : Int) < 4 := by simpa using hd
          omega
        obtain ⟨m1, hm1⟩ : ∃ m : Nat, (i : Int) - 1 = (m : Int) := ⟨i - 1, by omega⟩
        obtain ⟨m4, hm4⟩ : ∃ m : Nat, (i : Int) - 4 = (m : Int) := ⟨i - 4, by omega⟩
        have hn1 : m1 = i - 1 := by omega
        have hn4 : m4 = i - 4 := by omega
        refine Tri.skp ?_
        refine Tri.seq (Tri.reg (cfgD_ok.pins _) (by simp (maxSteps := 2000000) (disch := first | decide | omega | (simp only [List.length_append, List.length_cons, List.length_nil, List.length_take, List.length_drop]; omega)) only [Tryd.f55, kNew, kBoxes, kTwice, cfgD, tyTabS, hm1, hm4, go_sem]; rfl) (by first | exact True.intro | (simp only [Obs, and_true, true_and]; omega) | (simp [Obs, AV.sizeL, AV.size, Kd.sz]; done) | (simp [Obs, AV.sizeL, AV.size, Kd.sz]; omega)) ?_)
        refine Tri.seqWk (fun q : UInt8 × List (List UInt8) => (⟨[none, some (.ptr 0 [] 0), none, some (.ptr 1 [] 0), some (.int .u8 q.1), some (.int .i64 (i : Int)), some (.ptr 1 [1, i] (256 + i * 4)), none, none, none, none, none, some (.int .i64 (i : Int))] ++ List.replicate 94 none, [.live (.pure a16 key), .live (.pure cipK (box0, q.2, ()))]⟩ : AS)) (fun q => keyI box0 key (i + 1) = (q.1, kxI q.2 i 4)) ?_ ?_
        · refine Tri.seq ?_
          refine (Tri.rgn (cfgD_ok.pins _) (by simp (maxSteps := 2000000) (disch := first | decide | omega | (simp only [List.length_append, List.length_cons, List.length_nil, List.length_take, List.length_drop]; omega)) only [Tryd.f55, kNew, kBoxes, kTwice, cfgD, tyTabS, hm1, hm4, go_sem]; rfl) (by first | exact True.intro | (simp only [Obs, and_true, true_and]; omega) | (simp [Obs, AV.sizeL, AV.size, Kd.sz]; done) | (simp [Obs, AV.sizeL, AV.size, Kd.sz]; omega)) ?_)
          try simp only [InBlock, Then]
          generalize hk1 : (keyI box0 key i).2.set i ((keyI box0 key i).2.getD m1 [0, 0, 0, 0]) = k1
          refine Tri.split (by simp only [AS.ev, go_sem]; rfl) (fun he => ?_) (fun he => ?_)
          · have he' : i % 4 = 0 := by
              have : ((i % 4 : Nat) : Int) = 0 := by simpa using he
              omega
            have hl1 := UInt8.toNat_lt ((k1.getD i [0, 0, 0, 0]).getD 1 0)
            have hl2 := UInt8.toNat_lt ((k1.getD i [0, 0, 0, 0]).getD 2 0)
            have hl3 := UInt8.toNat_lt ((k1.getD i [0, 0, 0, 0]).getD 3 0)
            have hl0 := UInt8.toNat_lt ((k1.getD i [0, 0, 0, 0]).getD 0 0)
            refine Tri.seq (Tri.drw (mixed) (cfgD_ok.pins _) (by simp (maxSteps := 2000000) (disch := first | decide | omega | (simp only [List.length_append, List.length_cons, List.length_nil, List.length_take, List.length_drop]; omega)) only [Tryd.f55, kNew, kBoxes, kTwice, cfgD, tyTabS, hm1, hm4, go_sem]; rfl) (by (simp only [Obs, and_true, true_and]; generalize ((k1.getD i [0, 0, 0, 0]).getD 1 0).toNat = z1 at *; generalize ((k1.getD i [0, 0, 0, 0]).getD 2 0).toNat = z2 at *; generalize ((k1.getD i [0, 0, 0, 0]).getD 3 0).toNat = z3 at *; generalize ((k1.getD i [0, 0, 0, 0]).getD 0 0).toNat = z0 at *; omega)) (by kernel_rfl) ?_)
            refine (Tri.rgn (cfgD_ok.pins _) (by simp (maxSteps := 2000000) (disch := first | decide | omega | (simp only [List.length_append, List.length_cons, List.length_nil, List.length_take, List.length_drop]; omega)) only [Tryd.f55, kNew, kBoxes, kTwice, cfgD, tyTabS, hm1, hm4, go_sem]; rfl) (by first | exact True.intro | (simp only [Obs, and_true, true_and]; omega) | (simp [Obs, AV.sizeL, AV.size, Kd.sz]; done) | (simp [Obs, AV.sizeL, AV.size, Kd.sz]; omega)) ?_)
            try simp only [InBlock, Then]
            refine ⟨(twice (keyI box0 key i).1, k1.set i [box0.getD ((k1.getD i [0, 0, 0, 0]).getD 1 0).toNat 0 ^^^ (keyI box0 key i).1, box0.getD ((k1.getD i [0, 0, 0, 0]).getD 2 0).toNat 0, box0.getD ((k1.getD i [0, 0, 0, 0]).getD 3 0).toNat 0, box0.getD ((k1.getD i [0, 0, 0, 0]).getD 0 0).toNat 0]), ?_, Wk.of ?_ ?_ rfl rfl⟩
            rotate_left
            · simp only [lessTs, List.reduceReplicate, List.cons_append, List.nil_append] <;> ((repeat' apply And.intro) <;> first | rfl | trivial)
            · simp only [lessHs] <;> ((repeat' apply And.intro) <;> first | rfl | trivial)
            · simp only [keyI, keyStep, if_neg hd', if_pos he', ← hn1, hk1]
          · have he' : ¬ i % 4 = 0 := by
              have : ¬ ((i % 4 : Nat) : Int) = 0 := by simpa using he
              omega
            refine Tri.skp ?_
            refine ⟨((keyI box0 key i).1, k1), ?_, Wk.of ?_ ?_ rfl rfl⟩
            rotate_left
            · simp only [lessTs, List.reduceReplicate, List.cons_append, List.nil_append] <;> ((repeat' apply And.intro) <;> first | rfl | trivial)
            · simp only [lessHs] <;> ((repeat' apply And.intro) <;> first | rfl | trivial)
            · simp only [keyI, keyStep, if_neg hd', if_neg he', ← hn1, hk1]
        · rintro ⟨rd, ks⟩ hq
          refine Tri.seq (Tri.reg (cfgD_ok.pins _) (by simp (maxSteps := 2000000) (disch := first | decide | omega | (simp only [List.length_append, List.length_cons, List.length_nil, List.length_take, List.length_drop]; omega)) only [Tryd.f55, kNew, kBoxes, kTwice, cfgD, tyTabS, hm1, hm4, go_sem]; rfl) (by first | exact True.intro | (simp only [Obs, and_true, true_and]; omega) | (simp [Obs, AV.sizeL, AV.size, Kd.sz]; done) | (simp [Obs, AV.sizeL, AV.size, Kd.sz]; omega)) ?_)
          refine Tri.block ?_
          refine Tri.loop (fun j : Nat => (⟨[none, some (.ptr 0 [] 0), none, some (.ptr 1 [] 0), some (.int .u8 rd), some (.int .i64 (i : Int)), some (.ptr 1 [1, i] (256 + i * 4)), none, none, none, none, none, some (.int .i64 (i : Int))] ++ List.replicate 71 none ++ [some (.int .i64 (j : Int))] ++ List.replicate 22 none, [.live (.pure a16 key), .live (.pure cipK (box0, kxI ks i j, ()))]⟩ : AS)) (· ≤ 4) (fun k => 4 - k) 0 ?_ (Nat.zero_le _) ?_
          · refine Wk.of ?_ ?_ rfl rfl
            · simp only [lessTs, List.reduceReplicate, List.cons_append, List.nil_append] <;> ((repeat' apply And.intro) <;> first | rfl | trivial)
            · simp only [lessHs, kxI] <;> ((repeat' apply And.intro) <;> first | rfl | trivial)
          · intro j hj
            refine Tri.seq (Tri.reg (cfgD_ok.pins _) (by simp (maxSteps := 2000000) (disch := first | decide | omega | (simp only [List.length_append, List.length_cons, List.length_nil, List.length_take, List.length_drop]; omega)) only [Tryd.f55, kNew, kBoxes, kTwice, cfgD, tyTabS, hm1, hm4, go_sem]; rfl) (by first | exact True.intro | (simp only [Obs, and_true, true_and]; omega) | (simp [Obs, AV.sizeL, AV.size, Kd.sz]; done) | (simp [Obs, AV.sizeL, AV.size, Kd.sz]; omega)) ?_)
            refine Tri.seq ?_
            refine Tri.split (by simp only [AS.ev, go_sem]; rfl) (fun hf => ?_) (fun hf => ?_)
            · have hf' : j < 4 := by
                have : (j : Int) < 4 := by simpa using hf
                omega
              refine Tri.skp ?_
              refine Tri.seq (Tri.block ?_)
              refine Tri.seq (Tri.reg (cfgD_ok.pins _) (by simp (maxSteps := 2000000) (disch := first | decide | omega | (simp only [List.length_append, List.length_cons, List.length_nil, List.length_take, List.length_drop]; omega)) only [Tryd.f55, kNew, kBoxes, kTwice, cfgD, tyTabS, hm1, hm4, go_sem]; rfl) (by first | exact True.intro | (simp only [Obs, and_true, true_and]; omega) | (simp [Obs, AV.sizeL, AV.size, Kd.sz]; done) | (simp [Obs, AV.sizeL, AV.size, Kd.sz]; omega)) ?_)
              refine (Tri.drn (mixed) (cfgD_ok.pins _) (by simp (maxSteps := 2000000) (disch := first | decide | omega | (simp only [List.length_append, List.length_cons, List.length_nil, List.length_take, List.length_drop]; omega)) only [Tryd.f55, kNew, kBoxes, kTwice, cfgD, tyTabS, hm1, hm4, go_sem]; rfl) (by first | exact True.intro | (simp only [Obs, and_true, true_and]; omega) | (simp [Obs, AV.sizeL, AV.size, Kd.sz]; done) | (simp [Obs, AV.sizeL, AV.size, Kd.sz]; omega)) (by kernel_rfl) ?_)
              try simp only [InBlock, Then]
              refine (Tri.rgn (cfgD_ok.pins _) (by simp (maxSteps := 2000000) (disch := first | decide | omega | (simp only [List.length_append, List.length_cons, List.length_nil, List.length_take, List.length_drop]; omega)) only [Tryd.f55, kNew, kBoxes, kTwice, cfgD, tyTabS, hm1, hm4, go_sem]; rfl) (by first | exact True.intro | (simp only [Obs, and_true, true_and]; omega) | (simp [Obs, AV.sizeL, AV.size, Kd.sz]; done) | (simp [Obs, AV.sizeL, AV.size, Kd.sz]; omega)) ?_)
              try simp only [InBlock, Then]
              refine ⟨j + 1, (by omega), (by omega), Wk.of ?_ ?_ rfl rfl⟩
              · simp only [lessTs, List.reduceReplicate, List.cons_append, List.nil_append] <;> ((repeat' apply And.intro) <;> first | rfl | trivial)
              · simp only [lessHs, kxI, ← hn4] <;> ((repeat' apply And.intro) <;> first | rfl | trivial)
            · refine Tri.exit ?_
              have hf' : j = 4 := by
                have : ¬ (j : Int) < 4 := by simpa using hf
                omega
              subst hf'
              simp only [Then, InBlock, if_true]
              refine (Tri.rgn (cfgD_ok.pins _) (by simp (maxSteps := 2000000) (disch := first | decide | omega | (simp only [List.length_append, List.length_cons, List.length_nil, List.length_take, List.length_drop]; omega)) only [Tryd.f55, kNew, kBoxes, kTwice, cfgD, tyTabS, hm1, hm4, go_sem]; rfl) (by first | exact True.intro | (simp only [Obs, and_true, true_and]; omega) | (simp [Obs, AV.sizeL, AV.size, Kd.sz]; done) | (simp [Obs, AV.sizeL, AV.size, Kd.sz]; omega)) ?_)
              try simp only [InBlock, Then]
              refine ⟨i + 1, (by omega), (by omega), Wk.of ?_ ?_ rfl rfl⟩
              · simp only [lessTs, List.reduceReplicate, List.cons_append, List.nil_append, hq] <;> ((repeat' apply And.intro) <;> first | rfl | trivial)
              · simp only [lessHs, hq] <;> ((repeat' apply And.intro) <;> first | rfl | trivial)
    · have hc' : i = 44 := by
        have : ¬ (i : Int) < 44 := by simpa using hc
        omega
      subst hc'
      refine Tri.exit ?_
      simp only [Then, InBlock, if_true]
      refine Tri.seq (Tri.reg (cfgD_ok.pins _) (by simp (maxSteps := 2000000) (disch := first | decide | omega | (simp only [List.length_append, List.length_cons, List.length_nil, List.length_take, List.length_drop]; omega)) only [Tryd.f55, kNew, kBoxes, kTwice, cfgD, tyTabS, go_sem]; rfl) (by first | exact True.intro | (simp only [Obs, and_true, true_and]; omega) | (simp [Obs, AV.sizeL, AV.size, Kd.sz]; done) | (simp [Obs, AV.sizeL, AV.size, Kd.sz]; omega)) ?_)
      refine Tri.ret ?_
      refine Con.fin (.inl rfl) (by simp only [Tryd.f55, cfgD, tyTabS, resA, resA1, go_sem]; rfl) (by simp only [Obs, and_true, true_and]) rfl ?_ rfl rfl
      simp only [lessHs, kNew, Con.of, List.map] <;> ((repeat' apply And.intro) <;> first | rfl | trivial)
theorem new_sum : FSumOK Tryd.prog cfgD.G 55 kNew.sum := Con.sumOK cfgD_ok kNew Tryd.func55 rfl rfl (Con.of_inv _ _ _) new_body
end Go.Proofs.YticgfjalikmniaaDoor.Ae

namespace Go.Proofs.YticgfjalikmniaaDoor.Ae
open Go.Vc Go.Proofs
set_option maxRecDepth 10000
set_option maxHeartbeats 4000000
def strI (box : List UInt8) (keys : List (List UInt8)) (nonce : UInt64) (data : List UInt8) : Nat → List UInt8 × List UInt8
  | 0 => (List.replicate data.length 0, List.replicate 16 0)
  | i + 1 =>
    let s := strI box keys nonce data i
    let b := if i % 16 = 0 then rndI box keys (ctI nonce (UInt64.ofInt ((i / 16 : Nat) : Int)) 8).2.2 10 else s.2
    (s.1.set i (data.getD i 0 ^^^ b.getD (i % 16) 0), b)
def kStream : Con := Con.of [.p cipK, .v (.int .u64), .v (.slice false (.int .u8))] (fun x => [List.length (α := UInt8) x.2.2.1 ≤ 1048576])
  (fun x => ⟨.tsl 1 [] 0 0 1 (List.length (α := UInt8) x.2.2.1), [.pure cipK x.1, .pure (.arr (List.length (α := UInt8) x.2.2.1) (.int .u8)) (strI x.1.1 x.1.2.1 x.2.1 x.2.2.1 (List.length (α := UInt8) x.2.2.1)).1, .pure a16 (strI x.1.1 x.1.2.1 x.2.1 x.2.2.1 (List.length (α := UInt8) x.2.2.1)).2]⟩)
theorem stream_body (p : kStream.Par) (hp : ∀ q ∈ kStream.pre p, q) : BodyOK Tryd.prog cfgD Tryd.f56 (Tryd.f56.body.get rfl) kStream p := by
  obtain ⟨⟨(box : List UInt8), (keys : List (List UInt8)), u1⟩, (nonce : UInt64), (data : List UInt8), u⟩ := p
  obtain ⟨hlen, _⟩ := Obs.of hp
  replace hlen : data.length ≤ 1048576 := hlen
  refine ⟨?_, by simp [kStream, Con.of, AK.cnt], rfl, rfl⟩
  show Tri _ _ _ (Code.seq _ (Code.seq _ (Code.seq _ (Code.seq (Code.seq _ (Code.block _ (Code.loop (Code.seq _ (Code.seq (Code.cond _ _ _) (Code.seq (Code.block _ (Code.seq _ (Code.seq (Code.seq _ (Code.cond _ _ _)) _))) _)))))) (Code.seq _ _))))) _
  refine Tri.seq (Tri.reg (cfgD_ok.pins _) (by simp (maxSteps := 2000000) (disch := first | decide | omega | (simp only [List.length_append, List.length_cons, List.length_nil, List.length_take, List.length_drop]; omega)) only [Tryd.f56, kStream, kCounter, kBlock, cfgD, tyTabS, go_sem]; rfl) (by first | exact True.intro | (simp only [Obs, and_true, true_and]; omega) | (simp [Obs, AV.sizeL, AV.size, Kd.sz]; done) | (simp [Obs, AV.sizeL, AV.size, Kd.sz]; omega)) ?_)
  refine Tri.seq (Tri.reg (cfgD_ok.pins _) (by simp (maxSteps := 2000000) (disch := first | decide | omega | (simp only [List.length_append, List.length_cons, List.length_nil, List.length_take, List.length_drop]; omega)) only [Tryd.f56, kStream, kCounter, kBlock, cfgD, tyTabS, go_sem]; rfl) (by first | exact True.intro | (simp only [Obs, and_true, true_and]; omega) | (simp [Obs, AV.sizeL, AV.size, Kd.sz]; done) | (simp [Obs, AV.sizeL, AV.size, Kd.sz]; omega)) ?_)
  refine Tri.seq (Tri.reg (cfgD_ok.pins _) (by simp (maxSteps := 2000000) (disch := first | decide | omega | (simp only [List.length_append, List.length_cons, List.length_nil, List.length_take, List.length_drop]; omega)) only [Tryd.f56, kStream, kCounter, kBlock, cfgD, tyTabS, go_sem]; rfl) (by first | exact True.intro | (simp only [Obs, and_true, true_and]; omega) | (simp [Obs, AV.sizeL, AV.size, Kd.sz]; done) | (simp [Obs, AV.sizeL, AV.size, Kd.sz]; omega)) ?_)
  refine Tri.seq ?_
  refine Tri.seq (Tri.reg (cfgD_ok.pins _) (by simp (maxSteps := 2000000) (disch := first | decide | omega | (simp only [List.length_append, List.length_cons, List.length_nil, List.length_take, List.length_drop]; omega)) only [Tryd.f56, kStream, kCounter, kBlock, cfgD, tyTabS, go_sem]; rfl) (by first | exact True.intro | (simp only [Obs, and_true, true_and]; omega) | (simp [Obs, AV.sizeL, AV.size, Kd.sz]; done) | (simp [Obs, AV.sizeL, AV.size, Kd.sz]; omega)) ?_)
  refine Tri.block ?_
  refine Tri.loop (fun i : Nat => (⟨[some (.ptr 0 [] 0), some (.int .u64 nonce), none, none, none, none, none, some (.tsl 1 [] 0 0 1 data.length), some (.ptr 2 [] 0), none, none, none, none, none, some (.pure (.slice false (.int .u8)) data), some (.int .i64 (data.length : Int)), some (.int .i64 (i : Int))] ++ List.replicate 25 none,
    [.live (.pure cipK (box, keys, u1)), .live (.pure (.arr data.length (.int .u8)) (strI box keys nonce data i).1), .live (.pure a16 (strI box keys nonce data i).2)]⟩ : AS)) (· ≤ data.length) (fun k => data.length - k) 0 ?_ (Nat.zero_le _) ?_
  · refine Wk.of ?_ ?_ rfl rfl
    · simp only [lessTs, List.reduceReplicate, List.cons_append, List.nil_append] <;> ((repeat' apply And.intro) <;> first | rfl | trivial)
    · simp only [lessHs, strI] <;> ((repeat' apply And.intro) <;> first | rfl | trivial)
  · intro i hi
    refine Tri.seq (Tri.reg (cfgD_ok.pins _) (by simp (maxSteps := 2000000) (disch := first | decide | omega | (simp only [List.length_append, List.length_cons, List.length_nil, List.length_take, List.length_drop]; omega)) only [Tryd.f56, kStream, kCounter, kBlock, cfgD, tyTabS, go_sem]; rfl) (by first | exact True.intro | (simp only [Obs, and_true, true_and]; omega) | (simp [Obs, AV.sizeL, AV.size, Kd.sz]; done) | (simp [Obs, AV.sizeL, AV.size, Kd.sz]; omega)) ?_)
    refine Tri.seq ?_
    refine Tri.split (by simp only [AS.ev, go_sem]; rfl) (fun hc => ?_) (fun hc => ?_)
    · have hc' : i < data.length := by
        have : (i : Int) < data.length := by simpa using hc
        omega
      refine Tri.skp ?_
      refine Tri.seq (Tri.block ?_)
      refine Tri.seq (Tri.reg (cfgD_ok.pins _) (by simp (maxSteps := 2000000) (disch := first | decide | omega | (simp only [List.length_append, List.length_cons, List.length_nil, List.length_take, List.length_drop]; omega)) only [Tryd.f56, kStream, kCounter, kBlock, cfgD, tyTabS, go_sem]; rfl) (by first | exact True.intro | (simp only [Obs, and_true, true_and]; omega) | (simp [Obs, AV.sizeL, AV.size, Kd.sz]; done) | (simp [Obs, AV.sizeL, AV.size, Kd.sz]; omega)) ?_)
      refine Tri.seq (Tri.seq ?_)
      refine (Tri.rgn (cfgD_ok.pins _) (by simp (maxSteps := 2000000) (disch := first | decide | omega | (simp only [List.length_append, List.length_cons, List.length_nil, List.length_take, List.length_drop]; omega)) only [Tryd.f56, kStream, kCounter, kBlock, cfgD, tyTabS, go_sem]; rfl) (by first | exact True.intro | (simp only [Obs, and_true, true_and]; omega) | (simp [Obs, AV.sizeL, AV.size, Kd.sz]; done) | (simp [Obs, AV.sizeL, AV.size, Kd.sz]; omega)) ?_)
      try simp only [InBlock, Then]
      refine Tri.split (by simp only [AS.ev, go_sem]; rfl) (fun hd => ?_) (fun hd => ?_)
      · have hd' : i % 16 = 0 := by
          have : ((i % 16 : Nat) : Int) = 0 := by simpa using hd
          omega
        refine (Tri.rgn (cfgD_ok.pins _) (by simp (maxSteps := 2000000) (disch := first | decide | omega | (simp only [List.length_append, List.length_cons, List.length_nil, List.length_take, List.length_drop]; omega)) only [Tryd.f56, kStream, kCounter, kBlock, cfgD, tyTabS, go_sem]; rfl) (by first | exact True.intro | (simp only [Obs, and_true, true_and]; omega) | (simp [Obs, AV.sizeL, AV.size, Kd.sz]; done) | (simp [Obs, AV.sizeL, AV.size, Kd.sz]; omega)) ?_)
        try simp only [InBlock, Then]
        refine (Tri.rgn (cfgD_ok.pins _) (by simp (maxSteps := 2000000) (disch := first | decide | omega | (simp only [List.length_append, List.length_cons, List.length_nil, List.length_take, List.length_drop]; omega)) only [Tryd.f56, kStream, kCounter, kBlock, cfgD, tyTabS, go_sem]; rfl) (by first | exact True.intro | (simp only [Obs, and_true, true_and]; omega) | (simp [Obs, AV.sizeL, AV.size, Kd.sz]; done) | (simp [Obs, AV.sizeL, AV.size, Kd.sz]; omega)) ?_)
        try simp only [InBlock, Then]
        refine (Tri.rgn (cfgD_ok.pins _) (by simp (maxSteps := 2000000) (disch := first | decide | omega | (simp only [List.length_append, List.length_cons, List.length_nil, List.length_take, List.length_drop]; omega)) only [Tryd.f56, kStream, kCounter, kBlock, cfgD, tyTabS, go_sem]; rfl) (by first | exact True.intro | (simp only [Obs, and_true, true_and]; omega) | (simp [Obs, AV.sizeL, AV.size, Kd.sz]; done) | (simp [Obs, AV.sizeL, AV.size, Kd.sz]; omega)) ?_)
        try simp only [InBlock, Then]
        refine ⟨i + 1, (by omega), (by omega), Wk.of ?_ ?_ rfl rfl⟩
        · simp only [lessTs, List.reduceReplicate, List.cons_append, List.nil_append] <;> ((repeat' apply And.intro) <;> first | rfl | trivial)
        · simp only [lessHs, strI, if_pos hd'] <;> ((repeat' apply And.intro) <;> first | rfl | trivial)
      · have hd' : ¬ i % 16 = 0 := by
          have : ¬ ((i % 16 : Nat) : Int) = 0 := by simpa using hd
          omega
        refine Tri.skp ?_
        refine (Tri.rgn (cfgD_ok.pins _) (by simp (maxSteps := 2000000) (disch := first | decide | omega | (simp only [List.length_append, List.length_cons, List.length_nil, List.length_take, List.length_drop]; omega)) only [Tryd.f56, kStream, kCounter, kBlock, cfgD, tyTabS, go_sem]; rfl) (by first | exact True.intro | (simp only [Obs, and_true, true_and]; omega) | (simp [Obs, AV.sizeL, AV.size, Kd.sz]; done) | (simp [Obs, AV.sizeL, AV.size, Kd.sz]; omega)) ?_)
        try simp only [InBlock, Then]
        refine (Tri.rgn (cfgD_ok.pins _) (by simp (maxSteps := 2000000) (disch := first | decide | omega | (simp only [List.length_append, List.length_cons, List.length_nil, List.length_take, List.length_drop]; omega)) only [Tryd.f56, kStream, kCounter, kBlock, cfgD, tyTabS, go_sem]; rfl) (by first | exact True.intro | (simp only [Obs, and_true, true_and]; omega) | (simp [Obs, AV.sizeL, AV.size, Kd.sz]; done) | (simp [Obs, AV.sizeL, AV.size, Kd.sz]; omega)) ?_)
        try simp only [InBlock, Then]
        refine ⟨i + 1, (by omega), (by omega), Wk.of ?_ ?_ rfl rfl⟩
        · simp only [lessTs, List.reduceReplicate, List.cons_append, List.nil_append] <;> ((repeat' apply And.intro) <;> first | rfl | trivial)
        · simp only [lessHs, strI, if_neg hd'] <;> ((repeat' apply And.intro) <;> first | rfl | trivial)
    · refine Tri.exit ?_
      have hc' : i = data.length := by
        have : ¬ (i : Int) < data.length := by simpa using hc
        omega
      subst hc'
      simp only [Then, InBlock, if_true]
      refine Tri.seq (Tri.reg (cfgD_ok.pins _) (by simp (maxSteps := 2000000) (disch := first | decide | omega | (simp only [List.length_append, List.length_cons, List.length_nil, List.length_take, List.length_drop]; omega)) only [Tryd.f56, kStream, kCounter, kBlock, cfgD, tyTabS, go_sem]; rfl) (by first | exact True.intro | (simp only [Obs, and_true, true_and]; omega) | (simp [Obs, AV.sizeL, AV.size, Kd.sz]; done) | (simp [Obs, AV.sizeL, AV.size, Kd.sz]; omega)) ?_)
      refine Tri.ret ?_
      refine Con.fin (.inl rfl) (by simp only [Tryd.f56, cfgD, tyTabS, resA, resA1, go_sem]; rfl) (by simp only [Obs, and_true, true_and]) rfl ?_ rfl rfl
      simp only [lessHs, kStream, Con.of, List.map] <;> ((repeat' apply And.intro) <;> first | rfl | trivial)
theorem stream_sum : FSumOK Tryd.prog cfgD.G 56 kStream.sum := Con.sumOK cfgD_ok kStream Tryd.func56 rfl rfl (Con.of_inv _ _ _) stream_body
end Go.Proofs.YticgfjalikmniaaDoor.Ae

namespace Go.Proofs.YticgfjalikmniaaDoor.Ae
open Go.Vc Go.Proofs
def ksb (box : List UInt8) (keys : List (List UInt8)) (nonce : UInt64) (j : Nat) : List UInt8 := rndI box keys (ctI nonce (UInt64.ofInt ((j / 16 : Nat) : Int)) 8).2.2 10
def stm (box : List UInt8) (keys : List (List UInt8)) (nonce : UInt64) (data : List UInt8) : List UInt8 := data.mapIdx fun j x => x ^^^ (ksb box keys nonce j).getD (j % 16) 0
section
variable {box : List UInt8} {keys : List (List UInt8)} {nonce : UInt64} {data : List UInt8}
theorem stm_len : (stm box keys nonce data).length = data.length := by simp [stm]
theorem stm_take : List.take data.length (stm box keys nonce data) = stm box keys nonce data := List.take_of_length_le (by simp [stm])
theorem stm_stm : stm box keys nonce (stm box keys nonce data) = data := by
  simp only [stm, List.mapIdx_mapIdx]
  apply List.ext_getElem?
  intro i
  simp only [List.getElem?_mapIdx]
  cases data[i]? with
  | none => rfl
  | some x => simp only [Option.map_some, Function.comp, UInt8.xor_assoc, UInt8.xor_self, UInt8.xor_zero]
theorem take_stm (k : Nat) : List.take k (stm box keys nonce data) = stm box keys nonce (List.take k data) := by
  symm
  apply List.ext_getElem?
  intro i
  simp only [stm, List.getElem?_mapIdx, List.getElem?_take]
  split <;> simp
theorem strEq_self (l : List UInt8) : strEq l l = true := decide_eq_true rfl
theorem strI_blk : ∀ i, 0 < i → (strI box keys nonce data i).2 = ksb box keys nonce (i - 1)
  | 0, h => absurd h (by omega)
  | i + 1, _ => by
    show (if i % 16 = 0 then _ else _) = _
    split
    · rfl
    · rename_i h
      have h0 : 0 < i := by omega
      rw [strI_blk i h0]
      have : (i - 1) / 16 = i / 16 := by omega
      simp only [ksb, Nat.add_sub_cancel, this]
theorem strI_len : ∀ i, (strI box keys nonce data i).1.length = data.length
  | 0 => by simp [strI]
  | i + 1 => by simp only [strI, List.length_set]; exact strI_len i
theorem strI_get : ∀ i, i ≤ data.length → ∀ j, (strI box keys nonce data i).1[j]? = if j < i then some (data.getD j 0 ^^^ (ksb box keys nonce j).getD (j % 16) 0) else if j < data.length then some 0 else none
  | 0, _, j => by simp [strI, List.getElem?_replicate]
  | i + 1, hi, j => by
    have hb : (if i % 16 = 0 then rndI box keys (ctI nonce (UInt64.ofInt ((i / 16 : Nat) : Int)) 8).2.2 10 else (strI box keys nonce data i).2) = ksb box keys nonce i := by
      have := strI_blk (box := box) (keys := keys) (nonce := nonce) (data := data) (i + 1) (by omega)
      exact this
    simp only [strI, hb]
    rw [List.getElem?_set]
    rw [strI_get i (by omega) j, strI_len]
    by_cases h1 : i = j
    · subst h1
      rw [if_pos rfl, if_pos (by omega), if_pos (by omega)]
    · rw [if_neg h1]
      by_cases h2 : j < i
      · rw [if_pos h2, if_pos (by omega)]
      · rw [if_neg h2]
        have : ¬ j < i + 1 := by omega
        simp only [if_neg this]
theorem strI_fst : (strI box keys nonce data data.length).1 = stm box keys nonce data := by
  apply List.ext_getElem?
  intro j
  rw [strI_get _ (Nat.le_refl _)]
  simp only [stm, List.getElem?_mapIdx]
  by_cases h : j < data.length
  · rw [if_pos h]
    simp [h, List.getD_eq_getElem?_getD]
  · rw [if_neg h]
    simp [h]
end
end Go.Proofs.YticgfjalikmniaaDoor.Ae

namespace Go.Proofs
open Go.Shelf
def Tryd.laysSlK4_ren : Go.Shelf.Ren := ⟨fun | 4 => 47 | n => n, fun | 22 => 22 | 4 => 4 | 5 => 5 | n => n, fun | n => n⟩
theorem Tryd.laysSlK4 : Go.Proofs.SlLaysK.n4 Tryd.prog Tryd.laysSlK4_ren := {
  mixed := by kernel_rfl
  f4 := Tryd.func47.trans (congrArg some (by kernel_rfl))
  t4 := Tryd.underlying4
  a4 := Tryd.isAgg4
  z4 := Tryd.sizeOf4
  v4 := Tryd.zeroValue4
  t22 := Tryd.underlying22
  a22 := Tryd.isAgg22
  z22 := Tryd.sizeOf22
  v22 := Tryd.zeroValue22
  t5 := Tryd.underlying5
  i5 := by kernel_rfl }
end Go.Proofs
namespace Go.Proofs.YticgfjalikmniaaDoor
open Go.Vc Go.Proofs
set_option maxRecDepth 10000
set_option maxHeartbeats 4000000
def kClo : Con := Con.ofO [.a (.v (.slice false (.int .u8)))] [] (fun x => [List.length (α := UInt8) x.1 ≤ 140737488355328]) (fun x => ⟨.pure (.slice true (.int .u8)) x.1, []⟩)
theorem clo_sum : FSumOK Tryd.prog shaG 47 kClo.sum := by
  refine Con.sumOKg kClo Tryd.func47 rfl rfl (Con.ofO_inv _ _ _ _) rfl ?_
  rintro ⟨(xs : List UInt8), u⟩ hp
  obtain ⟨h0, _⟩ := Obs.of hp
  replace h0 : xs.length ≤ 140737488355328 := h0
  refine ⟨rfl, rfl, fun x w V hx hV => ?_⟩
  have hV' : RVs x [.pure (.slice false (.int .u8)) xs] V := hV
  clear hV
  cases hV' with
  | cons _ _ X1 _ h2 hr =>
    cases hr
    obtain ⟨A, cap, e1, h4, h5⟩ := h2.slice_inv
    injection e1 with e1 _
    subst e1
    have hlast : ∀ (e : Ending) (w' : World) (v' : Value), e = .returned v' → w'.ownsRow w.heap.size 5 1 v' xs.length (xs.map fun b => Value.int .u8 (UInt8.toNat b : Int)) → RowKit.Below w.heap.size w w' →
        ∃ X, e = .returned X ∧ RowKit.Below w.heap.size w w' ∧ ∀ x' : Ctx, x'.hp = (fun b => w'.heap[b]?) → (∀ own b, w.heap.size ≤ b → x'.ok own b) → RV x' (.pure (.slice true (.int .u8)) xs) X := by
      intro e w' v' he hown hb
      refine ⟨v', he, hb, fun x' hx' hok => ?_⟩
      obtain ⟨_, h | ⟨g, cp, cur, hv, hg, hh, hn, _, hsz, htk⟩⟩ := hown
      · have hx0 : xs = [] := List.eq_nil_of_length_eq_zero h.2
        subst hx0
        rw [h.1]
        exact .one _ _ rfl (.pure _ _ _ ⟨none, 0, rfl, Nat.le_refl _, .inl rfl⟩)
      · rw [hv]
        refine .one _ _ rfl (.pure _ _ _ ⟨_, cp, rfl, hn, .inr ⟨g, 0, cur, 5, (0, 0), _, rfl, hok true g hg, by rw [hx']; exact hh, RL.u8s xs, ?_⟩⟩)
        rw [List.drop_zero, List.length_map]
        rw [Nat.mul_one] at htk
        exact htk
    cases A with
    | none =>
      have hx0 : xs = [] := by
        rcases h5 with h5 | ⟨b, o, rc, el, fr, flat, h6, _⟩
        · exact h5
        · cases h6
      subst hx0
      exact (Any.bytes_Clone_nil (P := Tryd.prog) Tryd.laysSlK4 0 cap w).mono fun e w' ⟨h, hw⟩ => hlast e w' _ h ⟨rfl, .inl ⟨rfl, rfl⟩⟩ (hw ▸ RowKit.Below.refl _ _)
    | some a =>
      have hcl := Any.bytes_Clone_at (P := Tryd.prog) Tryd.laysSlK4 a xs.length cap (xs.map fun b => (UInt8.toNat b : Int)) w (by rw [List.length_map]) h0 (fun i hi => by
        rcases h5 with h5 | ⟨b, o, rc, el, fr, flat, h6, _, h7, h8, h9⟩
        · have : xs = [] := h5
          subst this
          simp at hi
        · injection h6 with h6
          subst h6
          have hfl := Reads.u8s h8
          rw [hx] at h7
          have h7' : w.heap[b]? = some (.cells rc el fr) := h7
          have hj1 : flat[i]? = some (.int .u8 (UInt8.toNat (xs[i]) : Int)) := by rw [hfl, List.getElem?_map, List.getElem?_eq_getElem hi]; rfl
          have hjl : i < flat.length := (List.getElem?_eq_some_iff.1 hj1).1
          rw [← h9, List.getElem?_take, if_pos hjl, List.getElem?_drop, Array.getElem?_toList] at hj1
          have hadd : (⟨b, o, none⟩ : Addr).add i = ⟨b, o + i, none⟩ := by
            by_cases hi0 : i = 0
            · subst hi0; rfl
            · simp [Addr.add, hi0]
          rw [hadd]
          simp only [World.cell?, h7', Option.isSome_none, Bool.false_eq_true, if_false]
          rw [hj1, List.getD_eq_getElem?_getD, List.getElem?_map, List.getElem?_eq_getElem hi]
          rfl)
      refine hcl.mono fun e w' ⟨v', he, hown, _, hb⟩ => hlast e w' v' he ?_ hb
      rw [List.map_map] at hown
      exact hown
def wdI (n : UInt64) : Nat → UInt64 × List UInt8
  | 0 => (n, [0, 0, 0, 0, 0, 0, 0, 0])
  | j + 1 => ((wdI n j).1 >>> 8, (wdI n j).2.set (7 - j) (wdI n j).1.toUInt8)
def wd (n : UInt64) : List UInt8 := (wdI n 8).2
theorem wdI_len (n : UInt64) : ∀ j, (wdI n j).2.length = 8
  | 0 => rfl
  | j + 1 => by simp only [wdI, List.length_set]; exact wdI_len n j
theorem wd_len (n : UInt64) : (wd n).length = 8 := wdI_len n 8
def kWide : Con := Con.of [.v (.int .u64)] (fun _ => []) (fun x => ⟨.tsl 0 [] 0 0 1 8, [.pure (.arr 8 (.int .u8)) (wd x.1)]⟩)
def cfgSA : Cfg2 := { ty := tyTabS, fn := fun | 27 => some kDer.sum | 24 => some kMac.sum | 55 => some Ae.kNew.sum | 56 => some Ae.kStream.sum | _ => none, G := shaG, pin := [], eq := fun _ => none }
theorem cfgSA_ok : CfgOK Tryd.prog cfgSA := ⟨tyTabS_ok, (fun f s h => by
  simp only [cfgSA] at h
  split at h
  · injection h with h; subst h; exact .inl der_sum
  · injection h with h; subst h; exact .inl mac_sum
  · injection h with h; subst h; exact .inl Ae.new_sum
  · injection h with h; subst h; exact .inl Ae.stream_sum
  · cases h), (fun t d h => by cases h)⟩
section
attribute [local go_sem] Tryd.f48 kWide cfgSA tyTabS
theorem wide_body (p : kWide.Par) (hp : ∀ q ∈ kWide.pre p, q) : BodyOK Tryd.prog cfgSA Tryd.f48 (Tryd.f48.body.get rfl) kWide p := by
  obtain ⟨(n : UInt64), u⟩ := p
  refine ⟨?_, Nat.zero_le _, rfl, rfl⟩
  show Tri _ _ _ (Code.seq _ (Code.seq _ (Code.seq (Code.seq _ (Code.block _ (Code.loop (Code.seq (Code.seq _ (Code.cond _ _ _)) (Code.seq (Code.block _ (Code.seq _ _)) _))))) (Code.seq _ _)))) _
  refine Tri.at (by first | (simp only [go_sem, Con.start, go_sem]; rfl) | rfl) ?_
  repeat (first | ((first | refine Tri.seq (Tri.regT (cfgSA_ok.pins _) ?_) | refine Tri.rgnT (cfgSA_ok.pins _) ?_); (repeat (first | refine RunT.oneA (hp := by simp (maxSteps := 2000000) (disch := first | decide | omega | (simp only [List.length_append, List.length_cons, List.length_nil, List.length_take, List.length_drop]; omega)) only [go_sem, go_sem]; rfl) (h := ?_) | refine RunT.notA (h := ?_))); refine RunT.nil ?_; try simp only [InBlock, Then]) | refine Tri.cF (by first | (simp only [go_sem, go_sem]; done) | fail) ?_ | refine Tri.cT (by first | (simp only [go_sem, go_sem]; done) | fail) ?_ | (refine Tri.skip ?_; try simp only [InBlock, Then]) | (refine Tri.exit ?_; simp only [Then, InBlock, if_true, if_false, ↓reduceIte, Nat.reduceEqDiff]) | refine Tri.seq (Tri.block ?_) | refine Tri.block ?_ | refine Tri.seq ?_ | (refine Tri.ret ?_; refine Con.fin (.inl rfl) (by simp only [Tryd.f48, cfgSA, resA, resA1, go_sem]; rfl) (by simp only [Obs, and_true, true_and]) (by first | (simp only [kWide, Con.of, Con.ofO, resV, go_sem, go_sem]; done) | fail) trivial rfl rfl))
  refine Tri.loop (fun j : Nat => (⟨[some (.int .u64 (wdI n j).1), none, none, some (.tsl 0 [] 0 0 1 8), some (.int .i64 (7 - (j : Int)))] ++ List.replicate 13 none, [.live (.pure (.arr 8 (.int .u8)) (wdI n j).2)]⟩ : AS)) (fun j => j ≤ 8) (fun j => 8 - j) 0 ?_ (Nat.zero_le _) ?_
  · refine Wk.of ?_ ?_ rfl rfl
    · simp only [lessTs, List.reduceReplicate, List.cons_append, List.nil_append, wdI] <;> ((repeat' apply And.intro) <;> first | with_reducible rfl | exact True.intro | exact congrArg (fun z : Int => some (AV.int IntKind.i64 z)) (show (_ : Int) = _ by omega) | exact congrArg (fun z : Nat => some (AV.tsl _ _ _ _ _ z)) (show (_ : Nat) = _ by omega) | exact arrEq (by omega) (by with_reducible rfl))
    · simp only [lessHs, wdI] <;> ((repeat' apply And.intro) <;> first | with_reducible rfl | exact True.intro | exact congrArg (fun z : Int => some (AV.int IntKind.i64 z)) (show (_ : Int) = _ by omega) | exact congrArg (fun z : Nat => some (AV.tsl _ _ _ _ _ z)) (show (_ : Nat) = _ by omega) | exact arrEq (by omega) (by with_reducible rfl))
  · intro j hj
    by_cases h1 : j < 8
    · have h1' : decide (7 - (j : Int) < 0) = false := decide_eq_false (by omega)
      obtain ⟨m, hm⟩ : ∃ m : Nat, 7 - (j : Int) = (m : Int) := ⟨7 - j, by omega⟩
      have hm' : 7 - j = m := by omega
      rw [hm] at h1'
      refine Tri.at (by first | (simp only [h1', hm, Con.start, go_sem]; rfl) | rfl) ?_
      repeat (first | ((first | refine Tri.seq (Tri.regT (cfgSA_ok.pins _) ?_) | refine Tri.rgnT (cfgSA_ok.pins _) ?_); (repeat (first | refine RunT.oneA (hp := by simp (maxSteps := 2000000) (disch := first | decide | omega | (simp only [List.length_append, List.length_cons, List.length_nil, List.length_take, List.length_drop]; omega)) only [h1', hm, go_sem]; rfl) (h := ?_) | refine RunT.notA (h := ?_))); refine RunT.nil ?_; try simp only [InBlock, Then]) | refine Tri.cF (by first | (simp only [h1', hm, go_sem]; done) | fail) ?_ | refine Tri.cT (by first | (simp only [h1', hm, go_sem]; done) | fail) ?_ | (refine Tri.skip ?_; try simp only [InBlock, Then]) | (refine Tri.exit ?_; simp only [Then, InBlock, if_true, if_false, ↓reduceIte, Nat.reduceEqDiff]) | refine Tri.seq (Tri.block ?_) | refine Tri.block ?_ | refine Tri.seq ?_ | (refine Tri.ret ?_; refine Con.fin (.inl rfl) (by simp only [Tryd.f48, cfgSA, resA, resA1, go_sem]; rfl) (by simp only [Obs, and_true, true_and]) (by first | (simp only [kWide, Con.of, Con.ofO, resV, h1', hm, go_sem]; done) | fail) trivial rfl rfl))
      refine ⟨j + 1, (by omega), (by omega), Wk.of ?_ ?_ rfl rfl⟩
      · simp only [lessTs, wdI, show (m : Int) - 1 = 7 - ((j + 1 : Nat) : Int) by omega, go_sem] <;> ((repeat' apply And.intro) <;> first | with_reducible rfl | exact True.intro | exact congrArg (fun z : Int => some (AV.int IntKind.i64 z)) (show (_ : Int) = _ by omega) | exact congrArg (fun z : Nat => some (AV.tsl _ _ _ _ _ z)) (show (_ : Nat) = _ by omega) | exact arrEq (by omega) (by with_reducible rfl))
      · simp only [lessHs, wdI, hm'] <;> ((repeat' apply And.intro) <;> first | with_reducible rfl | exact True.intro | exact congrArg (fun z : Int => some (AV.int IntKind.i64 z)) (show (_ : Int) = _ by omega) | exact congrArg (fun z : Nat => some (AV.tsl _ _ _ _ _ z)) (show (_ : Nat) = _ by omega) | exact arrEq (by omega) (by with_reducible rfl))
    · have h1' : decide (7 - (j : Int) < 0) = true := decide_eq_true (by omega)
      have hj8 : j = 8 := by omega
      subst hj8
      refine Tri.at (by first | (simp only [h1', Con.start, go_sem]; rfl) | rfl) ?_
      repeat (first | ((first | refine Tri.seq (Tri.regT (cfgSA_ok.pins _) ?_) | refine Tri.rgnT (cfgSA_ok.pins _) ?_); (repeat (first | refine RunT.oneA (hp := by simp (maxSteps := 2000000) (disch := first | decide | omega | (simp only [List.length_append, List.length_cons, List.length_nil, List.length_take, List.length_drop]; omega)) only [h1', go_sem]; rfl) (h := ?_) | refine RunT.notA (h := ?_))); refine RunT.nil ?_; try simp only [InBlock, Then]) | refine Tri.cF (by first | (simp only [h1', go_sem]; done) | fail) ?_ | refine Tri.cT (by first | (simp only [h1', go_sem]; done) | fail) ?_ | (refine Tri.skip ?_; try simp only [InBlock, Then]) | (refine Tri.exit ?_; simp only [Then, InBlock, if_true, if_false, ↓reduceIte, Nat.reduceEqDiff]) | refine Tri.seq (Tri.block ?_) | refine Tri.block ?_ | refine Tri.seq ?_ | (refine Tri.ret ?_; refine Con.fin (.inl rfl) (by simp only [Tryd.f48, cfgSA, resA, resA1, go_sem]; rfl) (by simp only [Obs, and_true, true_and]) (by first | (simp only [kWide, Con.of, Con.ofO, resV, h1', go_sem]; done) | fail) trivial rfl rfl))
      refine Tri.ret ?_
      refine Con.fin (.inl rfl) (by simp only [Tryd.f48, cfgSA, resA, resA1, go_sem]; rfl) (by simp only [Obs, and_true, true_and]) ?_ ?_ rfl rfl
      · rfl
      · exact ⟨rfl, trivial⟩
theorem wide_sum : FSumOK Tryd.prog cfgSA.G 48 kWide.sum := Con.sumOK cfgSA_ok kWide Tryd.func48 rfl rfl (Con.of_inv _ _ _) wide_body
end
def nbI (b : List UInt8) : Nat → UInt64
  | 0 => 0
  | i + 1 => (nbI b i <<< 8) ||| (b.getD i 0).toUInt64
def nb (b : List UInt8) : UInt64 := nbI b b.length
def kNb : Con := Con.of [.v (.slice false (.int .u8))] (fun x => [List.length (α := UInt8) x.1 ≤ 100000]) (fun x => ⟨.int .u64 (nb x.1), []⟩)
section
attribute [local go_sem] Tryd.f52 kNb cfgSA tyTabS
theorem number_body (p : kNb.Par) (hp : ∀ q ∈ kNb.pre p, q) : BodyOK Tryd.prog cfgSA Tryd.f52 (Tryd.f52.body.get rfl) kNb p := by
  obtain ⟨(b : List UInt8), u⟩ := p
  obtain ⟨h0, _⟩ := Obs.of hp
  replace h0 : b.length ≤ 100000 := h0
  refine ⟨?_, Nat.zero_le _, rfl, rfl⟩
  show Tri _ _ _ (Code.seq _ (Code.seq (Code.seq _ (Code.block _ (Code.loop (Code.seq _ (Code.seq (Code.cond _ _ _) (Code.seq (Code.block _ (Code.seq _ _)) _)))))) (Code.seq _ _))) _
  refine Tri.at (by first | (simp only [go_sem, Con.start, go_sem]; rfl) | rfl) ?_
  repeat (first | ((first | refine Tri.seq (Tri.regT (cfgSA_ok.pins _) ?_) | refine Tri.rgnT (cfgSA_ok.pins _) ?_); (repeat (first | refine RunT.oneA (hp := by simp (maxSteps := 2000000) (disch := first | decide | omega | (simp only [List.length_append, List.length_cons, List.length_nil, List.length_take, List.length_drop]; omega)) only [go_sem, go_sem]; rfl) (h := ?_) | refine RunT.notA (h := ?_))); refine RunT.nil ?_; try simp only [InBlock, Then]) | refine Tri.cF (by first | (simp only [go_sem, go_sem]; done) | fail) ?_ | refine Tri.cT (by first | (simp only [go_sem, go_sem]; done) | fail) ?_ | (refine Tri.skip ?_; try simp only [InBlock, Then]) | (refine Tri.exit ?_; simp only [Then, InBlock, if_true, if_false, ↓reduceIte, Nat.reduceEqDiff]) | refine Tri.seq (Tri.block ?_) | refine Tri.block ?_ | refine Tri.seq ?_ | (refine Tri.ret ?_; refine Con.fin (.inl rfl) (by simp only [Tryd.f52, cfgSA, resA, resA1, go_sem]; rfl) (by simp only [Obs, and_true, true_and]) (by first | (simp only [kNb, Con.of, Con.ofO, resV, go_sem, go_sem]; done) | fail) trivial rfl rfl))
  refine Tri.loop (fun i : Nat => (⟨[none, none, some (.int .u64 (nbI b i)), none, none, some (.pure (.slice false (.int .u8)) b), some (.int .i64 (b.length : Int)), some (.int .i64 (i : Int))] ++ List.replicate 10 none, []⟩ : AS)) (fun i => i ≤ b.length) (fun i => b.length - i) 0 ?_ (Nat.zero_le _) ?_
  · refine Wk.of ?_ ?_ rfl rfl
    · simp only [lessTs, List.reduceReplicate, List.cons_append, List.nil_append, nbI] <;> ((repeat' apply And.intro) <;> first | with_reducible rfl | exact True.intro | exact congrArg (fun z : Int => some (AV.int IntKind.i64 z)) (show (_ : Int) = _ by omega) | exact congrArg (fun z : Nat => some (AV.tsl _ _ _ _ _ z)) (show (_ : Nat) = _ by omega) | exact arrEq (by omega) (by with_reducible rfl))
    · simp only [lessHs, nbI] <;> ((repeat' apply And.intro) <;> first | with_reducible rfl | exact True.intro | exact congrArg (fun z : Int => some (AV.int IntKind.i64 z)) (show (_ : Int) = _ by omega) | exact congrArg (fun z : Nat => some (AV.tsl _ _ _ _ _ z)) (show (_ : Nat) = _ by omega) | exact arrEq (by omega) (by with_reducible rfl))
  · intro i hi
    by_cases h1 : i < b.length
    · have h1' : decide ((i : Int) < (b.length : Int)) = true := decide_eq_true (by omega)
      refine Tri.at (by first | (simp only [h1', Con.start, go_sem]; rfl) | rfl) ?_
      repeat (first | ((first | refine Tri.seq (Tri.regT (cfgSA_ok.pins _) ?_) | refine Tri.rgnT (cfgSA_ok.pins _) ?_); (repeat (first | refine RunT.oneA (hp := by simp (maxSteps := 2000000) (disch := first | decide | omega | (simp only [List.length_append, List.length_cons, List.length_nil, List.length_take, List.length_drop]; omega)) only [h1', go_sem]; rfl) (h := ?_) | refine RunT.notA (h := ?_))); refine RunT.nil ?_; try simp only [InBlock, Then]) | refine Tri.cF (by first | (simp only [h1', go_sem]; done) | fail) ?_ | refine Tri.cT (by first | (simp only [h1', go_sem]; done) | fail) ?_ | (refine Tri.skip ?_; try simp only [InBlock, Then]) | (refine Tri.exit ?_; simp only [Then, InBlock, if_true, if_false, ↓reduceIte, Nat.reduceEqDiff]) | refine Tri.seq (Tri.block ?_) | refine Tri.block ?_ | refine Tri.seq ?_ | (refine Tri.ret ?_; refine Con.fin (.inl rfl) (by simp only [Tryd.f52, cfgSA, resA, resA1, go_sem]; rfl) (by simp only [Obs, and_true, true_and]) (by first | (simp only [kNb, Con.of, Con.ofO, resV, h1', go_sem]; done) | fail) trivial rfl rfl))
      refine ⟨i+1, (by omega), (by omega), Wk.of ?_ ?_ rfl rfl⟩
      · simp only [lessTs, List.reduceReplicate, List.cons_append, List.nil_append, nbI] <;> ((repeat' apply And.intro) <;> first | with_reducible rfl | exact True.intro | exact congrArg (fun z : Int => some (AV.int IntKind.i64 z)) (show (_ : Int) = _ by omega) | exact congrArg (fun z : Nat => some (AV.tsl _ _ _ _ _ z)) (show (_ : Nat) = _ by omega) | exact arrEq (by omega) (by with_reducible rfl))
      · simp only [lessHs, nbI] <;> ((repeat' apply And.intro) <;> first | with_reducible rfl | exact True.intro | exact congrArg (fun z : Int => some (AV.int IntKind.i64 z)) (show (_ : Int) = _ by omega) | exact congrArg (fun z : Nat => some (AV.tsl _ _ _ _ _ z)) (show (_ : Nat) = _ by omega) | exact arrEq (by omega) (by with_reducible rfl))
    · have h1' : decide ((i : Int) < (b.length : Int)) = false := decide_eq_false (by omega)
      have hi8 : i = b.length := by omega
      subst hi8
      refine Tri.at (by first | (simp only [h1', Con.start, go_sem]; rfl) | rfl) ?_
      repeat (first | ((first | refine Tri.seq (Tri.regT (cfgSA_ok.pins _) ?_) | refine Tri.rgnT (cfgSA_ok.pins _) ?_); (repeat (first | refine RunT.oneA (hp := by simp (maxSteps := 2000000) (disch := first | decide | omega | (simp only [List.length_append, List.length_cons, List.length_nil, List.length_take, List.length_drop]; omega)) only [h1', go_sem]; rfl) (h := ?_) | refine RunT.notA (h := ?_))); refine RunT.nil ?_; try simp only [InBlock, Then]) | refine Tri.cF (by first | (simp only [h1', go_sem]; done) | fail) ?_ | refine Tri.cT (by first | (simp only [h1', go_sem]; done) | fail) ?_ | (refine Tri.skip ?_; try simp only [InBlock, Then]) | (refine Tri.exit ?_; simp only [Then, InBlock, if_true, if_false, ↓reduceIte, Nat.reduceEqDiff]) | refine Tri.seq (Tri.block ?_) | refine Tri.block ?_ | refine Tri.seq ?_ | (refine Tri.ret ?_; refine Con.fin (.inl rfl) (by simp only [Tryd.f52, cfgSA, resA, resA1, go_sem]; rfl) (by simp only [Obs, and_true, true_and]) (by first | (simp only [kNb, Con.of, Con.ofO, resV, h1', go_sem]; done) | fail) trivial rfl rfl))
      refine Tri.ret ?_
      refine Con.fin (.inl rfl) (by simp only [Tryd.f52, cfgSA, resA, resA1, go_sem]; rfl) (by simp only [Obs, and_true, true_and]) ?_ ?_ rfl rfl
      · rfl
      · trivial
theorem number_sum : FSumOK Tryd.prog cfgSA.G 52 kNb.sum := Con.sumOK cfgSA_ok kNb Tryd.func52 rfl rfl (Con.of_inv _ _ _) number_body
end
def strS (key : List UInt8) (us : Int) (n : UInt64) (d : List UInt8) : List UInt8 := Ae.stm (Ae.newC (derS key [115, 101, 97, 108] (UInt64.ofInt us))).1 (Ae.newC (derS key [115, 101, 97, 108] (UInt64.ofInt us))).2.1 n d
theorem strS_len {key : List UInt8} {us : Int} {n : UInt64} {d : List UInt8} : (strS key us n d).length = d.length := Ae.stm_len
theorem strS_twice (key : List UInt8) (us : Int) (n : UInt64) (d : List UInt8) : strS key us n (strS key us n d) = d := Ae.stm_stm
def kStr : Con := Con.of [.v k16, .v (.int .i64), .v (.int .u64), .v (.slice false (.int .u8))] (fun x => [List.length (α := UInt8) x.1 = 16, List.length (α := UInt8) x.2.2.2.1 ≤ 100000])
  (fun x => ⟨.pure (.slice true (.int .u8)) (strS x.1 x.2.1 x.2.2.1 x.2.2.2.1), []⟩)
section
attribute [local go_sem] Tryd.f49 kStr kDer Ae.kNew Ae.kStream cfgSA tyTabS
theorem str_body (p : kStr.Par) (hp : ∀ q ∈ kStr.pre p, q) : BodyOK Tryd.prog cfgSA Tryd.f49 (Tryd.f49.body.get rfl) kStr p := by
  obtain ⟨(key : List UInt8), (us : Int), (n : UInt64), (d : List UInt8), u⟩ := p
  obtain ⟨h0, h1, _⟩ := Obs.of hp
  replace h0 : key.length = 16 := h0
  replace h1 : d.length ≤ 100000 := h1
  refine ⟨?_, Nat.zero_le _, rfl, rfl⟩
  show Tri _ _ _ (Code.seq _ (Code.seq _ _)) _
  refine Tri.at (by first | (simp only [go_sem, Con.start, go_sem]; rfl) | rfl) ?_
  repeat (first | ((first | refine Tri.seq (Tri.regT (cfgSA_ok.pins _) ?_) | refine Tri.rgnT (cfgSA_ok.pins _) ?_); (repeat (first | refine RunT.oneA (hp := by simp (maxSteps := 2000000) (disch := first | decide | omega | (simp only [List.length_append, List.length_cons, List.length_nil, List.length_take, List.length_drop]; omega)) only [go_sem, go_sem]; rfl) (h := ?_) | refine RunT.notA (h := ?_))); refine RunT.nil ?_; try simp only [InBlock, Then]) | refine Tri.cF (by first | (simp only [go_sem, go_sem]; done) | fail) ?_ | refine Tri.cT (by first | (simp only [go_sem, go_sem]; done) | fail) ?_ | (refine Tri.skip ?_; try simp only [InBlock, Then]) | (refine Tri.exit ?_; simp only [Then, InBlock, if_true, if_false, ↓reduceIte, Nat.reduceEqDiff]) | refine Tri.seq (Tri.block ?_) | refine Tri.block ?_ | refine Tri.seq ?_ | (refine Tri.ret ?_; refine Con.fin (.inl rfl) (by simp only [Tryd.f49, cfgSA, resA, resA1, go_sem]; rfl) (by simp only [Obs, and_true, true_and]) (by first | (simp only [kStr, Con.of, Con.ofO, resV, go_sem, go_sem]; done) | fail) trivial rfl rfl))
  refine Tri.rel true 3 rfl ?_ rfl rfl ?_
  · simp only [AS.blk, go_sem]
    repeat' constructor
  have e1 : (Ae.strI (Ae.newC (derS key [115, 101, 97, 108] (UInt64.ofInt us))).1 (Ae.newC (derS key [115, 101, 97, 108] (UInt64.ofInt us))).2.1 n d d.length).1 = strS key us n d := Ae.strI_fst
  have e2 : List.take d.length (strS key us n d) = strS key us n d := List.take_of_length_le (by rw [strS_len]; exact Nat.le_refl _)
  refine Tri.at (by first | (simp only [e1, e2, Con.start, go_sem]; rfl) | rfl) ?_
  refine Tri.ret ?_
  refine Con.fin (.inl rfl) (by simp only [Tryd.f49, cfgSA, resA, resA1, go_sem]; rfl) (by simp only [Obs, and_true, true_and]) ?_ ?_ rfl rfl
  · rfl
  · exact True.intro
theorem str_sum : FSumOK Tryd.prog cfgSA.G 49 kStr.sum := Con.sumOK cfgSA_ok kStr Tryd.func49 rfl rfl (Con.of_inv _ _ _) str_body
end
def tagS (key : List UInt8) (us : Int) (d : List UInt8) : List UInt8 := List.take 16 (macS (derS key [115, 117, 109] (UInt64.ofInt us)) d)
theorem tagS_len (key : List UInt8) (us : Int) (d : List UInt8) : (tagS key us d).length = 16 := by rw [tagS, List.length_take, macS_len]; rfl
def kTag : Con := Con.of [.v k16, .v (.int .i64), .v (.slice false (.int .u8))] (fun x => [List.length (α := UInt8) x.1 = 16, List.length (α := UInt8) x.2.2.1 ≤ 100000])
  (fun x => ⟨.pure (.slice true (.int .u8)) (tagS x.1 x.2.1 x.2.2.1), []⟩)
section
attribute [local go_sem] Tryd.f50 kTag kDer kMac cfgSA tyTabS
theorem tag_body (p : kTag.Par) (hp : ∀ q ∈ kTag.pre p, q) : BodyOK Tryd.prog cfgSA Tryd.f50 (Tryd.f50.body.get rfl) kTag p := by
  obtain ⟨(key : List UInt8), (us : Int), (d : List UInt8), u⟩ := p
  obtain ⟨h0, h1, _⟩ := Obs.of hp
  replace h0 : key.length = 16 := h0
  replace h1 : d.length ≤ 100000 := h1
  refine ⟨?_, Nat.zero_le _, rfl, rfl⟩
  show Tri _ _ _ (Code.seq _ (Code.seq _ (Code.seq _ (Code.seq _ _)))) _
  have e0 : List.take 16 (derS key [115, 117, 109] (UInt64.ofInt us)) = derS key [115, 117, 109] (UInt64.ofInt us) := List.take_of_length_le (by rw [derS_len]; exact Nat.le_refl _)
  have e1 : List.take 16 (macS (derS key [115, 117, 109] (UInt64.ofInt us)) d) = tagS key us d := rfl
  have e2 := derS_len key [115, 117, 109] (UInt64.ofInt us)
  have e3 := macS_len (derS key [115, 117, 109] (UInt64.ofInt us)) d
  refine Tri.at (by first | (simp only [e0, e1, e2, e3, Con.start, go_sem]; rfl) | rfl) ?_
  repeat (first | ((first | refine Tri.seq (Tri.regT (cfgSA_ok.pins _) ?_) | refine Tri.rgnT (cfgSA_ok.pins _) ?_); (repeat (first | refine RunT.oneA (hp := by simp (maxSteps := 2000000) (disch := first | decide | omega | (simp only [List.length_append, List.length_cons, List.length_nil, List.length_take, List.length_drop]; omega)) only [e0, e1, e2, e3, go_sem]; rfl) (h := ?_) | refine RunT.notA (h := ?_))); refine RunT.nil ?_; try simp only [InBlock, Then]) | refine Tri.cF (by first | (simp only [e0, e1, e2, e3, go_sem]; done) | fail) ?_ | refine Tri.cT (by first | (simp only [e0, e1, e2, e3, go_sem]; done) | fail) ?_ | (refine Tri.skip ?_; try simp only [InBlock, Then]) | (refine Tri.exit ?_; simp only [Then, InBlock, if_true, if_false, ↓reduceIte, Nat.reduceEqDiff]) | refine Tri.seq (Tri.block ?_) | refine Tri.block ?_ | refine Tri.seq ?_ | (refine Tri.ret ?_; refine Con.fin (.inl rfl) (by simp only [Tryd.f50, cfgSA, resA, resA1, go_sem]; rfl) (by simp only [Obs, and_true, true_and]) (by first | (simp only [kTag, Con.of, Con.ofO, resV, e0, e1, e2, e3, go_sem]; done) | fail) trivial rfl rfl))
  refine Tri.rel true 2 rfl ?_ rfl rfl ?_
  · simp only [AS.blk, go_sem]
    repeat' constructor
  refine Tri.at (by first | (simp only [e0, e1, e2, e3, Con.start, go_sem]; rfl) | rfl) ?_
  refine Tri.ret ?_
  refine Con.fin (.inl rfl) (by simp only [Tryd.f50, cfgSA, resA, resA1, go_sem]; rfl) (by simp only [Obs, and_true, true_and]) ?_ ?_ rfl rfl
  · rfl
  · exact True.intro
theorem tag_sum : FSumOK Tryd.prog cfgSA.G 50 kTag.sum := Con.sumOK cfgSA_ok kTag Tryd.func50 rfl rfl (Con.of_inv _ _ _) tag_body
end
end Go.Proofs.YticgfjalikmniaaDoor

namespace Go.Proofs.YticgfjalikmniaaDoor
open Go.Vc Go.Proofs
set_option maxRecDepth 10000
set_option maxHeartbeats 4000000
structure SS where
  sy : Bool
  seed : List UInt8
  dr : UInt64
  cn : UInt64
  ts : List tmK.T
def ssM (sy : Bool) (seed : List UInt8) (dr cn : UInt64) (ts : List tmK.T) : SS := ⟨sy, seed, dr, cn, ts⟩
theorem ssM_eta (s : SS) : ssM s.sy s.seed s.dr s.cn s.ts = s := rfl
abbrev slF : List FK := [.f .bool, .f k16, .f (.int .u64), .f (.int .u64), .s tmK]
@[reducible] def slM (x : FT slF) : SS := ssM x.1 x.2.1 x.2.2.1 x.2.2.2.1 x.2.2.2.2.1.xs
def SS.fin (s : SS) : List Slot := [.live (.agg [.bool s.sy, .pure k16 s.seed, .int .u64 s.dr, .int .u64 s.cn, .tsl 1 [] 0 0 18 (List.length (α := tmK.T) s.ts)]), .live (.pure (.arr (List.length (α := tmK.T) s.ts) tmK) s.ts)]
def SS.box (s : SS) (key : List UInt8) (us : Int) (d : List UInt8) : List UInt8 :=
  if 2000 < d.length then [] else if s.sy = true then 83 :: wd s.cn else (wd s.cn ++ strS key us s.cn d) ++ tagS key us (wd s.cn ++ strS key us s.cn d)
def errS (d : List UInt8) : Int := if 2000 < d.length then 23 else 0
def SS.put (s : SS) (key : List UInt8) (us : Int) (d : List UInt8) : SS :=
  if 2000 < d.length then s else if s.sy = true then ⟨true, s.seed, s.dr, s.cn + 1, s.ts ++ [(key, us, d, ())]⟩ else ⟨false, s.seed, s.dr, s.cn + 1, s.ts⟩
def tmOK (t : tmK.T) : Prop := List.length (α := UInt8) t.2.2.1 ≤ 2000
def SS.fnd (s : SS) (key : List UInt8) (us : Int) (b : List UInt8) : Option (List UInt8) :=
  if b.length = 9 then if b.getD 0 0 = 83 then if (nb (b.drop 1)).toNat < s.ts.length then if (s.ts.getD (nb (b.drop 1)).toNat (Kd.dflt tmK)).1 = key then if (s.ts.getD (nb (b.drop 1)).toNat (Kd.dflt tmK)).2.1 = us then some (s.ts.getD (nb (b.drop 1)).toNat (Kd.dflt tmK)).2.2.1 else none else none else none else none else none
def SS.opn (s : SS) (key : List UInt8) (us : Int) (b : List UInt8) : Option (List UInt8) :=
  if s.sy = true then s.fnd key us b else
  if b.length < 24 then none else if 2024 < b.length then none else
  if b.drop (b.length - 16) = tagS key us (b.take (b.length - 16)) then some (strS key us (nb (b.take 8)) (List.take (b.length - 16 - 8) (List.drop 8 b))) else none
def opB (o : Option (List UInt8)) : List UInt8 := o.getD []
def opE (o : Option (List UInt8)) : Int := if o.isSome = true then 0 else 40
def kNewS : Con := Con.of [.v .bool, .v k16] (fun _ => []) (fun x => ⟨.ptr 0 [] 0, [.agg [.bool (ssM x.1 x.2.1 0 0 []).sy, .pure k16 (ssM x.1 x.2.1 0 0 []).seed, .int .u64 (ssM x.1 x.2.1 0 0 []).dr, .int .u64 (ssM x.1 x.2.1 0 0 []).cn, .tsl 1 [] 0 0 18 (List.length (α := tmK.T) (ssM x.1 x.2.1 0 0 []).ts)], .pure (.arr (List.length (α := tmK.T) (ssM x.1 x.2.1 0 0 []).ts) tmK) (ssM x.1 x.2.1 0 0 []).ts]⟩)
def kSeal : Con := Con.ofO [.o slF, .a (.v k16), .a (.v (.int .i64)), .a (.v (.slice false (.int .u8)))] [1]
  (fun x => [x.1.2.2.2.2.1.i = 0, x.1.2.2.2.2.1.len = x.1.2.2.2.2.1.N, List.length (α := tmK.T) x.1.2.2.2.2.1.xs = x.1.2.2.2.2.1.N, x.1.2.2.2.2.1.N ≤ 1000000, List.length (α := UInt8) x.2.1 = 16, List.length (α := UInt8) x.2.2.2.1 ≤ 100000])
  (fun x => ⟨.tuple [.pure (.slice true (.int .u8)) ((slM x.1).box x.2.1 x.2.2.1 x.2.2.2.1), .int .i64 (errS x.2.2.2.1)], [.agg [.bool ((slM x.1).put x.2.1 x.2.2.1 x.2.2.2.1).sy, .pure k16 ((slM x.1).put x.2.1 x.2.2.1 x.2.2.2.1).seed, .int .u64 ((slM x.1).put x.2.1 x.2.2.1 x.2.2.2.1).dr, .int .u64 ((slM x.1).put x.2.1 x.2.2.1 x.2.2.2.1).cn, .tsl 1 [] 0 0 18 (List.length (α := tmK.T) ((slM x.1).put x.2.1 x.2.2.1 x.2.2.2.1).ts)], .pure (.arr (List.length (α := tmK.T) ((slM x.1).put x.2.1 x.2.2.1 x.2.2.2.1).ts) tmK) ((slM x.1).put x.2.1 x.2.2.1 x.2.2.2.1).ts]⟩)
def eqS : TypeId → Option Kd
  | 38 => some k16
  | _ => none
theorem eqS_ok : ∀ t d, eqS t = some d → TyEq Tryd.prog d t ∧ Tryd.prog.eqGuardType Tryd.prog.depth t = false ∧ d.ht ≤ 10000 ∧ d.isAgg = true := fun t d h => by
  simp only [eqS] at h
  split at h
  · injection h with h
    subst h
    exact ⟨⟨5, Tryd.underlying38, Tryd.underlying5, _, rfl, by kernel_rfl⟩, by kernel_rfl, by decide, rfl⟩
  · cases h
def cfgSB : Cfg2 := { ty := tyTabS, fn := fun | 47 => some kClo.sum | 48 => some kWide.sum | 49 => some kStr.sum | 50 => some kTag.sum | 52 => some kNb.sum | 26 => some kEq.sum | _ => none, G := shaG, pin := [], eq := eqS }
theorem cfgSB_ok : CfgOK Tryd.prog cfgSB := ⟨tyTabS_ok, (fun f s h => by
  simp only [cfgSB] at h
  split at h
  · injection h with h; subst h; exact .inl clo_sum
  · injection h with h; subst h; exact .inl wide_sum
  · injection h with h; subst h; exact .inl str_sum
  · injection h with h; subst h; exact .inl tag_sum
  · injection h with h; subst h; exact .inl number_sum
  · injection h with h; subst h; exact .inl equal_sum
  · cases h), eqS_ok⟩
section
attribute [local go_sem] Tryd.f32 kNewS cfgSB tyTabS selT
theorem newS_body (p : kNewS.Par) (hp : ∀ q ∈ kNewS.pre p, q) : BodyOK Tryd.prog cfgSB Tryd.f32 (Tryd.f32.body.get rfl) kNewS p := by
  obtain ⟨(sy : Bool), (seed : List UInt8), u⟩ := p
  refine ⟨?_, Nat.zero_le _, rfl, rfl⟩
  show Tri _ _ _ (Code.seq _ (Code.seq _ _)) _
  refine Tri.at (by first | (simp only [go_sem, Con.start, go_sem]; rfl) | rfl) ?_
  repeat (first | ((first | refine Tri.seq (Tri.regT (cfgSB_ok.pins _) ?_) | refine Tri.rgnT (cfgSB_ok.pins _) ?_); (repeat (first | refine RunT.oneA (hp := by simp (maxSteps := 2000000) (disch := first | decide | omega | (simp only [List.length_append, List.length_cons, List.length_nil, List.length_take, List.length_drop]; omega)) only [go_sem, go_sem]; rfl) (h := ?_) | refine RunT.notA (h := ?_))); refine RunT.nil ?_; try simp only [InBlock, Then]) | refine Tri.cF (by first | (simp only [go_sem, go_sem]; done) | fail) ?_ | refine Tri.cT (by first | (simp only [go_sem, go_sem]; done) | fail) ?_ | (refine Tri.skip ?_; try simp only [InBlock, Then]) | (refine Tri.exit ?_; simp only [Then, InBlock, if_true, if_false, ↓reduceIte, Nat.reduceEqDiff]) | refine Tri.seq (Tri.block ?_) | refine Tri.block ?_ | refine Tri.seq ?_ | (refine Tri.ret ?_; refine Con.fin (.inl rfl) (by simp only [Tryd.f32, cfgSB, resA, resA1, go_sem]; rfl) (by simp only [Obs, and_true, true_and]) (by first | (simp only [kNewS, Con.of, Con.ofO, resV, go_sem, go_sem]; done) | fail) trivial rfl rfl))
  refine Tri.ph 1 4 tmK 18 (l := [.bool sy, .pure k16 seed, .int .u64 0, .int .u64 0, .nilsl]) rfl rfl rfl ?_
  refine Tri.at (by first | (simp only [phS, Con.start, go_sem]; rfl) | rfl) ?_
  refine Tri.mv 0 1 (by decide) (by simp only [AS.blk, go_sem]; intro e; cases e) rfl rfl ?_
  refine Tri.at (by first | (simp only [phS, Con.start, go_sem]; rfl) | rfl) ?_
  refine Tri.mv 1 2 (by decide) (by simp only [AS.blk, go_sem]; intro e; cases e) rfl rfl ?_
  refine Tri.at (by first | (simp only [phS, Con.start, go_sem]; rfl) | rfl) ?_
  refine Tri.ret ?_
  refine Con.fin (.inl rfl) (by simp only [Tryd.f32, cfgSB, resA, resA1, go_sem]; rfl) (by simp only [Obs, and_true, true_and]) ?_ ?_ rfl rfl
  · rfl
  · exact ⟨rfl, rfl, trivial⟩
theorem newS_sum : FSumOK Tryd.prog cfgSB.G 32 kNewS.sum := Con.sumOK cfgSB_ok kNewS Tryd.func32 rfl rfl (Con.of_inv _ _ _) newS_body
end
section
attribute [local go_sem] Tryd.f33 kSeal kClo kWide kStr kTag cfgSB tyTabS ssM_eta
theorem seal_body (p : kSeal.Par) (hp : ∀ q ∈ kSeal.pre p, q) : BodyOK Tryd.prog cfgSB Tryd.f33 (Tryd.f33.body.get rfl) kSeal p := by
  obtain ⟨⟨(sy : Bool), (seed : List UInt8), (dr : UInt64), (cn : UInt64), ⟨N, i0, len, (ts : List tmK.T)⟩, u1⟩, (key : List UInt8), (us : Int), (d : List UInt8), u⟩ := p
  obtain ⟨h0, h1, h2, h3, h4, h5, _⟩ := Obs.of hp
  replace h0 : i0 = 0 := h0
  replace h1 : len = N := h1
  replace h2 : ts.length = N := h2
  replace h3 : N ≤ 1000000 := h3
  replace h4 : key.length = 16 := h4
  replace h5 : d.length ≤ 100000 := h5
  subst h0 h1 h2
  refine ⟨?_, Nat.le_refl _, rfl, rfl⟩
  show Tri _ _ _ (Code.seq _ (Code.seq (Code.seq _ (Code.cond _ (Code.seq _ _) _)) (Code.seq _ (Code.seq _ (Code.seq (Code.seq _ (Code.cond _ (Code.seq _ (Code.seq _ _)) _)) (Code.seq _ (Code.seq _ _))))))) _
  by_cases k1 : 2000 < d.length
  · have k1' : decide ((2000 : Int) < (d.length : Int)) = true := decide_eq_true (by omega)
    have e1 : (ssM sy seed dr cn ts).box key us d = [] := if_pos k1
    have e2 : errS d = 23 := if_pos k1
    have e3 : (ssM sy seed dr cn ts).put key us d = ssM sy seed dr cn ts := if_pos k1
    refine Tri.at (by first | (simp only [k1', Con.start, go_sem]; rfl) | rfl) ?_
    repeat (first | ((first | refine Tri.seq (Tri.regT (cfgSB_ok.pins _) ?_) | refine Tri.rgnT (cfgSB_ok.pins _) ?_); (repeat (first | refine RunT.oneA (hp := by simp (maxSteps := 2000000) (disch := first | decide | omega | (simp only [List.length_append, List.length_cons, List.length_nil, List.length_take, List.length_drop]; omega)) only [k1', go_sem]; rfl) (h := ?_) | refine RunT.notA (h := ?_))); refine RunT.nil ?_; try simp only [InBlock, Then]) | refine Tri.cF (by first | (simp only [k1', go_sem]; done) | fail) ?_ | refine Tri.cT (by first | (simp only [k1', go_sem]; done) | fail) ?_ | (refine Tri.skip ?_; try simp only [InBlock, Then]) | (refine Tri.exit ?_; simp only [Then, InBlock, if_true, if_false, ↓reduceIte, Nat.reduceEqDiff]) | refine Tri.seq (Tri.block ?_) | refine Tri.block ?_ | refine Tri.seq ?_ | (refine Tri.ret ?_; refine Con.fin (.inl rfl) (by simp only [Tryd.f33, cfgSB, resA, resA1, go_sem]; rfl) (by simp only [Obs, and_true, true_and]) (by first | (simp only [kSeal, Con.of, Con.ofO, resV, k1', go_sem]; done) | fail) trivial rfl rfl))
    refine Tri.phT 8 (.int .u8) 1 rfl rfl ?_
    refine Tri.at (by first | (simp only [k1', Con.start, go_sem]; rfl) | rfl) ?_
    refine Tri.rel true 3 rfl ?_ rfl rfl ?_
    · simp only [AS.blk, go_sem]
      repeat' constructor
    refine Tri.at (by first | (simp only [k1', Con.start, go_sem]; rfl) | rfl) ?_
    refine Tri.ret ?_
    refine Con.fin (.inl rfl) (by simp only [Tryd.f33, cfgSB, resA, resA1, go_sem]; rfl) (by simp only [Obs, and_true, true_and]) ?_ ?_ rfl rfl
    · show AV.tuple [.pure (.slice true (.int .u8)) ([] : List UInt8), .int .i64 (23 : Int)] = AV.tuple [.pure (.slice true (.int .u8)) ((ssM sy seed dr cn ts).box key us d), .int .i64 (errS d)]
      rw [e1, e2]
    · show lessHs _ ((ssM sy seed dr cn ts).put key us d).fin
      rw [e3]
      exact ⟨rfl, rfl, trivial⟩
  have k1' : decide ((2000 : Int) < (d.length : Int)) = false := decide_eq_false (by omega)
  have e2 : errS d = 0 := if_neg k1
  have w1 := wd_len cn
  have w2 : List.take 8 (wd cn) = wd cn := List.take_of_length_le (by omega)
  have w3 : List.take ts.length ts = ts := List.take_length
  cases sy with
  | true =>
    have e1 : (ssM true seed dr cn ts).box key us d = 83 :: wd cn := (if_neg k1).trans (if_pos rfl)
    have e3 : (ssM true seed dr cn ts).put key us d = ssM true seed dr (cn + 1) (ts ++ [(key, us, d, ())]) := (if_neg k1).trans (if_pos rfl)
    have w4 : List.take 9 (83 :: wd cn) = 83 :: wd cn := List.take_of_length_le (by rw [List.length_cons]; omega)
    refine Tri.at (by first | (simp only [k1', w1, w2, w3, w4, Con.start, go_sem]; rfl) | rfl) ?_
    repeat (first | ((first | refine Tri.seq (Tri.regT (cfgSB_ok.pins _) ?_) | refine Tri.rgnT (cfgSB_ok.pins _) ?_); (repeat (first | refine RunT.oneA (hp := by simp (maxSteps := 2000000) (disch := first | decide | omega | (simp only [List.length_append, List.length_cons, List.length_nil, List.length_take, List.length_drop]; omega)) only [k1', w1, w2, w3, w4, go_sem]; rfl) (h := ?_) | refine RunT.notA (h := ?_))); refine RunT.nil ?_; try simp only [InBlock, Then]) | ((first | refine Tri.seq (Tri.drwT (mixed) (cfgSB_ok.pins _) ?_) | refine Tri.drnT (mixed) (cfgSB_ok.pins _) ?_); (repeat (first | refine RunD.oneA (hp := by simp (maxSteps := 2000000) (disch := first | decide | omega | (simp only [List.length_append, List.length_cons, List.length_nil, List.length_take, List.length_drop]; omega)) only [k1', w1, w2, w3, w4, go_sem]; rfl) (h := ?_) | refine RunD.notA (h := ?_))); refine RunD.nil ?_; refine ⟨by kernel_rfl, ?_⟩; try simp only [InBlock, Then]) | refine Tri.cF (by first | (simp only [k1', w1, w2, w3, w4, go_sem]; done) | fail) ?_ | refine Tri.cT (by first | (simp only [k1', w1, w2, w3, w4, go_sem]; done) | fail) ?_ | (refine Tri.skip ?_; try simp only [InBlock, Then]) | (refine Tri.exit ?_; simp only [Then, InBlock, if_true, if_false, ↓reduceIte, Nat.reduceEqDiff]) | refine Tri.seq (Tri.block ?_) | refine Tri.block ?_ | refine Tri.seq ?_ | (refine Tri.ret ?_; refine Con.fin (.inl rfl) (by simp only [Tryd.f33, cfgSB, resA, resA1, go_sem]; rfl) (by simp only [Obs, and_true, true_and]) (by first | (simp only [kSeal, Con.of, Con.ofO, resV, k1', w1, w2, w3, w4, go_sem]; done) | fail) trivial rfl rfl))
    refine Tri.rel true 4 rfl ?_ rfl rfl ?_
    · simp only [AS.blk, go_sem]
      repeat' constructor
    refine Tri.at (by first | (simp only [k1', w1, w2, w3, w4, Con.start, go_sem]; rfl) | rfl) ?_
    refine Tri.ret ?_
    refine Con.fin (.inl rfl) (by simp only [Tryd.f33, cfgSB, resA, resA1, go_sem]; rfl) (by simp only [Obs, and_true, true_and]) ?_ ?_ rfl rfl
    · show AV.tuple [.pure (.slice true (.int .u8)) (83 :: wd cn), .int .i64 (0 : Int)] = AV.tuple [.pure (.slice true (.int .u8)) ((ssM true seed dr cn ts).box key us d), .int .i64 (errS d)]
      rw [e1, e2]
    · show lessHs _ ((ssM true seed dr cn ts).put key us d).fin
      rw [e3]
      have w5 : (ts ++ [(key, us, d, ())]).length = ts.length + 1 := by rw [List.length_append]; rfl
      refine ⟨?_, arrEq w5.symm rfl, trivial⟩
      show _ = Slot.live (.agg [.bool true, .pure k16 seed, .int .u64 dr, .int .u64 (cn + 1), .tsl 1 [] 0 0 18 (List.length (α := tmK.T) (ts ++ [(key, us, d, ())]))])
      rw [show List.length (α := tmK.T) (ts ++ [(key, us, d, ())]) = ts.length + 1 from w5]
  | false =>
    have e1 : (ssM false seed dr cn ts).box key us d = (wd cn ++ strS key us cn d) ++ tagS key us (wd cn ++ strS key us cn d) := (if_neg k1).trans (if_neg (by intro e; cases e))
    have e3 : (ssM false seed dr cn ts).put key us d = ssM false seed dr (cn + 1) ts := (if_neg k1).trans (if_neg (by intro e; cases e))
    have w4 : (strS key us cn d).length = d.length := strS_len
    have w5 : List.take d.length (strS key us cn d) = strS key us cn d := List.take_of_length_le (by omega)
    have w6 := tagS_len key us (wd cn ++ strS key us cn d)
    have w7 : List.take (8 + d.length) (wd cn ++ strS key us cn d) = wd cn ++ strS key us cn d := List.take_of_length_le (by rw [List.length_append]; omega)
    have w8 : List.take (8 + d.length + 16) ((wd cn ++ strS key us cn d) ++ tagS key us (wd cn ++ strS key us cn d)) = (wd cn ++ strS key us cn d) ++ tagS key us (wd cn ++ strS key us cn d) := List.take_of_length_le (by rw [List.length_append, List.length_append]; omega)
    refine Tri.at (by first | (simp only [k1', w1, w2, w3, w4, w5, w6, w7, Con.start, go_sem]; rfl) | rfl) ?_
    repeat (first | ((first | refine Tri.seq (Tri.regT (cfgSB_ok.pins _) ?_) | refine Tri.rgnT (cfgSB_ok.pins _) ?_); (repeat (first | refine RunT.oneA (hp := by simp (maxSteps := 2000000) (disch := first | decide | omega | (simp only [List.length_append, List.length_cons, List.length_nil, List.length_take, List.length_drop]; omega)) only [k1', w1, w2, w3, w4, w5, w6, w7, go_sem]; rfl) (h := ?_) | refine RunT.notA (h := ?_))); refine RunT.nil ?_; try simp only [InBlock, Then]) | ((first | refine Tri.seq (Tri.drwT (mixed) (cfgSB_ok.pins _) ?_) | refine Tri.drnT (mixed) (cfgSB_ok.pins _) ?_); (repeat (first | refine RunD.oneA (hp := by simp (maxSteps := 2000000) (disch := first | decide | omega | (simp only [List.length_append, List.length_cons, List.length_nil, List.length_take, List.length_drop]; omega)) only [k1', w1, w2, w3, w4, w5, w6, w7, go_sem]; rfl) (h := ?_) | refine RunD.notA (h := ?_))); refine RunD.nil ?_; refine ⟨by kernel_rfl, ?_⟩; try simp only [InBlock, Then]) | refine Tri.cF (by first | (simp only [k1', w1, w2, w3, w4, w5, w6, w7, go_sem]; done) | fail) ?_ | refine Tri.cT (by first | (simp only [k1', w1, w2, w3, w4, w5, w6, w7, go_sem]; done) | fail) ?_ | (refine Tri.skip ?_; try simp only [InBlock, Then]) | (refine Tri.exit ?_; simp only [Then, InBlock, if_true, if_false, ↓reduceIte, Nat.reduceEqDiff]) | refine Tri.seq (Tri.block ?_) | refine Tri.block ?_ | refine Tri.seq ?_ | (refine Tri.ret ?_; refine Con.fin (.inl rfl) (by simp only [Tryd.f33, cfgSB, resA, resA1, go_sem]; rfl) (by simp only [Obs, and_true, true_and]) (by first | (simp only [kSeal, Con.of, Con.ofO, resV, k1', w1, w2, w3, w4, w5, w6, w7, go_sem]; done) | fail) trivial rfl rfl))
    refine Tri.rel true 3 rfl ?_ rfl rfl ?_
    · simp only [AS.blk, w6, Obs, and_true, true_and, go_sem]
      trace_state
      omega
    refine Tri.at (by first | (simp only [w8, Con.start, go_sem]; rfl) | rfl) ?_
    refine Tri.ret ?_
    refine Con.fin (.inl rfl) (by simp only [Tryd.f33, cfgSB, resA, resA1, go_sem]; rfl) (by simp only [Obs, and_true, true_and]) ?_ ?_ rfl rfl
    · show AV.tuple [.pure (.slice true (.int .u8)) ((wd cn ++ strS key us cn d) ++ tagS key us (wd cn ++ strS key us cn d)), .int .i64 (0 : Int)] = AV.tuple [.pure (.slice true (.int .u8)) ((ssM false seed dr cn ts).box key us d), .int .i64 (errS d)]
      rw [e1, e2]
    · show lessHs _ ((ssM false seed dr cn ts).put key us d).fin
      rw [e3]
      exact ⟨rfl, rfl, trivial⟩
theorem seal_sum : FSumOK Tryd.prog cfgSB.G 33 kSeal.sum := Con.sumOK cfgSB_ok kSeal Tryd.func33 rfl rfl (Con.ofO_inv _ _ _ _) seal_body
end
end Go.Proofs.YticgfjalikmniaaDoor

namespace Go.Proofs.YticgfjalikmniaaDoor
open Go.Vc Go.Proofs
theorem u64_nat {n : Nat} (h : n < 18446744073709551616) : (UInt64.ofInt (n : Int)).toNat = n := by
  show (UInt64.ofNat (Int.toNat ((n : Int) % 2 ^ 64))).toNat = n
  rw [show Int.toNat ((n : Int) % 2 ^ 64) = n by omega]
  exact UInt64.toNat_ofNat_of_lt' h
theorem shr8 (n : UInt64) : (n >>> 8).toNat = n.toNat / 256 := by rw [UInt64.toNat_shiftRight]; simp [Nat.shiftRight_eq_div_pow]
theorem app8 (x : UInt64) (b : UInt8) (h : x.toNat < 72057594037927936) : (x <<< 8 ||| b.toUInt64).toNat = x.toNat * 256 + b.toNat := by
  rw [UInt64.toNat_or, UInt64.toNat_shiftLeft]
  have hb : b.toUInt64.toNat = b.toNat := by simp
  have hb2 := UInt8.toNat_lt b
  rw [hb]
  have e : x.toNat <<< ((8 : UInt64).toNat % 64) % 2 ^ 64 = x.toNat <<< 8 := by
    show x.toNat <<< 8 % 2 ^ 64 = x.toNat <<< 8
    rw [Nat.shiftLeft_eq]
    omega
  rw [e, ← Nat.shiftLeft_add_eq_or_of_lt (by omega), Nat.shiftLeft_eq]
theorem app8_shr (m : UInt64) : (m >>> 8) <<< 8 ||| m.toUInt8.toUInt64 = m := by
  apply UInt64.toNat_inj.1
  have hm := UInt64.toNat_lt m
  rw [app8 _ _ (by rw [shr8]; omega), shr8, UInt64.toNat_toUInt8]
  omega
def shI8 (n : UInt64) : Nat → UInt64
  | 0 => n
  | j + 1 => shI8 n j >>> 8
theorem wdI_fst (n : UInt64) : ∀ j, (wdI n j).1 = shI8 n j
  | 0 => rfl
  | j + 1 => by show (wdI n j).1 >>> 8 = shI8 n j >>> 8; rw [wdI_fst n j]
theorem shI8_nat (n : UInt64) : ∀ j, (shI8 n j).toNat = n.toNat / 256 ^ j
  | 0 => by simp [shI8]
  | j + 1 => by rw [shI8, shr8, shI8_nat n j, Nat.pow_succ, Nat.div_div_eq_div_mul]
theorem getD_set8 (l : List UInt8) (i k : Nat) (x : UInt8) (hk : k < l.length) : (l.set i x).getD k 0 = if i = k then x else l.getD k 0 := getD_set' l i k x hk
theorem wdI_get (n : UInt64) : ∀ j, j ≤ 8 → ∀ i, i < j → (wdI n j).2.getD (7 - i) 0 = (shI8 n i).toUInt8
  | 0, _, i, h => absurd h (by omega)
  | j + 1, hj, i, hi => by
    show ((wdI n j).2.set (7 - j) (wdI n j).1.toUInt8).getD (7 - i) 0 = _
    rw [getD_set8 _ _ _ _ (by rw [wdI_len]; omega)]
    by_cases e : j = i
    · subst e; rw [if_pos rfl, wdI_fst]
    · rw [if_neg (by omega)]; exact wdI_get n j (by omega) i (by omega)
theorem wd_get (n : UInt64) (i : Nat) (hi : i < 8) : (wd n).getD i 0 = (shI8 n (7 - i)).toUInt8 := by
  have := wdI_get n 8 (Nat.le_refl _) (7 - i) (by omega)
  rwa [show 7 - (7 - i) = i by omega] at this
theorem nbI_wd (n : UInt64) : ∀ i, i ≤ 8 → nbI (wd n) i = shI8 n (8 - i)
  | 0, _ => by
    apply UInt64.toNat_inj.1
    rw [shI8_nat]
    have := UInt64.toNat_lt n
    show 0 = n.toNat / 256 ^ 8
    omega
  | i + 1, hi => by
    show (nbI (wd n) i <<< 8) ||| ((wd n).getD i 0).toUInt64 = _
    rw [nbI_wd n i (by omega), wd_get n i (by omega), show 8 - i = (7 - i) + 1 by omega, show 8 - (i + 1) = 7 - i by omega]
    exact app8_shr _
theorem nb_wd (n : UInt64) : nb (wd n) = n := by
  rw [nb, wd_len, nbI_wd n 8 (Nat.le_refl _)]
  rfl
theorem wd_inj {a b : UInt64} (h : wd a = wd b) : a = b := by rw [← nb_wd a, h, nb_wd]
theorem nbI_lt (l : List UInt8) : ∀ i, i ≤ 8 → (nbI l i).toNat < 256 ^ i
  | 0, _ => by show 0 < 1; omega
  | i + 1, hi => by
    have h := nbI_lt l i (by omega)
    have h2 : 256 ^ i ≤ 256 ^ 7 := Nat.pow_le_pow_right (by omega) (by omega)
    show ((nbI l i <<< 8) ||| (l.getD i 0).toUInt64).toNat < _
    rw [app8 _ _ (by have : (256 : Nat) ^ 7 = 72057594037927936 := rfl; omega), Nat.pow_succ]
    have := UInt8.toNat_lt (l.getD i 0)
    omega
theorem nbI_succ (l : List UInt8) (i : Nat) (hi : i < 8) : (nbI l (i + 1)).toNat = (nbI l i).toNat * 256 + (l.getD i 0).toNat := by
  have h := nbI_lt l i (by omega)
  have h2 : 256 ^ i ≤ 256 ^ 7 := Nat.pow_le_pow_right (by omega) (by omega)
  exact app8 _ _ (by have : (256 : Nat) ^ 7 = 72057594037927936 := rfl; omega)
theorem shI8_nb (l : List UInt8) : ∀ j, j ≤ 8 → (shI8 (nbI l 8) j).toNat = (nbI l (8 - j)).toNat
  | 0, _ => rfl
  | j + 1, hj => by
    rw [shI8, shr8, shI8_nb l j (by omega), show 8 - j = (8 - (j + 1)) + 1 by omega, nbI_succ l _ (by omega)]
    have := UInt8.toNat_lt (l.getD (8 - (j + 1)) 0)
    omega
theorem wd_nb {l : List UInt8} (hl : l.length = 8) : wd (nb l) = l := by
  apply List.ext_getElem
  · rw [wd_len, hl]
  · intro i h1 h2
    have hi : i < 8 := by omega
    have h := wd_get (nb l) i hi
    rw [List.getD_eq_getElem?_getD, List.getElem?_eq_getElem h1, Option.getD_some] at h
    rw [h]
    apply UInt8.toNat_inj.1
    have e : nb l = nbI l 8 := by rw [nb, hl]
    rw [UInt64.toNat_toUInt8, e, shI8_nb l (7 - i) (by omega), show 8 - (7 - i) = i + 1 by omega, nbI_succ l i hi, List.getD_eq_getElem?_getD, List.getElem?_eq_getElem h2, Option.getD_some]
    have := UInt8.toNat_lt l[i]
    omega
theorem fnd_box (s : SS) (key : List UInt8) (us : Int) (n : UInt64) : s.fnd key us (83 :: wd n) = if n.toNat < s.ts.length then if (s.ts.getD n.toNat (Kd.dflt tmK)).1 = key then if (s.ts.getD n.toNat (Kd.dflt tmK)).2.1 = us then some (s.ts.getD n.toNat (Kd.dflt tmK)).2.2.1 else none else none else none := by
  unfold SS.fnd
  rw [if_pos (by rw [List.length_cons, wd_len]), if_pos (by rfl), show List.drop 1 (83 :: wd n) = wd n from rfl, nb_wd]
structure SS.Sy (s : SS) : Prop where
  sy : s.sy = true
  cn : s.cn.toNat = s.ts.length
  ok : ∀ t ∈ s.ts, tmOK t
theorem put_long {s : SS} {key : List UInt8} {us : Int} {d : List UInt8} (h : 2000 < d.length) : s.put key us d = s := if_pos h
theorem box_long {s : SS} {key : List UInt8} {us : Int} {d : List UInt8} (h : 2000 < d.length) : s.box key us d = [] := if_pos h
theorem put_sy {s : SS} (hs : s.sy = true) {key : List UInt8} {us : Int} {d : List UInt8} (h : d.length ≤ 2000) : s.put key us d = ⟨true, s.seed, s.dr, s.cn + 1, s.ts ++ [(key, us, d, ())]⟩ := (if_neg (by omega)).trans (if_pos hs)
theorem box_sy {s : SS} (hs : s.sy = true) {key : List UInt8} {us : Int} {d : List UInt8} (h : d.length ≤ 2000) : s.box key us d = 83 :: wd s.cn := (if_neg (by omega)).trans (if_pos hs)
theorem put_ns {s : SS} (hs : s.sy = false) {key : List UInt8} {us : Int} {d : List UInt8} (h : d.length ≤ 2000) : s.put key us d = ⟨false, s.seed, s.dr, s.cn + 1, s.ts⟩ := (if_neg (by omega)).trans (if_neg (by rw [hs]; intro e; cases e))
theorem box_ns {s : SS} (hs : s.sy = false) {key : List UInt8} {us : Int} {d : List UInt8} (h : d.length ≤ 2000) : s.box key us d = (wd s.cn ++ strS key us s.cn d) ++ tagS key us (wd s.cn ++ strS key us s.cn d) := (if_neg (by omega)).trans (if_neg (by rw [hs]; intro e; cases e))
theorem SS.Sy.put {s : SS} (h : s.Sy) {key : List UInt8} {us : Int} {d : List UInt8} (hb : s.ts.length ≤ 1000000) : (s.put key us d).Sy := by
  by_cases hd : 2000 < d.length
  · rw [put_long hd]; exact h
  · rw [put_sy h.sy (by omega)]
    refine ⟨rfl, ?_, ?_⟩
    · show (s.cn + 1).toNat = (s.ts ++ [_]).length
      rw [UInt64.toNat_add, h.cn, List.length_append]
      show (s.ts.length + 1) % 2 ^ 64 = s.ts.length + 1
      omega
    · intro t ht
      rcases List.mem_append.1 ht with ht | ht
      · exact h.ok t ht
      · rw [List.mem_singleton] at ht
        subst ht
        show d.length ≤ 2000
        omega
theorem put_len {s : SS} {key : List UInt8} {us : Int} {d : List UInt8} : (s.put key us d).ts.length ≤ s.ts.length + 1 := by
  unfold SS.put
  split
  · exact Nat.le_succ _
  · split
    · rw [List.length_append]; exact Nat.le_refl _
    · exact Nat.le_succ _
theorem opn_sy_back {s : SS} (h : s.Sy) {key : List UInt8} {us : Int} {d : List UInt8} (hd : d.length ≤ 2000) : (s.put key us d).opn key us (s.box key us d) = some d := by
  rw [put_sy h.sy hd, box_sy h.sy hd]
  refine (if_pos rfl).trans ?_
  rw [fnd_box]
  have e : (s.ts ++ [(key, us, d, ())]).getD s.cn.toNat (Kd.dflt tmK) = (key, us, d, ()) := by
    rw [List.getD_eq_getElem?_getD, h.cn, List.getElem?_append_right (Nat.le_refl _), Nat.sub_self]
    rfl
  simp only [e]
  rw [if_pos (by rw [h.cn, List.length_append]; exact Nat.lt_succ_self _), if_pos trivial, if_pos trivial]
theorem fnd_put {s : SS} (hs : s.sy = true) {key k2 : List UInt8} {us u2 : Int} {d : List UInt8} {n : UInt64} (hn : n.toNat < s.ts.length) : (s.put key us d).fnd k2 u2 (83 :: wd n) = s.fnd k2 u2 (83 :: wd n) := by
  by_cases hd : 2000 < d.length
  · rw [put_long hd]
  · rw [put_sy hs (by omega), fnd_box, fnd_box]
    have e : (s.ts ++ [(key, us, d, ())]).getD n.toNat (Kd.dflt tmK) = s.ts.getD n.toNat (Kd.dflt tmK) := by
      rw [List.getD_eq_getElem?_getD, List.getElem?_append_left hn, ← List.getD_eq_getElem?_getD]
    simp only [e]
    rw [if_pos hn, if_pos (by rw [List.length_append]; exact Nat.lt_succ_of_lt hn)]
theorem opn_ns_back {s s2 : SS} (hs : s.sy = false) (h2 : s2.sy = false) {key : List UInt8} {us : Int} {d : List UInt8} (hd : d.length ≤ 2000) : s2.opn key us (s.box key us d) = some d := by
  rw [box_ns hs hd]
  have w1 := wd_len s.cn
  have w2 : (strS key us s.cn d).length = d.length := strS_len
  have w3 := tagS_len key us (wd s.cn ++ strS key us s.cn d)
  have w4 : (wd s.cn ++ strS key us s.cn d).length = 8 + d.length := by rw [List.length_append, w1, w2]
  have w5 : ((wd s.cn ++ strS key us s.cn d) ++ tagS key us (wd s.cn ++ strS key us s.cn d)).length = 8 + d.length + 16 := by rw [List.length_append, w4, w3]
  have w6 : List.take (8 + d.length) ((wd s.cn ++ strS key us s.cn d) ++ tagS key us (wd s.cn ++ strS key us s.cn d)) = wd s.cn ++ strS key us s.cn d := List.take_left' w4
  have w7 : List.drop (8 + d.length) ((wd s.cn ++ strS key us s.cn d) ++ tagS key us (wd s.cn ++ strS key us s.cn d)) = tagS key us (wd s.cn ++ strS key us s.cn d) := List.drop_left' w4
  have w8 : List.take 8 ((wd s.cn ++ strS key us s.cn d) ++ tagS key us (wd s.cn ++ strS key us s.cn d)) = wd s.cn := by rw [List.append_assoc]; exact List.take_left' w1
  have w9 : List.take d.length (List.drop 8 ((wd s.cn ++ strS key us s.cn d) ++ tagS key us (wd s.cn ++ strS key us s.cn d))) = strS key us s.cn d := by
    rw [List.append_assoc, List.drop_left' w1]; exact List.take_left' w2
  refine (if_neg (by rw [h2]; intro e; cases e)).trans ?_
  rw [w5, show 8 + d.length + 16 - 16 = 8 + d.length by omega, show 8 + d.length - 8 = d.length by omega, if_neg (by omega), if_neg (by omega), w6, w7, if_pos rfl, w8, w9, nb_wd, strS_twice]
theorem opn_cn {s : SS} (hs : s.sy = true) {key : List UInt8} {us : Int} {b : List UInt8} : s.opn key us b = s.fnd key us b := if_pos hs
end Go.Proofs.YticgfjalikmniaaDoor
