/- Part of a proof: authenticators are written and read as the document says -/
import Derived.Test.YtjdeaphfamenaaaDoorP3
import Derived.Test.YtjdeaphfamenaaaDoorP1
import Derived.Test.YtjdeaphfamenaaaDoorP2
set_option linter.unusedVariables false
set_option linter.unusedSimpArgs false
set_option linter.unusedSectionVars false
namespace Go.Proofs.YtjdeaphfamenaaaDoor
open Go.Vc Go.Proofs
set_option maxRecDepth 10000
set_option maxHeartbeats 4000000
theorem shl_or (n : UInt64) (x : UInt8) : (n <<< 8) ||| x.toUInt64 = 256 * n + x.toUInt64 := by
  apply UInt64.toNat_inj.1
  have hx := UInt8.toNat_lt x
  have hn := UInt64.toNat_lt n
  rw [UInt64.toNat_or, UInt64.toNat_shiftLeft, UInt64.toNat_add, UInt64.toNat_mul, UInt8.toNat_toUInt64]
  have e1 : n.toNat <<< ((8 : UInt64).toNat % 64) % 2 ^ 64 = 2 ^ 8 * (n.toNat % 2 ^ 56) := by
    rw [show (8 : UInt64).toNat % 64 = 8 from rfl, Nat.shiftLeft_eq]
    omega
  rw [e1, ← Nat.two_pow_add_eq_or_of_lt (i := 8) (by omega) (n.toNat % 2 ^ 56)]
  rw [show (256 : UInt64).toNat = 256 from rfl]
  omega
def kRRd : Con := Con.of [.v (.slice false (.int .u8))] (fun x => [List.length (α := UInt8) x.1 ≤ 9223372036854775807]) (fun x => ⟨.tuple [.int .u64 (rdU x.1), .bool (rdB x.1)], []⟩)
def cfgTF1 : Cfg2 := { ty := tyTab, fn := fun  | _ => none, G := gNone, pin := [], eq := fun _ => none }
theorem cfgTF1_ok : CfgOK Tryd.prog cfgTF1 := ⟨tysOK, (fun f s h => by cases h), (fun t d h => by cases h)⟩
section
attribute [local go_sem] Tryd.f76 kRRd cfgTF1 tyTab
theorem rrd_body (p : kRRd.Par) (hp : ∀ q ∈ kRRd.pre p, q) : BodyOK Tryd.prog cfgTF1 Tryd.f76 (Tryd.f76.body.get rfl) kRRd p := by
  obtain ⟨(b : List UInt8), u⟩ := p
  obtain ⟨h0, _⟩ := Obs.of hp
  replace h0 : b.length ≤ 9223372036854775807 := h0
  refine ⟨?_, Nat.zero_le _, rfl, rfl⟩
  show Tri _ _ _ (Code.seq _ (Code.seq (Code.seq _ (Code.cond _ (Code.seq _ _) _)) (Code.seq _ (Code.seq (Code.seq _ (Code.block _ (Code.loop (Code.seq (Code.seq _ (Code.cond _ _ _)) (Code.seq (Code.block _ _) _))))) (Code.seq _ _))))) _
  cases b1 : decide ((8 : Int) < (b.length : Int)) with
  | true =>
    have e1 : rdB b = false := by rw [rdB, b1]; rfl
    have e2 : rdU b = 0 := by rw [rdU, e1]; rfl
    refine Tri.at (by first | (simp only [b1, e1, e2, Con.start, go_sem]; rfl) | rfl) ?_
    repeat (first | ((first | refine Tri.seq (Tri.regT (cfgTF1_ok.pins _) ?_) | refine Tri.rgnT (cfgTF1_ok.pins _) ?_); (repeat (first | refine RunT.oneA (hp := by simp (maxSteps := 2000000) (disch := first | decide | omega | (simp only [List.length_append, List.length_cons, List.length_nil, List.length_take, List.length_drop]; omega)) only [b1, e1, e2, go_sem]; rfl) (h := ?_) | refine RunT.notA (h := ?_))); refine RunT.nil ?_; try simp only [InBlock, Then]) | refine Tri.cF (by first | (simp only [b1, e1, e2, go_sem]; done) | fail) ?_ | refine Tri.cT (by first | (simp only [b1, e1, e2, go_sem]; done) | fail) ?_ | (refine Tri.skip ?_; try simp only [InBlock, Then]) | (refine Tri.exit ?_; simp only [Then, InBlock, if_true, if_false, ↓reduceIte, Nat.reduceEqDiff]) | refine Tri.seq (Tri.block ?_) | refine Tri.block ?_ | refine Tri.seq ?_ | (refine Tri.ret ?_; refine Con.fin (.inl rfl) (by simp only [Tryd.f76, cfgTF1, resA, resA1, go_sem]; rfl) (by simp only [Obs, and_true, true_and]) (by first | (simp only [kRRd, Con.of, Con.ofO, resV, b1, e1, e2, go_sem]; done) | fail) trivial rfl rfl))
  | false =>
  cases b2 : decide ((0 : Int) < (b.length : Int)) && decide (b.getD 0 0 = 0) with
  | true =>
    have b2' := b2
    rw [Bool.and_eq_true] at b2'
    obtain ⟨b3, b4⟩ := b2'
    have hpos : 0 < b.length := by have := of_decide_eq_true b3; omega
    have e1 : rdB b = false := by rw [rdB, b1, b2]; rfl
    have e2 : rdU b = 0 := by rw [rdU, e1]; rfl
    refine Tri.at (by first | (simp only [b1, b3, b4, e1, e2, Con.start, go_sem]; rfl) | rfl) ?_
    repeat (first | ((first | refine Tri.seq (Tri.regT (cfgTF1_ok.pins _) ?_) | refine Tri.rgnT (cfgTF1_ok.pins _) ?_); (repeat (first | refine RunT.oneA (hp := by simp (maxSteps := 2000000) (disch := first | decide | omega | (simp only [List.length_append, List.length_cons, List.length_nil, List.length_take, List.length_drop]; omega)) only [b1, b3, b4, e1, e2, go_sem]; rfl) (h := ?_) | refine RunT.notA (h := ?_))); refine RunT.nil ?_; try simp only [InBlock, Then]) | refine Tri.cF (by first | (simp only [b1, b3, b4, e1, e2, go_sem]; done) | fail) ?_ | refine Tri.cT (by first | (simp only [b1, b3, b4, e1, e2, go_sem]; done) | fail) ?_ | (refine Tri.skip ?_; try simp only [InBlock, Then]) | (refine Tri.exit ?_; simp only [Then, InBlock, if_true, if_false, ↓reduceIte, Nat.reduceEqDiff]) | refine Tri.seq (Tri.block ?_) | refine Tri.block ?_ | refine Tri.seq ?_ | (refine Tri.ret ?_; refine Con.fin (.inl rfl) (by simp only [Tryd.f76, cfgTF1, resA, resA1, go_sem]; rfl) (by simp only [Obs, and_true, true_and]) (by first | (simp only [kRRd, Con.of, Con.ofO, resV, b1, b3, b4, e1, e2, go_sem]; done) | fail) trivial rfl rfl))
  | false =>
    have e1 : rdB b = true := by rw [rdB, b1, b2]; rfl
    have e2 : rdU b = rdI b b.length := by rw [rdU, if_pos e1]
    cases b3 : decide ((0 : Int) < (b.length : Int))
    · have hz : b.length = 0 := by have := of_decide_eq_false b3; omega
      refine Tri.at (by first | (simp only [b1, b3, Con.start, go_sem]; rfl) | rfl) ?_
      repeat (first | ((first | refine Tri.seq (Tri.regT (cfgTF1_ok.pins _) ?_) | refine Tri.rgnT (cfgTF1_ok.pins _) ?_); (repeat (first | refine RunT.oneA (hp := by simp (maxSteps := 2000000) (disch := first | decide | omega | (simp only [List.length_append, List.length_cons, List.length_nil, List.length_take, List.length_drop]; omega)) only [b1, b3, go_sem]; rfl) (h := ?_) | refine RunT.notA (h := ?_))); refine RunT.nil ?_; try simp only [InBlock, Then]) | refine Tri.cF (by first | (simp only [b1, b3, go_sem]; done) | fail) ?_ | refine Tri.cT (by first | (simp only [b1, b3, go_sem]; done) | fail) ?_ | (refine Tri.skip ?_; try simp only [InBlock, Then]) | (refine Tri.exit ?_; simp only [Then, InBlock, if_true, if_false, ↓reduceIte, Nat.reduceEqDiff]) | refine Tri.seq (Tri.block ?_) | refine Tri.block ?_ | refine Tri.seq ?_ | (refine Tri.ret ?_; refine Con.fin (.inl rfl) (by simp only [Tryd.f76, cfgTF1, resA, resA1, go_sem]; rfl) (by simp only [Obs, and_true, true_and]) (by first | (simp only [kRRd, Con.of, Con.ofO, resV, b1, b3, go_sem]; done) | fail) trivial rfl rfl))
      have hb0 : b = [] := List.eq_nil_of_length_eq_zero hz
      subst hb0
      refine Tri.loop (fun i : Nat => (⟨[some (.pure (.slice false (.int .u8)) []), none, none, none, some (.int .u64 (0 : UInt64)), some (.int .i64 (0 : Int))] ++ List.replicate 29 none, []⟩ : AS)) (fun i => True) (fun i => 0) 0 ?_ True.intro ?_
      · refine Wk.of ?_ ?_ rfl rfl
        · simp only [lessTs, List.reduceReplicate, List.cons_append, List.nil_append, List.length_nil] <;> ((repeat' apply And.intro) <;> first | with_reducible rfl | exact True.intro | exact congrArg (fun z : Int => some (AV.int IntKind.i64 z)) (show (_ : Int) = _ by omega) | exact congrArg (fun z : Nat => some (AV.tsl _ _ _ _ _ z)) (show (_ : Nat) = _ by omega) | exact arrEq (by omega) (by with_reducible rfl))
        · simp only [lessHs, List.length_nil] <;> ((repeat' apply And.intro) <;> first | with_reducible rfl | exact True.intro | exact congrArg (fun z : Int => some (AV.int IntKind.i64 z)) (show (_ : Int) = _ by omega) | exact congrArg (fun z : Nat => some (AV.tsl _ _ _ _ _ z)) (show (_ : Nat) = _ by omega) | exact arrEq (by omega) (by with_reducible rfl))
      · intro i _
        have z1 : decide ((0 : Int) < 0) = false := rfl
        have z2 : decide ((0 : Int) < ((0 : Nat) : Int)) = false := rfl
        refine Tri.at (by first | (simp only [z1, z2, e1, e2, List.length_nil, rdI, Con.start, go_sem]; rfl) | rfl) ?_
        repeat (first | ((first | refine Tri.seq (Tri.regT (cfgTF1_ok.pins _) ?_) | refine Tri.rgnT (cfgTF1_ok.pins _) ?_); (repeat (first | refine RunT.oneA (hp := by simp (maxSteps := 2000000) (disch := first | decide | omega | (simp only [List.length_append, List.length_cons, List.length_nil, List.length_take, List.length_drop]; omega)) only [z1, z2, e1, e2, List.length_nil, rdI, go_sem]; rfl) (h := ?_) | refine RunT.notA (h := ?_))); refine RunT.nil ?_; try simp only [InBlock, Then]) | refine Tri.cF (by first | (simp only [z1, z2, e1, e2, List.length_nil, rdI, go_sem]; done) | fail) ?_ | refine Tri.cT (by first | (simp only [z1, z2, e1, e2, List.length_nil, rdI, go_sem]; done) | fail) ?_ | (refine Tri.skip ?_; try simp only [InBlock, Then]) | (refine Tri.exit ?_; simp only [Then, InBlock, if_true, if_false, ↓reduceIte, Nat.reduceEqDiff]) | refine Tri.seq (Tri.block ?_) | refine Tri.block ?_ | refine Tri.seq ?_ | (refine Tri.ret ?_; refine Con.fin (.inl rfl) (by simp only [Tryd.f76, cfgTF1, resA, resA1, go_sem]; rfl) (by simp only [Obs, and_true, true_and]) (by first | (simp only [kRRd, Con.of, Con.ofO, resV, z1, z2, e1, e2, List.length_nil, rdI, go_sem]; done) | fail) trivial rfl rfl))
    · have hpos : 0 < b.length := by have := of_decide_eq_true b3; omega
      have b4 : decide (b.getD 0 0 = 0) = false := by rw [b3] at b2; simpa using b2
      refine Tri.at (by first | (simp only [b1, b3, b4, Con.start, go_sem]; rfl) | rfl) ?_
      repeat (first | ((first | refine Tri.seq (Tri.regT (cfgTF1_ok.pins _) ?_) | refine Tri.rgnT (cfgTF1_ok.pins _) ?_); (repeat (first | refine RunT.oneA (hp := by simp (maxSteps := 2000000) (disch := first | decide | omega | (simp only [List.length_append, List.length_cons, List.length_nil, List.length_take, List.length_drop]; omega)) only [b1, b3, b4, go_sem]; rfl) (h := ?_) | refine RunT.notA (h := ?_))); refine RunT.nil ?_; try simp only [InBlock, Then]) | refine Tri.cF (by first | (simp only [b1, b3, b4, go_sem]; done) | fail) ?_ | refine Tri.cT (by first | (simp only [b1, b3, b4, go_sem]; done) | fail) ?_ | (refine Tri.skip ?_; try simp only [InBlock, Then]) | (refine Tri.exit ?_; simp only [Then, InBlock, if_true, if_false, ↓reduceIte, Nat.reduceEqDiff]) | refine Tri.seq (Tri.block ?_) | refine Tri.block ?_ | refine Tri.seq ?_ | (refine Tri.ret ?_; refine Con.fin (.inl rfl) (by simp only [Tryd.f76, cfgTF1, resA, resA1, go_sem]; rfl) (by simp only [Obs, and_true, true_and]) (by first | (simp only [kRRd, Con.of, Con.ofO, resV, b1, b3, b4, go_sem]; done) | fail) trivial rfl rfl))
      refine Tri.loop (fun i : Nat => (⟨[some (.pure (.slice false (.int .u8)) b), none, none, none, some (.int .u64 (rdI b i)), some (.int .i64 (i : Int))] ++ List.replicate 29 none, []⟩ : AS)) (fun i => i ≤ b.length) (fun i => b.length - i) 0 ?_ (Nat.zero_le _) ?_
      · refine Wk.of ?_ ?_ rfl rfl
        · simp only [lessTs, List.reduceReplicate, List.cons_append, List.nil_append, rdI] <;> ((repeat' apply And.intro) <;> first | with_reducible rfl | exact True.intro | exact congrArg (fun z : Int => some (AV.int IntKind.i64 z)) (show (_ : Int) = _ by omega) | exact congrArg (fun z : Nat => some (AV.tsl _ _ _ _ _ z)) (show (_ : Nat) = _ by omega) | exact arrEq (by omega) (by with_reducible rfl))
        · simp only [lessHs, rdI] <;> ((repeat' apply And.intro) <;> first | with_reducible rfl | exact True.intro | exact congrArg (fun z : Int => some (AV.int IntKind.i64 z)) (show (_ : Int) = _ by omega) | exact congrArg (fun z : Nat => some (AV.tsl _ _ _ _ _ z)) (show (_ : Nat) = _ by omega) | exact arrEq (by omega) (by with_reducible rfl))
      · intro i hi
        by_cases h1 : i < b.length
        · have h1' : decide ((i : Int) < (b.length : Int)) = true := decide_eq_true (by omega)
          have hrd : rdI b (i + 1) = 256 * rdI b i + (b.getD i 0).toUInt64 := (show rdI b (i + 1) = (rdI b i <<< 8) ||| (b.getD i 0).toUInt64 from rfl).trans (shl_or _ _)
          refine Tri.at (by first | (simp only [h1', Con.start, go_sem]; rfl) | rfl) ?_
          repeat (first | ((first | refine Tri.seq (Tri.regT (cfgTF1_ok.pins _) ?_) | refine Tri.rgnT (cfgTF1_ok.pins _) ?_); (repeat (first | refine RunT.oneA (hp := by simp (maxSteps := 2000000) (disch := first | decide | omega | (simp only [List.length_append, List.length_cons, List.length_nil, List.length_take, List.length_drop]; omega)) only [h1', go_sem]; rfl) (h := ?_) | refine RunT.notA (h := ?_))); refine RunT.nil ?_; try simp only [InBlock, Then]) | refine Tri.cF (by first | (simp only [h1', go_sem]; done) | fail) ?_ | refine Tri.cT (by first | (simp only [h1', go_sem]; done) | fail) ?_ | (refine Tri.skip ?_; try simp only [InBlock, Then]) | (refine Tri.exit ?_; simp only [Then, InBlock, if_true, if_false, ↓reduceIte, Nat.reduceEqDiff]) | refine Tri.seq (Tri.block ?_) | refine Tri.block ?_ | refine Tri.seq ?_ | (refine Tri.ret ?_; refine Con.fin (.inl rfl) (by simp only [Tryd.f76, cfgTF1, resA, resA1, go_sem]; rfl) (by simp only [Obs, and_true, true_and]) (by first | (simp only [kRRd, Con.of, Con.ofO, resV, h1', go_sem]; done) | fail) trivial rfl rfl))
          refine ⟨i + 1, (by omega), (by omega), Wk.of ?_ ?_ rfl rfl⟩
          · simp only [lessTs, List.reduceReplicate, List.cons_append, List.nil_append, hrd] <;> ((repeat' apply And.intro) <;> first | with_reducible rfl | exact True.intro | exact congrArg (fun z : Int => some (AV.int IntKind.i64 z)) (show (_ : Int) = _ by omega) | exact congrArg (fun z : Nat => some (AV.tsl _ _ _ _ _ z)) (show (_ : Nat) = _ by omega) | exact arrEq (by omega) (by with_reducible rfl))
          · trivial
        · have h1' : decide ((i : Int) < (b.length : Int)) = false := decide_eq_false (by omega)
          have hib : i = b.length := by omega
          subst hib
          refine Tri.at (by first | (simp only [h1', e1, e2, Con.start, go_sem]; rfl) | rfl) ?_
          repeat (first | ((first | refine Tri.seq (Tri.regT (cfgTF1_ok.pins _) ?_) | refine Tri.rgnT (cfgTF1_ok.pins _) ?_); (repeat (first | refine RunT.oneA (hp := by simp (maxSteps := 2000000) (disch := first | decide | omega | (simp only [List.length_append, List.length_cons, List.length_nil, List.length_take, List.length_drop]; omega)) only [h1', e1, e2, go_sem]; rfl) (h := ?_) | refine RunT.notA (h := ?_))); refine RunT.nil ?_; try simp only [InBlock, Then]) | refine Tri.cF (by first | (simp only [h1', e1, e2, go_sem]; done) | fail) ?_ | refine Tri.cT (by first | (simp only [h1', e1, e2, go_sem]; done) | fail) ?_ | (refine Tri.skip ?_; try simp only [InBlock, Then]) | (refine Tri.exit ?_; simp only [Then, InBlock, if_true, if_false, ↓reduceIte, Nat.reduceEqDiff]) | refine Tri.seq (Tri.block ?_) | refine Tri.block ?_ | refine Tri.seq ?_ | (refine Tri.ret ?_; refine Con.fin (.inl rfl) (by simp only [Tryd.f76, cfgTF1, resA, resA1, go_sem]; rfl) (by simp only [Obs, and_true, true_and]) (by first | (simp only [kRRd, Con.of, Con.ofO, resV, h1', e1, e2, go_sem]; done) | fail) trivial rfl rfl))
theorem rrd_sum : FSumOK Tryd.prog cfgTF1.G 76 kRRd.sum := Con.sumOK cfgTF1_ok kRRd Tryd.func76 rfl rfl (Con.of_inv _ _ _) rrd_body
end
def rtI (b : List UInt8) : Int := bif decide ((1099511627776 : UInt64) < rdU b) then -1 else convT .i64 .u64 (rdU b)
def kRNo : Con := Con.of [.v (.slice false (.int .u8))] (fun x => [List.length (α := UInt8) x.1 ≤ 9223372036854775807]) (fun x => ⟨.tuple [.int .u64 (rdU x.1), .int .i64 (rtI x.1), .bool (rdB x.1)], []⟩)
def cfgTF2 : Cfg2 := { ty := tyTab, fn := fun | 76 => some kRRd.sum | _ => none, G := gNone, pin := [], eq := fun _ => none }
theorem cfgTF2_ok : CfgOK Tryd.prog cfgTF2 := ⟨tysOK, (fun f s h => by
  simp only [cfgTF2] at h
  split at h
  · injection h with h; subst h; exact .inl rrd_sum
  · cases h), (fun t d h => by cases h)⟩
section
attribute [local go_sem] Tryd.f70 kRNo kRRd cfgTF2 tyTab
theorem rno_body (p : kRNo.Par) (hp : ∀ q ∈ kRNo.pre p, q) : BodyOK Tryd.prog cfgTF2 Tryd.f70 (Tryd.f70.body.get rfl) kRNo p := by
  obtain ⟨(b : List UInt8), u⟩ := p
  obtain ⟨h0, _⟩ := Obs.of hp
  replace h0 : b.length ≤ 9223372036854775807 := h0
  refine ⟨?_, Nat.zero_le _, rfl, rfl⟩
  show Tri _ _ _ (Code.seq _ (Code.seq _ (Code.seq (Code.seq _ (Code.cond _ (Code.seq _ _) _)) (Code.seq _ _)))) _
  cases hc : decide ((1099511627776 : UInt64) < rdU b) with
  | true =>
    have e1 : rtI b = -1 := by rw [rtI, hc]; rfl
    refine Tri.at (by first | (simp only [hc, Con.start, go_sem]; rfl) | rfl) ?_
    repeat (first | ((first | refine Tri.seq (Tri.regT (cfgTF2_ok.pins _) ?_) | refine Tri.rgnT (cfgTF2_ok.pins _) ?_); (repeat (first | refine RunT.oneA (hp := by simp (maxSteps := 2000000) (disch := first | decide | omega | (simp only [List.length_append, List.length_cons, List.length_nil, List.length_take, List.length_drop]; omega)) only [hc, go_sem]; rfl) (h := ?_) | refine RunT.notA (h := ?_))); refine RunT.nil ?_; try simp only [InBlock, Then]) | refine Tri.cF (by first | (simp only [hc, go_sem]; done) | fail) ?_ | refine Tri.cT (by first | (simp only [hc, go_sem]; done) | fail) ?_ | (refine Tri.skip ?_; try simp only [InBlock, Then]) | (refine Tri.exit ?_; simp only [Then, InBlock, if_true, if_false, ↓reduceIte, Nat.reduceEqDiff]) | refine Tri.seq (Tri.block ?_) | refine Tri.block ?_ | refine Tri.seq ?_ | (refine Tri.ret ?_; refine Con.fin (.inl rfl) (by simp only [Tryd.f70, cfgTF2, resA, resA1, go_sem]; rfl) (by simp only [Obs, and_true, true_and]) (by first | (simp only [kRNo, Con.of, Con.ofO, resV, hc, go_sem]; done) | fail) trivial rfl rfl))
    refine Tri.ret ?_
    refine Con.fin (.inl rfl) (by simp only [Tryd.f70, cfgTF2, resA, resA1, go_sem]; rfl) (by simp only [Obs, and_true, true_and]) ?_ ?_ rfl rfl
    · show AV.tuple [.int .u64 (rdU b), .int .i64 (-1 : Int), .bool (rdB b)] = AV.tuple [.int .u64 (rdU b), .int .i64 (rtI b), .bool (rdB b)]
      rw [e1]
    · exact True.intro
  | false =>
    have e1 : rtI b = convT .i64 .u64 (rdU b) := by rw [rtI, hc]; rfl
    refine Tri.at (by first | (simp only [hc, Con.start, go_sem]; rfl) | rfl) ?_
    repeat (first | ((first | refine Tri.seq (Tri.regT (cfgTF2_ok.pins _) ?_) | refine Tri.rgnT (cfgTF2_ok.pins _) ?_); (repeat (first | refine RunT.oneA (hp := by simp (maxSteps := 2000000) (disch := first | decide | omega | (simp only [List.length_append, List.length_cons, List.length_nil, List.length_take, List.length_drop]; omega)) only [hc, go_sem]; rfl) (h := ?_) | refine RunT.notA (h := ?_))); refine RunT.nil ?_; try simp only [InBlock, Then]) | refine Tri.cF (by first | (simp only [hc, go_sem]; done) | fail) ?_ | refine Tri.cT (by first | (simp only [hc, go_sem]; done) | fail) ?_ | (refine Tri.skip ?_; try simp only [InBlock, Then]) | (refine Tri.exit ?_; simp only [Then, InBlock, if_true, if_false, ↓reduceIte, Nat.reduceEqDiff]) | refine Tri.seq (Tri.block ?_) | refine Tri.block ?_ | refine Tri.seq ?_ | (refine Tri.ret ?_; refine Con.fin (.inl rfl) (by simp only [Tryd.f70, cfgTF2, resA, resA1, go_sem]; rfl) (by simp only [Obs, and_true, true_and]) (by first | (simp only [kRNo, Con.of, Con.ofO, resV, hc, go_sem]; done) | fail) trivial rfl rfl))
    refine Tri.ret ?_
    refine Con.fin (.inl rfl) (by simp only [Tryd.f70, cfgTF2, resA, resA1, go_sem]; rfl) (by simp only [Obs, and_true, true_and]) ?_ ?_ rfl rfl
    · show AV.tuple [.int .u64 (rdU b), .int .i64 (convT .i64 .u64 (rdU b)), .bool (rdB b)] = AV.tuple [.int .u64 (rdU b), .int .i64 (rtI b), .bool (rdB b)]
      rw [e1]
    · exact True.intro
theorem rno_sum : FSumOK Tryd.prog cfgTF2.G 70 kRNo.sum := Con.sumOK cfgTF2_ok kRNo Tryd.func70 rfl rfl (Con.of_inv _ _ _) rno_body
end
def rkI (b : List UInt8) : Nat → List UInt8
  | 0 => [0, 0, 0, 0, 0, 0, 0, 0, 0, 0, 0, 0, 0, 0, 0, 0]
  | i + 1 => (rkI b i).set i (b.getD i 0)
def rkV (b : List UInt8) : AV := .tuple [.pure k16 (rkI b (min 16 b.length)), .bool (decide (((b.length : Nat) : Int) = 16))]
def kRKe : Con := Con.of [.v (.slice false (.int .u8))] (fun x => [List.length (α := UInt8) x.1 ≤ 1000000]) (fun x => ⟨rkV x.1, []⟩)
def cfgTF3 : Cfg2 := { ty := tyTab, fn := fun  | _ => none, G := gNone, pin := [], eq := fun _ => none }
theorem cfgTF3_ok : CfgOK Tryd.prog cfgTF3 := ⟨tysOK, (fun f s h => by cases h), (fun t d h => by cases h)⟩
section
attribute [local go_sem] Tryd.f71 kRKe cfgTF3 tyTab
theorem rke_body (p : kRKe.Par) (hp : ∀ q ∈ kRKe.pre p, q) : BodyOK Tryd.prog cfgTF3 Tryd.f71 (Tryd.f71.body.get rfl) kRKe p := by
  obtain ⟨(b : List UInt8), u⟩ := p
  obtain ⟨h0, _⟩ := Obs.of hp
  replace h0 : b.length ≤ 1000000 := h0
  refine ⟨?_, Nat.zero_le _, rfl, rfl⟩
  show Tri _ _ _ (Code.seq _ (Code.seq _ (Code.seq (Code.seq _ (Code.block _ (Code.loop (Code.seq (Code.seq _ (Code.cond _ _ _)) (Code.seq (Code.block _ _) _))))) (Code.seq _ _)))) _
  refine Tri.at (by first | (simp only [go_sem, Con.start, go_sem]; rfl) | rfl) ?_
  repeat (first | ((first | refine Tri.seq (Tri.regT (cfgTF3_ok.pins _) ?_) | refine Tri.rgnT (cfgTF3_ok.pins _) ?_); (repeat (first | refine RunT.oneA (hp := by simp (maxSteps := 2000000) (disch := first | decide | omega | (simp only [List.length_append, List.length_cons, List.length_nil, List.length_take, List.length_drop]; omega)) only [go_sem, go_sem]; rfl) (h := ?_) | refine RunT.notA (h := ?_))); refine RunT.nil ?_; try simp only [InBlock, Then]) | refine Tri.cF (by first | (simp only [go_sem, go_sem]; done) | fail) ?_ | refine Tri.cT (by first | (simp only [go_sem, go_sem]; done) | fail) ?_ | (refine Tri.skip ?_; try simp only [InBlock, Then]) | (refine Tri.exit ?_; simp only [Then, InBlock, if_true, if_false, ↓reduceIte, Nat.reduceEqDiff]) | refine Tri.seq (Tri.block ?_) | refine Tri.block ?_ | refine Tri.seq ?_ | (refine Tri.ret ?_; refine Con.fin (.inl rfl) (by simp only [Tryd.f71, cfgTF3, resA, resA1, go_sem]; rfl) (by simp only [Obs, and_true, true_and]) (by first | (simp only [kRKe, Con.of, Con.ofO, resV, go_sem, go_sem]; done) | fail) trivial rfl rfl))
  refine Tri.loop (fun i : Nat => (⟨[some (.pure (.slice false (.int .u8)) b), none, some (.ptr 0 [] 0), some (.bool false), some (.ptr 1 [] 0), some (.int .i64 (i : Int))] ++ List.replicate 21 none, [.live (.pure k16 (rkI b 0)), .live (.pure k16 (rkI b i))]⟩ : AS)) (fun i => i ≤ min 16 b.length) (fun i => min 16 b.length - i) 0 ?_ (Nat.zero_le _) ?_
  · refine Wk.of ?_ ?_ rfl rfl
    · simp only [lessTs, List.reduceReplicate, List.cons_append, List.nil_append, rkI] <;> ((repeat' apply And.intro) <;> first | with_reducible rfl | exact True.intro | exact congrArg (fun z : Int => some (AV.int IntKind.i64 z)) (show (_ : Int) = _ by omega) | exact congrArg (fun z : Nat => some (AV.tsl _ _ _ _ _ z)) (show (_ : Nat) = _ by omega) | exact arrEq (by omega) (by with_reducible rfl))
    · simp only [lessHs, rkI] <;> ((repeat' apply And.intro) <;> first | with_reducible rfl | exact True.intro | exact congrArg (fun z : Int => some (AV.int IntKind.i64 z)) (show (_ : Int) = _ by omega) | exact congrArg (fun z : Nat => some (AV.tsl _ _ _ _ _ z)) (show (_ : Nat) = _ by omega) | exact arrEq (by omega) (by with_reducible rfl))
  · intro i hi
    by_cases h1 : i < 16
    · have h1' : decide ((i : Int) < 16) = true := decide_eq_true (by omega)
      by_cases h2 : i < b.length
      · have h2' : decide ((i : Int) < (b.length : Int)) = true := decide_eq_true (by omega)
        have hn : rkI b (i + 1) = (rkI b i).set i (b.getD i 0) := rfl
        generalize hK : rkI b i = K at *
        generalize hK0 : rkI b 0 = K0 at *
        refine Tri.at (by first | (simp only [h1', h2', Con.start, go_sem]; rfl) | rfl) ?_
        repeat (first | ((first | refine Tri.seq (Tri.regT (cfgTF3_ok.pins _) ?_) | refine Tri.rgnT (cfgTF3_ok.pins _) ?_); (repeat (first | refine RunT.oneA (hp := by simp (maxSteps := 2000000) (disch := first | decide | omega | (simp only [List.length_append, List.length_cons, List.length_nil, List.length_take, List.length_drop]; omega)) only [h1', h2', go_sem]; rfl) (h := ?_) | refine RunT.notA (h := ?_))); refine RunT.nil ?_; try simp only [InBlock, Then]) | refine Tri.cF (by first | (simp only [h1', h2', go_sem]; done) | fail) ?_ | refine Tri.cT (by first | (simp only [h1', h2', go_sem]; done) | fail) ?_ | (refine Tri.skip ?_; try simp only [InBlock, Then]) | (refine Tri.exit ?_; simp only [Then, InBlock, if_true, if_false, ↓reduceIte, Nat.reduceEqDiff]) | refine Tri.seq (Tri.block ?_) | refine Tri.block ?_ | refine Tri.seq ?_ | (refine Tri.ret ?_; refine Con.fin (.inl rfl) (by simp only [Tryd.f71, cfgTF3, resA, resA1, go_sem]; rfl) (by simp only [Obs, and_true, true_and]) (by first | (simp only [kRKe, Con.of, Con.ofO, resV, h1', h2', go_sem]; done) | fail) trivial rfl rfl))
        refine ⟨i + 1, (by omega), (by omega), Wk.of ?_ ?_ rfl rfl⟩
        · simp only [lessTs, List.reduceReplicate, List.cons_append, List.nil_append] <;> ((repeat' apply And.intro) <;> first | with_reducible rfl | exact True.intro | exact congrArg (fun z : Int => some (AV.int IntKind.i64 z)) (show (_ : Int) = _ by omega) | exact congrArg (fun z : Nat => some (AV.tsl _ _ _ _ _ z)) (show (_ : Nat) = _ by omega) | exact arrEq (by omega) (by with_reducible rfl))
        · exact ⟨rfl, congrArg (fun z : List UInt8 => Slot.live (.pure k16 z)) hn.symm, trivial⟩
      · have h2' : decide ((i : Int) < (b.length : Int)) = false := decide_eq_false (by omega)
        have hi2 : i = min 16 b.length := by omega
        generalize hK0 : rkI b 0 = K0 at *
        have e : rkV b = .tuple [.pure k16 (rkI b i), .bool (decide (((b.length : Nat) : Int) = 16))] := by rw [rkV, hi2]
        generalize hK : rkI b i = K at *
        refine Tri.at (by first | (simp only [h1', h2', Con.start, go_sem]; rfl) | rfl) ?_
        repeat (first | ((first | refine Tri.seq (Tri.regT (cfgTF3_ok.pins _) ?_) | refine Tri.rgnT (cfgTF3_ok.pins _) ?_); (repeat (first | refine RunT.oneA (hp := by simp (maxSteps := 2000000) (disch := first | decide | omega | (simp only [List.length_append, List.length_cons, List.length_nil, List.length_take, List.length_drop]; omega)) only [h1', h2', go_sem]; rfl) (h := ?_) | refine RunT.notA (h := ?_))); refine RunT.nil ?_; try simp only [InBlock, Then]) | refine Tri.cF (by first | (simp only [h1', h2', go_sem]; done) | fail) ?_ | refine Tri.cT (by first | (simp only [h1', h2', go_sem]; done) | fail) ?_ | (refine Tri.skip ?_; try simp only [InBlock, Then]) | (refine Tri.exit ?_; simp only [Then, InBlock, if_true, if_false, ↓reduceIte, Nat.reduceEqDiff]) | refine Tri.seq (Tri.block ?_) | refine Tri.block ?_ | refine Tri.seq ?_ | (refine Tri.ret ?_; refine Con.fin (.inl rfl) (by simp only [Tryd.f71, cfgTF3, resA, resA1, go_sem]; rfl) (by simp only [Obs, and_true, true_and]) (by first | (simp only [kRKe, Con.of, Con.ofO, resV, h1', h2', go_sem]; done) | fail) trivial rfl rfl))
        refine Tri.ret ?_
        refine Con.fin (.inl rfl) (by simp only [Tryd.f71, cfgTF3, resA, resA1, go_sem]; rfl) (by simp only [Obs, and_true, true_and]) ?_ ?_ rfl rfl
        · exact e.symm
        · exact True.intro
    · have h1' : decide ((i : Int) < 16) = false := decide_eq_false (by omega)
      have hi2 : i = min 16 b.length := by omega
      generalize hK0 : rkI b 0 = K0 at *
      have e : rkV b = .tuple [.pure k16 (rkI b i), .bool (decide (((b.length : Nat) : Int) = 16))] := by rw [rkV, hi2]
      generalize hK : rkI b i = K at *
      refine Tri.at (by first | (simp only [h1', Con.start, go_sem]; rfl) | rfl) ?_
      repeat (first | ((first | refine Tri.seq (Tri.regT (cfgTF3_ok.pins _) ?_) | refine Tri.rgnT (cfgTF3_ok.pins _) ?_); (repeat (first | refine RunT.oneA (hp := by simp (maxSteps := 2000000) (disch := first | decide | omega | (simp only [List.length_append, List.length_cons, List.length_nil, List.length_take, List.length_drop]; omega)) only [h1', go_sem]; rfl) (h := ?_) | refine RunT.notA (h := ?_))); refine RunT.nil ?_; try simp only [InBlock, Then]) | refine Tri.cF (by first | (simp only [h1', go_sem]; done) | fail) ?_ | refine Tri.cT (by first | (simp only [h1', go_sem]; done) | fail) ?_ | (refine Tri.skip ?_; try simp only [InBlock, Then]) | (refine Tri.exit ?_; simp only [Then, InBlock, if_true, if_false, ↓reduceIte, Nat.reduceEqDiff]) | refine Tri.seq (Tri.block ?_) | refine Tri.block ?_ | refine Tri.seq ?_ | (refine Tri.ret ?_; refine Con.fin (.inl rfl) (by simp only [Tryd.f71, cfgTF3, resA, resA1, go_sem]; rfl) (by simp only [Obs, and_true, true_and]) (by first | (simp only [kRKe, Con.of, Con.ofO, resV, h1', go_sem]; done) | fail) trivial rfl rfl))
      refine Tri.ret ?_
      refine Con.fin (.inl rfl) (by simp only [Tryd.f71, cfgTF3, resA, resA1, go_sem]; rfl) (by simp only [Obs, and_true, true_and]) ?_ ?_ rfl rfl
      · exact e.symm
      · exact True.intro
theorem rke_sum : FSumOK Tryd.prog cfgTF3.G 71 kRKe.sum := Con.sumOK cfgTF3_ok kRKe Tryd.func71 rfl rfl (Con.of_inv _ _ _) rke_body
end
end Go.Proofs.YtjdeaphfamenaaaDoor

namespace Go.Proofs.YtjdeaphfamenaaaDoor
open Go.Vc Go.Proofs
set_option maxRecDepth 10000
set_option maxHeartbeats 4000000
def tyTabP : TypeId → Option TyI := fun t => if t = 5 then some (TyI.kdp (.int .u8) (.int .u8) 1) else tyTabM t
theorem tyTabP_ok : TysOK Tryd.prog tyTabP := by
  intro t i h
  unfold tyTabP at h
  split at h
  · rename_i e
    injection h with h
    subst h e
    exact TyOK.kdp Tryd.underlying5 (by kernel_rfl)
  · exact tyTabM_ok t i h
def rsV (d : List UInt8) : AV := match spF d.length d [] with
  | (none, e) => .tuple [.pure (.slice true flK) [], .int .i64 e]
  | (some fs, _) => .tuple [.pure (.slice true flK) fs, .int .i64 (0 : Int)]
def kRSp : Con := Con.of [.v (.slice false (.int .u8))] (fun x => [List.length (α := UInt8) x.1 ≤ 1000000]) (fun x => ⟨rsV x.1, []⟩)
theorem getD_drop (d : List UInt8) (a i : Nat) : (List.drop a d).getD i 0 = d.getD (a + i) 0 := by
  rw [List.getD_eq_getElem?_getD, List.getD_eq_getElem?_getD, List.getElem?_drop]
def cfgRS1 : Cfg2 := { ty := tyTabP, fn := fun  | _ => none, G := gNone, pin := [], eq := fun _ => none }
theorem cfgRS1_ok : CfgOK Tryd.prog cfgRS1 := ⟨tyTabP_ok, (fun f s h => by cases h), (fun t d h => by cases h)⟩
section
attribute [local go_sem] Tryd.f75 kRSp cfgRS1 tyTabP tyTabM tyTabK tyTab
theorem rsp_body (p : kRSp.Par) (hp : ∀ q ∈ kRSp.pre p, q) : BodyOK Tryd.prog cfgRS1 Tryd.f75 (Tryd.f75.body.get rfl) kRSp p := by
  obtain ⟨(d0 : List UInt8), u⟩ := p
  obtain ⟨h0, _⟩ := Obs.of hp
  replace h0 : d0.length ≤ 1000000 := h0
  refine ⟨?_, Nat.zero_le _, (by show (rsV d0).strict = true; unfold rsV; split <;> rfl), rfl⟩
  show Tri _ _ _ (Code.seq _ (Code.seq _ (Code.seq (Code.block _ (Code.loop (Code.seq (Code.seq _ (Code.cond _ _ _)) (Code.block _ (Code.seq (Code.seq _ (Code.cond _ (Code.seq _ _) _)) (Code.seq _ (Code.seq (Code.seq _ (Code.cond _ (Code.seq _ _) _)) (Code.seq _ (Code.seq _ _))))))))) (Code.seq _ _)))) _
  have hV : rsV d0 = (match spF d0.length d0 [] with
    | (none, e) => .tuple [.pure (.slice true flK) [], .int .i64 e]
    | (some fs, _) => .tuple [.pure (.slice true flK) fs, .int .i64 (0 : Int)]) := rfl
  refine Tri.at (by first | (simp only [go_sem, Con.start, go_sem]; rfl) | rfl) ?_
  repeat (first | ((first | refine Tri.seq (Tri.regT (cfgRS1_ok.pins _) ?_) | refine Tri.rgnT (cfgRS1_ok.pins _) ?_); (repeat (first | refine RunT.oneA (hp := by simp (maxSteps := 2000000) (disch := first | decide | omega | (simp only [List.length_append, List.length_cons, List.length_nil, List.length_take, List.length_drop]; omega)) only [go_sem, go_sem]; rfl) (h := ?_) | refine RunT.notA (h := ?_))); refine RunT.nil ?_; try simp only [InBlock, Then]) | refine Tri.cF (by first | (simp only [go_sem, go_sem]; done) | fail) ?_ | refine Tri.cT (by first | (simp only [go_sem, go_sem]; done) | fail) ?_ | (refine Tri.skip ?_; try simp only [InBlock, Then]) | (refine Tri.exit ?_; simp only [Then, InBlock, if_true, if_false, ↓reduceIte, Nat.reduceEqDiff]) | refine Tri.seq (Tri.block ?_) | refine Tri.block ?_ | refine Tri.seq ?_ | (refine Tri.ret ?_; refine Con.fin (.inl rfl) (by simp only [Tryd.f75, cfgRS1, resA, resA1, go_sem]; rfl) (by simp only [Obs, and_true, true_and]) (by first | (simp only [kRSp, Con.of, Con.ofO, resV, go_sem, go_sem]; done) | fail) trivial rfl rfl))
  refine Tri.loop (fun v : Nat × Nat × List flK.T => (⟨[some (.pure (.slice false (.int .u8)) d0), none, some (.nilsl), some (.int .i64 (0 : Int)), some (.tsl 0 [] 0 0 2 v.2.2.length), some (.int .i64 (v.2.1 : Int))] ++ List.replicate 77 none, [.live (.pure (.arr v.2.2.length flK) v.2.2)]⟩ : AS)) (fun v => v.2.1 ≤ d0.length ∧ (List.drop v.2.1 d0).length ≤ v.1 ∧ v.1 ≤ d0.length ∧ v.2.2.length + v.1 ≤ d0.length ∧ spF d0.length d0 [] = spF v.1 (List.drop v.2.1 d0) v.2.2) (fun v => v.1) (d0.length, 0, []) ?_ ⟨Nat.zero_le _, Nat.le_refl _, Nat.le_refl _, (by show 0 + d0.length ≤ d0.length; omega), rfl⟩ ?_
  · refine Wk.of ?_ ?_ rfl rfl
    · simp only [lessTs, List.reduceReplicate, List.cons_append, List.nil_append, List.length_nil] <;> ((repeat' apply And.intro) <;> first | with_reducible rfl | exact True.intro | exact congrArg (fun z : Int => some (AV.int IntKind.i64 z)) (show (_ : Int) = _ by omega) | exact congrArg (fun z : Nat => some (AV.tsl _ _ _ _ _ z)) (show (_ : Nat) = _ by omega) | exact arrEq (by omega) (by with_reducible rfl))
    · simp only [lessHs, List.length_nil] <;> ((repeat' apply And.intro) <;> first | with_reducible rfl | exact True.intro | exact congrArg (fun z : Int => some (AV.int IntKind.i64 z)) (show (_ : Int) = _ by omega) | exact congrArg (fun z : Nat => some (AV.tsl _ _ _ _ _ z)) (show (_ : Nat) = _ by omega) | exact arrEq (by omega) (by with_reducible rfl))
  · intro ⟨k, at', acc⟩ ⟨hat, hk, hk2, hal, hsp⟩
    replace hat : at' ≤ d0.length := hat
    have hdl : (List.drop at' d0).length = d0.length - at' := List.length_drop ..
    replace hk : (List.drop at' d0).length ≤ k := hk
    rw [hdl] at hk
    replace hk2 : k ≤ d0.length := hk2
    replace hal : acc.length + k ≤ d0.length := hal
    replace hsp : spF d0.length d0 [] = spF k (List.drop at' d0) acc := hsp
    have htk : List.take acc.length acc = acc := List.take_length
    by_cases hz : d0.length = at'
    · have hz' : decide ((at' : Int) < (d0.length : Int)) = false := decide_eq_false (by omega)
      have hend : spF k (List.drop at' d0) acc = (some acc, 0) := by
        cases k with
        | zero => rfl
        | succ k => rw [spF, if_pos (by rw [hdl]; omega)]
      rw [hsp, hend] at hV
      replace hV : rsV d0 = .tuple [.pure (.slice true flK) acc, .int .i64 (0 : Int)] := hV
      refine Tri.at (by first | (simp only [hz', Con.start, go_sem]; rfl) | rfl) ?_
      repeat (first | ((first | refine Tri.seq (Tri.regT (cfgRS1_ok.pins _) ?_) | refine Tri.rgnT (cfgRS1_ok.pins _) ?_); (repeat (first | refine RunT.oneA (hp := by simp (maxSteps := 2000000) (disch := first | decide | omega | (simp only [List.length_append, List.length_cons, List.length_nil, List.length_take, List.length_drop]; omega)) only [hz', go_sem]; rfl) (h := ?_) | refine RunT.notA (h := ?_))); refine RunT.nil ?_; try simp only [InBlock, Then]) | refine Tri.cF (by first | (simp only [hz', go_sem]; done) | fail) ?_ | refine Tri.cT (by first | (simp only [hz', go_sem]; done) | fail) ?_ | (refine Tri.skip ?_; try simp only [InBlock, Then]) | (refine Tri.exit ?_; simp only [Then, InBlock, if_true, if_false, ↓reduceIte, Nat.reduceEqDiff]) | refine Tri.seq (Tri.block ?_) | refine Tri.block ?_ | refine Tri.seq ?_ | (refine Tri.ret ?_; refine Con.fin (.inl rfl) (by simp only [Tryd.f75, cfgRS1, resA, resA1, go_sem]; rfl) (by simp only [Obs, and_true, true_and]) (by first | (simp only [kRSp, Con.of, Con.ofO, resV, hz', go_sem]; done) | fail) trivial rfl rfl))
      refine Tri.rel true 0 rfl ?_ rfl rfl ?_
      · simp only [AS.blk, go_sem]
        repeat' constructor
      refine Tri.at (by first | (simp only [htk, Con.start, go_sem]; rfl) | rfl) ?_
      refine Tri.ret ?_
      refine Con.fin (.inl rfl) (by simp only [Tryd.f75, cfgRS1, resA, resA1, go_sem]; rfl) (by simp only [Obs, and_true, true_and]) ?_ ?_ ?_ rfl
      · exact hV.symm
      · exact True.intro
      · show (AS.mk [some (rsV d0)] []).closed = true
        rw [hV]; rfl
    · have hz' : decide ((at' : Int) < (d0.length : Int)) = true := decide_eq_true (by omega)
      obtain ⟨k', rfl⟩ : ∃ k', k = k' + 1 := ⟨k - 1, by omega⟩
      rw [spF, if_neg (by rw [hdl]; omega), getD_drop, Nat.add_zero] at hsp
      by_cases h1 : d0.getD at' 0 = 0
      · have h1' : decide (d0.getD at' 0 = 0) = true := decide_eq_true h1
        rw [if_pos h1] at hsp
        rw [hsp] at hV
        replace hV : rsV d0 = .tuple [.pure (.slice true flK) [], .int .i64 (21 : Int)] := hV
        refine Tri.at (by first | (simp only [hz', h1', Con.start, go_sem]; rfl) | rfl) ?_
        repeat (first | ((first | refine Tri.seq (Tri.regT (cfgRS1_ok.pins _) ?_) | refine Tri.rgnT (cfgRS1_ok.pins _) ?_); (repeat (first | refine RunT.oneA (hp := by simp (maxSteps := 2000000) (disch := first | decide | omega | (simp only [List.length_append, List.length_cons, List.length_nil, List.length_take, List.length_drop]; omega)) only [hz', h1', go_sem]; rfl) (h := ?_) | refine RunT.notA (h := ?_))); refine RunT.nil ?_; try simp only [InBlock, Then]) | refine Tri.cF (by first | (simp only [hz', h1', go_sem]; done) | fail) ?_ | refine Tri.cT (by first | (simp only [hz', h1', go_sem]; done) | fail) ?_ | (refine Tri.skip ?_; try simp only [InBlock, Then]) | (refine Tri.exit ?_; simp only [Then, InBlock, if_true, if_false, ↓reduceIte, Nat.reduceEqDiff]) | refine Tri.seq (Tri.block ?_) | refine Tri.block ?_ | refine Tri.seq ?_ | (refine Tri.ret ?_; refine Con.fin (.inl rfl) (by simp only [Tryd.f75, cfgRS1, resA, resA1, go_sem]; rfl) (by simp only [Obs, and_true, true_and]) (by first | (simp only [kRSp, Con.of, Con.ofO, resV, hz', h1', go_sem]; done) | fail) trivial rfl rfl))
        refine Tri.rel true 1 rfl ?_ rfl rfl ?_
        · simp only [AS.blk, go_sem]
          repeat' constructor
        refine Tri.at (by first | (simp only [hz', h1', Con.start, go_sem]; rfl) | rfl) ?_
        refine Tri.ret ?_
        refine Con.fin (.inl rfl) (by simp only [Tryd.f75, cfgRS1, resA, resA1, go_sem]; rfl) (by simp only [Obs, and_true, true_and]) ?_ ?_ ?_ rfl
        · exact hV.symm
        · exact True.intro
        · show (AS.mk [some (rsV d0)] []).closed = true
          rw [hV]; rfl
      · have h1' : decide (d0.getD at' 0 = 0) = false := decide_eq_false h1
        rw [if_neg h1, hdl] at hsp
        have hleft : ((d0.length : Nat) : Int) - ((at' : Nat) : Int) = ((d0.length - at' : Nat) : Int) := by omega
        by_cases h2 : d0.length - at' < 3
        · have h2' : decide (((d0.length - at' : Nat) : Int) < 3) = true := decide_eq_true (by omega)
          rw [if_pos h2] at hsp
          rw [hsp] at hV
          replace hV : rsV d0 = .tuple [.pure (.slice true flK) [], .int .i64 (20 : Int)] := hV
          refine Tri.at (by first | (simp only [hz', h1', h2', hleft, Con.start, go_sem]; rfl) | rfl) ?_
          repeat (first | ((first | refine Tri.seq (Tri.regT (cfgRS1_ok.pins _) ?_) | refine Tri.rgnT (cfgRS1_ok.pins _) ?_); (repeat (first | refine RunT.oneA (hp := by simp (maxSteps := 2000000) (disch := first | decide | omega | (simp only [List.length_append, List.length_cons, List.length_nil, List.length_take, List.length_drop]; omega)) only [hz', h1', h2', hleft, go_sem]; rfl) (h := ?_) | refine RunT.notA (h := ?_))); refine RunT.nil ?_; try simp only [InBlock, Then]) | ((first | refine Tri.seq (Tri.drwT (mixed) (cfgRS1_ok.pins _) ?_) | refine Tri.drnT (mixed) (cfgRS1_ok.pins _) ?_); (repeat (first | refine RunD.oneA (hp := by simp (maxSteps := 2000000) (disch := first | decide | omega | (simp only [List.length_append, List.length_cons, List.length_nil, List.length_take, List.length_drop]; omega)) only [hz', h1', h2', hleft, go_sem]; rfl) (h := ?_) | refine RunD.notA (h := ?_))); refine RunD.nil ?_; refine ⟨by kernel_rfl, ?_⟩; try simp only [InBlock, Then]) | refine Tri.cF (by first | (simp only [hz', h1', h2', hleft, go_sem]; done) | fail) ?_ | refine Tri.cT (by first | (simp only [hz', h1', h2', hleft, go_sem]; done) | fail) ?_ | (refine Tri.skip ?_; try simp only [InBlock, Then]) | (refine Tri.exit ?_; simp only [Then, InBlock, if_true, if_false, ↓reduceIte, Nat.reduceEqDiff]) | refine Tri.seq (Tri.block ?_) | refine Tri.block ?_ | refine Tri.seq ?_ | (refine Tri.ret ?_; refine Con.fin (.inl rfl) (by simp only [Tryd.f75, cfgRS1, resA, resA1, go_sem]; rfl) (by simp only [Obs, and_true, true_and]) (by first | (simp only [kRSp, Con.of, Con.ofO, resV, hz', h1', h2', hleft, go_sem]; done) | fail) trivial rfl rfl))
          refine Tri.rel true 1 rfl ?_ rfl rfl ?_
          · simp only [AS.blk, go_sem]
            repeat' constructor
          refine Tri.at (by first | (simp only [hz', h1', h2', hleft, Con.start, go_sem]; rfl) | rfl) ?_
          refine Tri.ret ?_
          refine Con.fin (.inl rfl) (by simp only [Tryd.f75, cfgRS1, resA, resA1, go_sem]; rfl) (by simp only [Obs, and_true, true_and]) ?_ ?_ ?_ rfl
          · exact hV.symm
          · exact True.intro
          · show (AS.mk [some (rsV d0)] []).closed = true
            rw [hV]; rfl
        · have h2' : decide (((d0.length - at' : Nat) : Int) < 3) = false := decide_eq_false (by omega)
          rw [if_neg h2] at hsp
          have hl3 : ((d0.length - at' : Nat) : Int) - 3 = ((d0.length - at' - 3 : Nat) : Int) := by omega
          have hN : spN (List.drop at' d0) = 256 * (d0.getD (at' + 1) 0).toNat + (d0.getD (at' + 2) 0).toNat := by rw [spN, getD_drop, getD_drop]; omega
          rw [hN] at hsp
          have b1 := UInt8.toNat_lt (d0.getD (at' + 1) 0)
          have b2 := UInt8.toNat_lt (d0.getD (at' + 2) 0)
          generalize hn : 256 * (d0.getD (at' + 1) 0).toNat + (d0.getD (at' + 2) 0).toNat = n at *
          by_cases h3 : d0.length - at' - 3 < n
          · have h3' : decide (((d0.length - at' - 3 : Nat) : Int) < ((n : Nat) : Int)) = true := decide_eq_true (by omega)
            rw [if_pos h3] at hsp
            rw [hsp] at hV
            replace hV : rsV d0 = .tuple [.pure (.slice true flK) [], .int .i64 (20 : Int)] := hV
            refine Tri.at (by first | (simp only [hz', h1', h2', hleft, hl3, hn, h3', Con.start, go_sem]; rfl) | rfl) ?_
            repeat (first | ((first | refine Tri.seq (Tri.regT (cfgRS1_ok.pins _) ?_) | refine Tri.rgnT (cfgRS1_ok.pins _) ?_); (repeat (first | refine RunT.oneA (hp := by simp (maxSteps := 2000000) (disch := first | decide | omega | (simp only [List.length_append, List.length_cons, List.length_nil, List.length_take, List.length_drop]; omega)) only [hz', h1', h2', hleft, hl3, hn, h3', go_sem]; rfl) (h := ?_) | refine RunT.notA (h := ?_))); refine RunT.nil ?_; try simp only [InBlock, Then]) | ((first | refine Tri.seq (Tri.drwT (mixed) (cfgRS1_ok.pins _) ?_) | refine Tri.drnT (mixed) (cfgRS1_ok.pins _) ?_); (repeat (first | refine RunD.oneA (hp := by simp (maxSteps := 2000000) (disch := first | decide | omega | (simp only [List.length_append, List.length_cons, List.length_nil, List.length_take, List.length_drop]; omega)) only [hz', h1', h2', hleft, hl3, hn, h3', go_sem]; rfl) (h := ?_) | refine RunD.notA (h := ?_))); refine RunD.nil ?_; refine ⟨by kernel_rfl, ?_⟩; try simp only [InBlock, Then]) | refine Tri.cF (by first | (simp only [hz', h1', h2', hleft, hl3, hn, h3', go_sem]; done) | fail) ?_ | refine Tri.cT (by first | (simp only [hz', h1', h2', hleft, hl3, hn, h3', go_sem]; done) | fail) ?_ | (refine Tri.skip ?_; try simp only [InBlock, Then]) | (refine Tri.exit ?_; simp only [Then, InBlock, if_true, if_false, ↓reduceIte, Nat.reduceEqDiff]) | refine Tri.seq (Tri.block ?_) | refine Tri.block ?_ | refine Tri.seq ?_ | (refine Tri.ret ?_; refine Con.fin (.inl rfl) (by simp only [Tryd.f75, cfgRS1, resA, resA1, go_sem]; rfl) (by simp only [Obs, and_true, true_and]) (by first | (simp only [kRSp, Con.of, Con.ofO, resV, hz', h1', h2', hleft, hl3, hn, h3', go_sem]; done) | fail) trivial rfl rfl))
            refine Tri.rel true 1 rfl ?_ rfl rfl ?_
            · simp only [AS.blk, go_sem]
              repeat' constructor
            refine Tri.at (by first | (simp only [hz', h1', h2', hleft, hl3, hn, h3', Con.start, go_sem]; rfl) | rfl) ?_
            refine Tri.ret ?_
            refine Con.fin (.inl rfl) (by simp only [Tryd.f75, cfgRS1, resA, resA1, go_sem]; rfl) (by simp only [Obs, and_true, true_and]) ?_ ?_ ?_ rfl
            · exact hV.symm
            · exact True.intro
            · show (AS.mk [some (rsV d0)] []).closed = true
              rw [hV]; rfl
          · have h3' : decide (((d0.length - at' - 3 : Nat) : Int) < ((n : Nat) : Int)) = false := decide_eq_false (by omega)
            rw [if_neg h3, List.drop_drop, List.drop_drop] at hsp
            have hw2 : List.take n (List.drop 3 (List.drop at' d0)) = List.take n (List.drop (at' + 3) d0) := by rw [List.drop_drop]
            rw [hw2] at hsp
            have hsl : List.take (at' + 3 + n - (at' + 3)) (List.drop (at' + 3) d0) = List.take n (List.drop (at' + 3) d0) := by rw [show at' + 3 + n - (at' + 3) = n by omega]
            have hwl : (List.take n (List.drop (at' + 3) d0)).length = n := by rw [List.length_take, List.length_drop]; omega
            generalize hw : List.take n (List.drop (at' + 3) d0) = wv at *
            refine Tri.at (by first | (simp only [hz', h1', h2', hleft, hl3, hn, h3', htk, hsl, ne_eq, not_false_eq_true, List.range_zero, List.filter_nil, Con.start, go_sem]; rfl) | rfl) ?_
            repeat (first | ((first | refine Tri.seq (Tri.regT (cfgRS1_ok.pins _) ?_) | refine Tri.rgnT (cfgRS1_ok.pins _) ?_); (repeat (first | refine RunT.oneA (hp := by simp (maxSteps := 2000000) (disch := first | decide | omega | (simp only [List.length_append, List.length_cons, List.length_nil, List.length_take, List.length_drop]; omega)) only [hz', h1', h2', hleft, hl3, hn, h3', htk, hsl, ne_eq, not_false_eq_true, List.range_zero, List.filter_nil, go_sem]; rfl) (h := ?_) | refine RunT.notA (h := ?_))); refine RunT.nil ?_; try simp only [InBlock, Then]) | ((first | refine Tri.seq (Tri.drwT (mixed) (cfgRS1_ok.pins _) ?_) | refine Tri.drnT (mixed) (cfgRS1_ok.pins _) ?_); (repeat (first | refine RunD.oneA (hp := by simp (maxSteps := 2000000) (disch := first | decide | omega | (simp only [List.length_append, List.length_cons, List.length_nil, List.length_take, List.length_drop]; omega)) only [hz', h1', h2', hleft, hl3, hn, h3', htk, hsl, ne_eq, not_false_eq_true, List.range_zero, List.filter_nil, go_sem]; rfl) (h := ?_) | refine RunD.notA (h := ?_))); refine RunD.nil ?_; refine ⟨by kernel_rfl, ?_⟩; try simp only [InBlock, Then]) | refine Tri.cF (by first | (simp only [hz', h1', h2', hleft, hl3, hn, h3', htk, hsl, ne_eq, not_false_eq_true, List.range_zero, List.filter_nil, go_sem]; done) | fail) ?_ | refine Tri.cT (by first | (simp only [hz', h1', h2', hleft, hl3, hn, h3', htk, hsl, ne_eq, not_false_eq_true, List.range_zero, List.filter_nil, go_sem]; done) | fail) ?_ | (refine Tri.skip ?_; try simp only [InBlock, Then]) | (refine Tri.exit ?_; simp only [Then, InBlock, if_true, if_false, ↓reduceIte, Nat.reduceEqDiff]) | refine Tri.seq (Tri.block ?_) | refine Tri.block ?_ | refine Tri.seq ?_ | (refine Tri.ret ?_; refine Con.fin (.inl rfl) (by simp only [Tryd.f75, cfgRS1, resA, resA1, go_sem]; rfl) (by simp only [Obs, and_true, true_and]) (by first | (simp only [kRSp, Con.of, Con.ofO, resV, hz', h1', h2', hleft, hl3, hn, h3', htk, hsl, ne_eq, not_false_eq_true, List.range_zero, List.filter_nil, go_sem]; done) | fail) trivial rfl rfl))
            have hnew : (acc ++ [((((d0.getD at' 0).toNat : Int), wv, ()) : flK.T)]).length = acc.length + 1 := by rw [List.length_append]; rfl
            refine ⟨(k', at' + (3 + n), acc ++ [((((d0.getD at' 0).toNat : Int), wv, ()) : flK.T)]), ⟨(by show at' + (3 + n) ≤ d0.length; omega), (by show (List.drop (at' + (3 + n)) d0).length ≤ k'; rw [List.length_drop]; omega), (by show k' ≤ d0.length; omega), (by show (acc ++ [((((d0.getD at' 0).toNat : Int), wv, ()) : flK.T)]).length + k' ≤ d0.length; rw [hnew]; omega), hsp⟩, (by show k' < k' + 1; omega), Wk.of ?_ ?_ rfl rfl⟩
            · simp only [lessTs, List.reduceReplicate, List.cons_append, List.nil_append, hnew] <;> ((repeat' apply And.intro) <;> first | with_reducible rfl | exact True.intro | exact congrArg (fun z : Int => some (AV.int IntKind.i64 z)) (show (_ : Int) = _ by omega) | exact congrArg (fun z : Nat => some (AV.tsl _ _ _ _ _ z)) (show (_ : Nat) = _ by omega) | exact arrEq (by omega) (by with_reducible rfl))
            · exact ⟨arrEq hnew.symm rfl, trivial⟩
theorem rsp_sum : FSumOK Tryd.prog cfgRS1.G 75 kRSp.sum := Con.sumOK cfgRS1_ok kRSp Tryd.func75 rfl rfl (Con.of_inv _ _ _) rsp_body
end
end Go.Proofs.YtjdeaphfamenaaaDoor

namespace Go.Proofs.YtjdeaphfamenaaaDoor
open Go.Vc Go.Proofs
set_option maxRecDepth 10000
set_option maxHeartbeats 4000000
def vrV (d : List UInt8) (ts : List Int) : AV := match spF d.length d [] with
  | (none, e) => .tuple [.pure (.slice true (.slice true (.int .u8))) [], .int .i64 e]
  | (some fs, _) => if eqF fs ts = true then .tuple [.pure (.slice true (.slice true (.int .u8))) (vlL fs), .int .i64 (0 : Int)] else .tuple [.pure (.slice true (.slice true (.int .u8))) [], .int .i64 (21 : Int)]
def kVlr : Con := Con.of [.v (.slice false (.int .u8)), .v (.slice false (.int .i64))] (fun x => [List.length (α := UInt8) x.1 ≤ 1000000, List.length (α := Int) x.2.1 ≤ 1000]) (fun x => ⟨vrV x.1 x.2.1, []⟩)
def cfgTG1 : Cfg2 := { ty := tyTabV, fn := fun | 75 => some kRSp.sum | _ => none, G := gNone, pin := [], eq := fun _ => none }
theorem cfgTG1_ok : CfgOK Tryd.prog cfgTG1 := ⟨tyTabV_ok, (fun f s h => by
  simp only [cfgTG1] at h
  split at h
  · injection h with h; subst h; exact .inl rsp_sum
  · cases h), (fun t d h => by cases h)⟩
section
attribute [local go_sem] Tryd.f95 kVlr kRSp cfgTG1 tyTabV tyTabM tyTabK tyTab
theorem vlr_body (p : kVlr.Par) (hp : ∀ q ∈ kVlr.pre p, q) : BodyOK Tryd.prog cfgTG1 Tryd.f95 (Tryd.f95.body.get rfl) kVlr p := by
  obtain ⟨(d : List UInt8), (ts : List Int), u⟩ := p
  obtain ⟨h0, h1, _⟩ := Obs.of hp
  replace h0 : d.length ≤ 1000000 := h0
  replace h1 : ts.length ≤ 1000 := h1
  refine ⟨?_, Nat.zero_le _, (by show (vrV d ts).strict = true; unfold vrV; split; · rfl
                                 · split <;> rfl), rfl⟩
  show Tri _ _ _ (Code.seq _ (Code.seq _ (Code.seq _ (Code.seq (Code.seq _ (Code.cond _ (Code.seq _ _) _)) (Code.seq (Code.seq _ (Code.cond _ (Code.seq _ _) _)) (Code.seq (Code.seq _ (Code.block _ (Code.loop (Code.seq (Code.seq _ (Code.cond _ _ _)) (Code.seq (Code.block _ (Code.seq (Code.seq _ (Code.cond _ (Code.seq _ _) _)) _)) _))))) (Code.seq _ _))))))) _
  have z0 : decide ((0 : Int) = 0) = true := rfl
  have htk : ∀ l : List (List UInt8), List.take l.length l = l := fun l => List.take_length
  cases hq : spF d.length d [] with
  | mk q e =>
  cases q with
  | none =>
    have e1 : rsV d = .tuple [.pure (.slice true flK) [], .int .i64 e] := by rw [rsV, hq]
    have v1 : vrV d ts = .tuple [.pure (.slice true (.slice true (.int .u8))) [], .int .i64 e] := by rw [vrV, hq]
    have he : decide (e = 0) = false := by
      rcases spF_err _ _ _ _ hq with h | h <;> (rw [h]; rfl)
    refine Tri.at (by first | (simp only [e1, he, Con.start, go_sem]; rfl) | rfl) ?_
    repeat (first | ((first | refine Tri.seq (Tri.regT (cfgTG1_ok.pins _) ?_) | refine Tri.rgnT (cfgTG1_ok.pins _) ?_); (repeat (first | refine RunT.oneA (hp := by simp (maxSteps := 2000000) (disch := first | decide | omega | (simp only [List.length_append, List.length_cons, List.length_nil, List.length_take, List.length_drop]; omega)) only [e1, he, go_sem]; rfl) (h := ?_) | refine RunT.notA (h := ?_))); refine RunT.nil ?_; try simp only [InBlock, Then]) | refine Tri.cF (by first | (simp only [e1, he, go_sem]; done) | fail) ?_ | refine Tri.cT (by first | (simp only [e1, he, go_sem]; done) | fail) ?_ | (refine Tri.skip ?_; try simp only [InBlock, Then]) | (refine Tri.exit ?_; simp only [Then, InBlock, if_true, if_false, ↓reduceIte, Nat.reduceEqDiff]) | refine Tri.seq (Tri.block ?_) | refine Tri.block ?_ | refine Tri.seq ?_ | (refine Tri.ret ?_; refine Con.fin (.inl rfl) (by simp only [Tryd.f95, cfgTG1, resA, resA1, go_sem]; rfl) (by simp only [Obs, and_true, true_and]) (by first | (simp only [kVlr, Con.of, Con.ofO, resV, e1, he, go_sem]; done) | fail) trivial rfl rfl))
    refine Tri.rel true 0 rfl ?_ rfl rfl ?_
    · simp only [AS.blk, go_sem]
      repeat' constructor
    refine Tri.at (by first | (simp only [e1, he, Con.start, go_sem]; rfl) | rfl) ?_
    refine Tri.ret ?_
    refine Con.fin (.inl rfl) (by simp only [Tryd.f95, cfgTG1, resA, resA1, go_sem]; rfl) (by simp only [Obs, and_true, true_and]) ?_ ?_ ?_ rfl
    · exact v1.symm
    · exact True.intro
    · show (AS.mk [some (vrV d ts)] []).closed = true
      rw [v1]; rfl
  | some fs =>
    have e1 : rsV d = .tuple [.pure (.slice true flK) fs, .int .i64 (0 : Int)] := by rw [rsV, hq]
    have hfl : fs.length ≤ 1000000 := by
      have := spF_many _ _ _ _ _ hq
      rw [List.length_nil] at this
      omega
    have v0 : vrV d ts = if eqF fs ts = true then .tuple [.pure (.slice true (.slice true (.int .u8))) (vlL fs), .int .i64 (0 : Int)] else .tuple [.pure (.slice true (.slice true (.int .u8))) [], .int .i64 (21 : Int)] := by rw [vrV, hq]
    by_cases hl : fs.length = ts.length
    · have hl' : decide (((fs.length : Nat) : Int) = ((ts.length : Nat) : Int)) = true := decide_eq_true (by omega)
      refine Tri.at (by first | (simp only [e1, z0, hl', Con.start, go_sem]; rfl) | rfl) ?_
      repeat (first | ((first | refine Tri.seq (Tri.regT (cfgTG1_ok.pins _) ?_) | refine Tri.rgnT (cfgTG1_ok.pins _) ?_); (repeat (first | refine RunT.oneA (hp := by simp (maxSteps := 2000000) (disch := first | decide | omega | (simp only [List.length_append, List.length_cons, List.length_nil, List.length_take, List.length_drop]; omega)) only [e1, z0, hl', go_sem]; rfl) (h := ?_) | refine RunT.notA (h := ?_))); refine RunT.nil ?_; try simp only [InBlock, Then]) | refine Tri.cF (by first | (simp only [e1, z0, hl', go_sem]; done) | fail) ?_ | refine Tri.cT (by first | (simp only [e1, z0, hl', go_sem]; done) | fail) ?_ | (refine Tri.skip ?_; try simp only [InBlock, Then]) | (refine Tri.exit ?_; simp only [Then, InBlock, if_true, if_false, ↓reduceIte, Nat.reduceEqDiff]) | refine Tri.seq (Tri.block ?_) | refine Tri.block ?_ | refine Tri.seq ?_ | (refine Tri.ret ?_; refine Con.fin (.inl rfl) (by simp only [Tryd.f95, cfgTG1, resA, resA1, go_sem]; rfl) (by simp only [Obs, and_true, true_and]) (by first | (simp only [kVlr, Con.of, Con.ofO, resV, e1, z0, hl', go_sem]; done) | fail) trivial rfl rfl))
      have hj0 : vlL (fs.take 0) = [] := rfl
      refine Tri.loop (fun i : Nat => (⟨[none, some (.pure (.slice false (.int .i64)) ts), none, none, some (.nilsl), some (.int .i64 (0 : Int)), some (.pure (.slice true flK) fs), none, some (.tsl 0 [] 0 0 1 (vlL (fs.take i)).length), some (.int .i64 (i : Int))] ++ List.replicate 42 none, [.live (.pure (.arr (vlL (fs.take i)).length (.slice true (.int .u8))) (vlL (fs.take i)))]⟩ : AS)) (fun i => i ≤ fs.length ∧ eqF (fs.take i) (ts.take i) = true) (fun i => fs.length - i) 0 ?_ ⟨Nat.zero_le _, rfl⟩ ?_
      · refine Wk.of ?_ ?_ rfl rfl
        · simp only [lessTs, List.reduceReplicate, List.cons_append, List.nil_append, hj0, List.length_nil] <;> ((repeat' apply And.intro) <;> first | with_reducible rfl | exact True.intro | exact congrArg (fun z : Int => some (AV.int IntKind.i64 z)) (show (_ : Int) = _ by omega) | exact congrArg (fun z : Nat => some (AV.tsl _ _ _ _ _ z)) (show (_ : Nat) = _ by omega) | exact arrEq (by omega) (by with_reducible rfl))
        exact ⟨arrEq (by rw [hj0]; rfl) hj0.symm, trivial⟩
      · intro i ⟨hi, ha⟩
        by_cases hc : i < fs.length
        · have hc' : decide ((i : Int) < (fs.length : Int)) = true := decide_eq_true (by omega)
          have hst := eqF_take fs ts hl i hc
          rw [ha, Bool.true_and] at hst
          have hfx := eqF_false (fs := fs) (ts := ts) hl (i := i + 1)
          have hn := vlL_take fs i hc
          have hJl : (vlL (fs.take i)).length = i := by rw [vlL, List.length_map, List.length_take]; omega
          generalize hfd : fs.getD i (0, [], ()) = f at *
          obtain ⟨(tg : Int), (vl : List UInt8), u1⟩ := f
          generalize htd : ts.getD i 0 = t at *
          replace hn : vlL (fs.take (i + 1)) = vlL (fs.take i) ++ [vl] := hn
          replace hst : eqF (fs.take (i + 1)) (ts.take (i + 1)) = decide (tg = t) := hst
          generalize hJ : vlL (fs.take i) = J at *
          cases hd : decide (tg = t) with
          | true =>
            refine Tri.at (by first | (simp only [hc', hfd, htd, hd, htk, Con.start, go_sem]; rfl) | rfl) ?_
            repeat (first | ((first | refine Tri.seq (Tri.regT (cfgTG1_ok.pins _) ?_) | refine Tri.rgnT (cfgTG1_ok.pins _) ?_); (repeat (first | refine RunT.oneA (hp := by simp (maxSteps := 2000000) (disch := first | decide | omega | (simp only [List.length_append, List.length_cons, List.length_nil, List.length_take, List.length_drop]; omega)) only [hc', hfd, htd, hd, htk, go_sem]; rfl) (h := ?_) | refine RunT.notA (h := ?_))); refine RunT.nil ?_; try simp only [InBlock, Then]) | ((first | refine Tri.seq (Tri.drwT (mixed) (cfgTG1_ok.pins _) ?_) | refine Tri.drnT (mixed) (cfgTG1_ok.pins _) ?_); (repeat (first | refine RunD.oneA (hp := by simp (maxSteps := 2000000) (disch := first | decide | omega | (simp only [List.length_append, List.length_cons, List.length_nil, List.length_take, List.length_drop]; omega)) only [hc', hfd, htd, hd, htk, go_sem]; rfl) (h := ?_) | refine RunD.notA (h := ?_))); refine RunD.nil ?_; refine ⟨by kernel_rfl, ?_⟩; try simp only [InBlock, Then]) | refine Tri.cF (by first | (simp only [hc', hfd, htd, hd, htk, go_sem]; done) | fail) ?_ | refine Tri.cT (by first | (simp only [hc', hfd, htd, hd, htk, go_sem]; done) | fail) ?_ | (refine Tri.skip ?_; try simp only [InBlock, Then]) | (refine Tri.exit ?_; simp only [Then, InBlock, if_true, if_false, ↓reduceIte, Nat.reduceEqDiff]) | refine Tri.seq (Tri.block ?_) | refine Tri.block ?_ | refine Tri.seq ?_ | (refine Tri.ret ?_; refine Con.fin (.inl rfl) (by simp only [Tryd.f95, cfgTG1, resA, resA1, go_sem]; rfl) (by simp only [Obs, and_true, true_and]) (by first | (simp only [kVlr, Con.of, Con.ofO, resV, hc', hfd, htd, hd, htk, go_sem]; done) | fail) trivial rfl rfl))
            refine ⟨i + 1, ⟨(by omega), (by rw [hst, hd])⟩, (by omega), Wk.of ?_ ?_ rfl rfl⟩
            · simp only [lessTs, List.reduceReplicate, List.cons_append, List.nil_append, hn, List.length_append, List.length_cons, List.length_nil] <;> ((repeat' apply And.intro) <;> first | with_reducible rfl | exact True.intro | exact congrArg (fun z : Int => some (AV.int IntKind.i64 z)) (show (_ : Int) = _ by omega) | exact congrArg (fun z : Nat => some (AV.tsl _ _ _ _ _ z)) (show (_ : Nat) = _ by omega) | exact arrEq (by omega) (by with_reducible rfl))
            · rw [hn]
              exact ⟨arrEq (by rw [List.length_append]; rfl) rfl, trivial⟩
          | false =>
            have e : eqF fs ts = false := hfx (by rw [hst, hd])
            rw [e, if_neg (by decide)] at v0
            refine Tri.at (by first | (simp only [hc', hfd, htd, hd, htk, Con.start, go_sem]; rfl) | rfl) ?_
            repeat (first | ((first | refine Tri.seq (Tri.regT (cfgTG1_ok.pins _) ?_) | refine Tri.rgnT (cfgTG1_ok.pins _) ?_); (repeat (first | refine RunT.oneA (hp := by simp (maxSteps := 2000000) (disch := first | decide | omega | (simp only [List.length_append, List.length_cons, List.length_nil, List.length_take, List.length_drop]; omega)) only [hc', hfd, htd, hd, htk, go_sem]; rfl) (h := ?_) | refine RunT.notA (h := ?_))); refine RunT.nil ?_; try simp only [InBlock, Then]) | ((first | refine Tri.seq (Tri.drwT (mixed) (cfgTG1_ok.pins _) ?_) | refine Tri.drnT (mixed) (cfgTG1_ok.pins _) ?_); (repeat (first | refine RunD.oneA (hp := by simp (maxSteps := 2000000) (disch := first | decide | omega | (simp only [List.length_append, List.length_cons, List.length_nil, List.length_take, List.length_drop]; omega)) only [hc', hfd, htd, hd, htk, go_sem]; rfl) (h := ?_) | refine RunD.notA (h := ?_))); refine RunD.nil ?_; refine ⟨by kernel_rfl, ?_⟩; try simp only [InBlock, Then]) | refine Tri.cF (by first | (simp only [hc', hfd, htd, hd, htk, go_sem]; done) | fail) ?_ | refine Tri.cT (by first | (simp only [hc', hfd, htd, hd, htk, go_sem]; done) | fail) ?_ | (refine Tri.skip ?_; try simp only [InBlock, Then]) | (refine Tri.exit ?_; simp only [Then, InBlock, if_true, if_false, ↓reduceIte, Nat.reduceEqDiff]) | refine Tri.seq (Tri.block ?_) | refine Tri.block ?_ | refine Tri.seq ?_ | (refine Tri.ret ?_; refine Con.fin (.inl rfl) (by simp only [Tryd.f95, cfgTG1, resA, resA1, go_sem]; rfl) (by simp only [Obs, and_true, true_and]) (by first | (simp only [kVlr, Con.of, Con.ofO, resV, hc', hfd, htd, hd, htk, go_sem]; done) | fail) trivial rfl rfl))
            refine Tri.rel true 1 rfl ?_ rfl rfl ?_
            · simp only [AS.blk, go_sem]
              repeat' constructor
            refine Tri.at (by first | (simp only [hc', hfd, htd, hd, htk, Con.start, go_sem]; rfl) | rfl) ?_
            refine Tri.ret ?_
            refine Con.fin (.inl rfl) (by simp only [Tryd.f95, cfgTG1, resA, resA1, go_sem]; rfl) (by simp only [Obs, and_true, true_and]) ?_ ?_ ?_ rfl
            · exact v0.symm
            · exact True.intro
            · show (AS.mk [some (vrV d ts)] []).closed = true
              rw [v0]; rfl
        · have hc' : decide ((i : Int) < (fs.length : Int)) = false := decide_eq_false (by omega)
          rw [List.take_of_length_le (by omega), List.take_of_length_le (by omega)] at ha
          rw [List.take_of_length_le (by omega)]
          rw [ha, if_pos rfl] at v0
          generalize hJ : vlL fs = J at *
          refine Tri.at (by first | (simp only [hc', Con.start, go_sem]; rfl) | rfl) ?_
          repeat (first | ((first | refine Tri.seq (Tri.regT (cfgTG1_ok.pins _) ?_) | refine Tri.rgnT (cfgTG1_ok.pins _) ?_); (repeat (first | refine RunT.oneA (hp := by simp (maxSteps := 2000000) (disch := first | decide | omega | (simp only [List.length_append, List.length_cons, List.length_nil, List.length_take, List.length_drop]; omega)) only [hc', go_sem]; rfl) (h := ?_) | refine RunT.notA (h := ?_))); refine RunT.nil ?_; try simp only [InBlock, Then]) | refine Tri.cF (by first | (simp only [hc', go_sem]; done) | fail) ?_ | refine Tri.cT (by first | (simp only [hc', go_sem]; done) | fail) ?_ | (refine Tri.skip ?_; try simp only [InBlock, Then]) | (refine Tri.exit ?_; simp only [Then, InBlock, if_true, if_false, ↓reduceIte, Nat.reduceEqDiff]) | refine Tri.seq (Tri.block ?_) | refine Tri.block ?_ | refine Tri.seq ?_ | (refine Tri.ret ?_; refine Con.fin (.inl rfl) (by simp only [Tryd.f95, cfgTG1, resA, resA1, go_sem]; rfl) (by simp only [Obs, and_true, true_and]) (by first | (simp only [kVlr, Con.of, Con.ofO, resV, hc', go_sem]; done) | fail) trivial rfl rfl))
          refine Tri.rel true 0 rfl ?_ rfl rfl ?_
          · simp only [AS.blk, go_sem]
            repeat' constructor
          refine Tri.at (by first | (simp only [htk, Con.start, go_sem]; rfl) | rfl) ?_
          refine Tri.ret ?_
          refine Con.fin (.inl rfl) (by simp only [Tryd.f95, cfgTG1, resA, resA1, go_sem]; rfl) (by simp only [Obs, and_true, true_and]) ?_ ?_ ?_ rfl
          · exact v0.symm
          · exact True.intro
          · show (AS.mk [some (vrV d ts)] []).closed = true
            rw [v0]; rfl
    · have hl' : decide (((fs.length : Nat) : Int) = ((ts.length : Nat) : Int)) = false := decide_eq_false (by omega)
      rw [eqF_len hl, if_neg (by decide)] at v0
      refine Tri.at (by first | (simp only [e1, z0, hl', Con.start, go_sem]; rfl) | rfl) ?_
      repeat (first | ((first | refine Tri.seq (Tri.regT (cfgTG1_ok.pins _) ?_) | refine Tri.rgnT (cfgTG1_ok.pins _) ?_); (repeat (first | refine RunT.oneA (hp := by simp (maxSteps := 2000000) (disch := first | decide | omega | (simp only [List.length_append, List.length_cons, List.length_nil, List.length_take, List.length_drop]; omega)) only [e1, z0, hl', go_sem]; rfl) (h := ?_) | refine RunT.notA (h := ?_))); refine RunT.nil ?_; try simp only [InBlock, Then]) | refine Tri.cF (by first | (simp only [e1, z0, hl', go_sem]; done) | fail) ?_ | refine Tri.cT (by first | (simp only [e1, z0, hl', go_sem]; done) | fail) ?_ | (refine Tri.skip ?_; try simp only [InBlock, Then]) | (refine Tri.exit ?_; simp only [Then, InBlock, if_true, if_false, ↓reduceIte, Nat.reduceEqDiff]) | refine Tri.seq (Tri.block ?_) | refine Tri.block ?_ | refine Tri.seq ?_ | (refine Tri.ret ?_; refine Con.fin (.inl rfl) (by simp only [Tryd.f95, cfgTG1, resA, resA1, go_sem]; rfl) (by simp only [Obs, and_true, true_and]) (by first | (simp only [kVlr, Con.of, Con.ofO, resV, e1, z0, hl', go_sem]; done) | fail) trivial rfl rfl))
      refine Tri.rel true 0 rfl ?_ rfl rfl ?_
      · simp only [AS.blk, go_sem]
        repeat' constructor
      refine Tri.at (by first | (simp only [e1, z0, hl', Con.start, go_sem]; rfl) | rfl) ?_
      refine Tri.ret ?_
      refine Con.fin (.inl rfl) (by simp only [Tryd.f95, cfgTG1, resA, resA1, go_sem]; rfl) (by simp only [Obs, and_true, true_and]) ?_ ?_ ?_ rfl
      · exact v0.symm
      · exact True.intro
      · show (AS.mk [some (vrV d ts)] []).closed = true
        rw [v0]; rfl
theorem vlr_sum : FSumOK Tryd.prog cfgTG1.G 95 kVlr.sum := Con.sumOK cfgTG1_ok kVlr Tryd.func95 rfl rfl (Con.of_inv _ _ _) vlr_body
end
end Go.Proofs.YtjdeaphfamenaaaDoor

namespace Go.Proofs.YtjdeaphfamenaaaDoor
open Go.Vc Go.Proofs
set_option maxRecDepth 10000
set_option maxHeartbeats 4000000
def flBK (f : flK.T) : List UInt8 := [UInt8.ofInt (f.1 : Int), UInt8.ofInt (shrT .i64 ((List.length (α := UInt8) f.2.1 : Nat) : Int) 8), UInt8.ofInt ((List.length (α := UInt8) f.2.1 : Nat) : Int)] ++ f.2.1
def jnK (fs : List flK.T) : List UInt8 := (fs.map flBK).flatten
def fkOK (f : flK.T) : Prop := 1 ≤ (f.1 : Int) ∧ (f.1 : Int) ≤ 255 ∧ List.length (α := UInt8) f.2.1 ≤ 65535
theorem jnKx_nil : jnK [] = [] := rfl
theorem flBK_len (f : flK.T) : (flBK f).length = List.length (α := UInt8) f.2.1 + 3 := by rw [flBK, List.length_append]; show 3 + _ = _; omega
theorem jnKx_len : ∀ fs : List flK.T, (∀ f ∈ fs, fkOK f) → (jnK fs).length ≤ fs.length * 65538
  | [], _ => Nat.zero_le _
  | f :: r, h => by
    have h1 := jnKx_len r fun x hx => h x (List.mem_cons_of_mem _ hx)
    have h2 := (h f (List.mem_cons_self ..)).2.2
    have h3 := flBK_len f
    show (flBK f ++ jnK r).length ≤ (r.length + 1) * 65538
    rw [List.length_append, Nat.add_mul]
    omega
theorem jnKx_take (fs : List flK.T) (i : Nat) (d : flK.T) (h : i < fs.length) : jnK (fs.take (i + 1)) = jnK (fs.take i) ++ flBK (fs.getD i d) := by
  rw [List.take_add_one, List.getElem?_eq_getElem h, Option.toList_some, jnK, List.map_append, List.flatten_append, List.getD_eq_getElem?_getD, List.getElem?_eq_getElem h]
  simp [jnK]
def kJnK : Con := Con.of [.v (.slice false flK)] (fun x => [List.length (α := flK.T) x.1 ≤ 1000, ∀ f ∈ x.1, fkOK f]) (fun x => ⟨.tuple [.pure (.slice true (.int .u8)) (jnK x.1), .int .i64 (0 : Int)], []⟩)
def cfgKE1 : Cfg2 := { ty := tyTabM, fn := fun  | _ => none, G := gNone, pin := [], eq := fun _ => none }
theorem cfgKE1_ok : CfgOK Tryd.prog cfgKE1 := ⟨tyTabM_ok, (fun f s h => by cases h), (fun t d h => by cases h)⟩
section
attribute [local go_sem] Tryd.f56 kJnK cfgKE1 tyTabM tyTabK tyTab
theorem tjk_body (p : kJnK.Par) (hp : ∀ q ∈ kJnK.pre p, q) : BodyOK Tryd.prog cfgKE1 Tryd.f56 (Tryd.f56.body.get rfl) kJnK p := by
  obtain ⟨(fs : List flK.T), u⟩ := p
  obtain ⟨h0, h1, _⟩ := Obs.of hp
  replace h0 : fs.length ≤ 1000 := h0
  replace h1 : ∀ f ∈ fs, fkOK f := h1
  refine ⟨?_, Nat.zero_le _, rfl, rfl⟩
  show Tri _ _ _ (Code.seq _ (Code.seq (Code.seq _ (Code.block _ (Code.loop (Code.seq _ (Code.seq (Code.cond _ _ _) (Code.seq (Code.block _ (Code.seq _ (Code.seq _ (Code.block _ (Code.seq _ (Code.cond _ (Code.seq _ _) (Code.seq _ (Code.cond _ (Code.seq _ _) _)))))))) _)))))) (Code.seq _ _))) _
  refine Tri.at (by first | (simp only [go_sem, Con.start, go_sem]; rfl) | rfl) ?_
  repeat (first | ((first | refine Tri.seq (Tri.regT (cfgKE1_ok.pins _) ?_) | refine Tri.rgnT (cfgKE1_ok.pins _) ?_); (repeat (first | refine RunT.oneA (hp := by simp (maxSteps := 2000000) (disch := first | decide | omega | (simp only [List.length_append, List.length_cons, List.length_nil, List.length_take, List.length_drop]; omega)) only [go_sem, go_sem]; rfl) (h := ?_) | refine RunT.notA (h := ?_))); refine RunT.nil ?_; try simp only [InBlock, Then]) | refine Tri.cF (by first | (simp only [go_sem, go_sem]; done) | fail) ?_ | refine Tri.cT (by first | (simp only [go_sem, go_sem]; done) | fail) ?_ | (refine Tri.skip ?_; try simp only [InBlock, Then]) | (refine Tri.exit ?_; simp only [Then, InBlock, if_true, if_false, ↓reduceIte, Nat.reduceEqDiff]) | refine Tri.seq (Tri.block ?_) | refine Tri.block ?_ | refine Tri.seq ?_ | (refine Tri.ret ?_; refine Con.fin (.inl rfl) (by simp only [Tryd.f56, cfgKE1, resA, resA1, go_sem]; rfl) (by simp only [Obs, and_true, true_and]) (by first | (simp only [kJnK, Con.of, Con.ofO, resV, go_sem, go_sem]; done) | fail) trivial rfl rfl))
  have hj0 : jnK (fs.take 0) = [] := rfl
  refine Tri.phT 2 (.int .u8) 1 rfl rfl ?_
  refine Tri.loop (fun i : Nat => (⟨[some (.pure (.slice false flK) fs), none, some (.tsl 0 [] 0 0 1 (jnK (fs.take i)).length), some (.int .i64 (0 : Int)), none, none, none, some (.pure (.slice false flK) fs), some (.int .i64 (fs.length : Int)), some (.int .i64 (i : Int))] ++ List.replicate 34 none, [.live (.pure (.arr (jnK (fs.take i)).length (.int .u8)) (jnK (fs.take i)))]⟩ : AS)) (fun i => i ≤ fs.length) (fun i => fs.length - i) 0 ?_ (Nat.zero_le _) ?_
  · refine Wk.of ?_ ?_ rfl rfl
    · simp only [lessTs, List.reduceReplicate, List.cons_append, List.nil_append, hj0, List.length_nil] <;> ((repeat' apply And.intro) <;> first | with_reducible rfl | exact True.intro | exact congrArg (fun z : Int => some (AV.int IntKind.i64 z)) (show (_ : Int) = _ by omega) | exact congrArg (fun z : Nat => some (AV.tsl _ _ _ _ _ z)) (show (_ : Nat) = _ by omega) | exact arrEq (by omega) (by with_reducible rfl))
    exact ⟨arrEq (by rw [hj0]; rfl) hj0.symm, trivial⟩
  · intro i hi
    by_cases h3 : i < fs.length
    · have h3' : decide ((i : Int) < (fs.length : Int)) = true := decide_eq_true (by omega)
      have hf : fs.getD i (0, [], ()) ∈ fs := by
        rw [List.getD_eq_getElem?_getD, List.getElem?_eq_getElem h3]; exact List.getElem_mem h3
      obtain ⟨k1, k2, k3⟩ := h1 _ hf
      generalize hfd : fs.getD i (0, [], ()) = f at *
      obtain ⟨(tg : Int), (vl : List UInt8), u1⟩ := f
      replace k1 : 1 ≤ tg := k1
      replace k2 : tg ≤ 255 := k2
      replace k3 : vl.length ≤ 65535 := k3
      have k1' : decide (tg < 1) = false := decide_eq_false (by omega)
      have k2' : decide ((255 : Int) < tg) = false := decide_eq_false (by omega)
      have k3' : decide ((65535 : Int) < (vl.length : Int)) = false := decide_eq_false (by omega)
      have hjt := jnKx_take fs i (0, [], ()) h3
      have hjl : (jnK (fs.take i)).length ≤ 65538000 := by
        have h4 := jnKx_len (fs.take i) fun x hx => h1 x (List.mem_of_mem_take hx)
        have h5 : (fs.take i).length ≤ 1000 := by rw [List.length_take]; omega
        exact Nat.le_trans h4 (Nat.le_trans (Nat.mul_le_mul_right 65538 h5) (by decide))
      rw [hfd] at hjt
      generalize hJ : jnK (fs.take i) = J at *
      have htk : List.take J.length J = J := List.take_length
      have tk3 : List.take 3 [UInt8.ofInt tg, UInt8.ofInt (shrT .i64 ((vl.length : Nat) : Int) 8), UInt8.ofInt ((vl.length : Nat) : Int)] = [UInt8.ofInt tg, UInt8.ofInt (shrT .i64 ((vl.length : Nat) : Int) 8), UInt8.ofInt ((vl.length : Nat) : Int)] := rfl
      have tkJ : List.take (J.length + 3) (J ++ [UInt8.ofInt tg, UInt8.ofInt (shrT .i64 ((vl.length : Nat) : Int) 8), UInt8.ofInt ((vl.length : Nat) : Int)]) = J ++ [UInt8.ofInt tg, UInt8.ofInt (shrT .i64 ((vl.length : Nat) : Int) 8), UInt8.ofInt ((vl.length : Nat) : Int)] := List.take_of_length_le (by rw [List.length_append]; exact Nat.le_refl _)
      have hjt2 : jnK (fs.take (i + 1)) = J ++ [UInt8.ofInt tg, UInt8.ofInt (shrT .i64 ((vl.length : Nat) : Int) 8), UInt8.ofInt ((vl.length : Nat) : Int)] ++ vl := by rw [hjt, List.append_assoc]; rfl
      have hjl2 : (jnK (fs.take (i + 1))).length = J.length + 3 + vl.length := by rw [hjt2, List.length_append, List.length_append]; rfl
      refine Tri.at (by first | (simp only [h3', k1', k2', k3', hfd, htk, tk3, tkJ, Con.start, go_sem]; rfl) | rfl) ?_
      repeat (first | ((first | refine Tri.seq (Tri.regT (cfgKE1_ok.pins _) ?_) | refine Tri.rgnT (cfgKE1_ok.pins _) ?_); (repeat (first | refine RunT.oneA (hp := by simp (maxSteps := 2000000) (disch := first | decide | omega | (simp only [List.length_append, List.length_cons, List.length_nil, List.length_take, List.length_drop]; omega)) only [h3', k1', k2', k3', hfd, htk, tk3, tkJ, go_sem]; rfl) (h := ?_) | refine RunT.notA (h := ?_))); refine RunT.nil ?_; try simp only [InBlock, Then]) | ((first | refine Tri.seq (Tri.drwT (mixed) (cfgKE1_ok.pins _) ?_) | refine Tri.drnT (mixed) (cfgKE1_ok.pins _) ?_); (repeat (first | refine RunD.oneA (hp := by simp (maxSteps := 2000000) (disch := first | decide | omega | (simp only [List.length_append, List.length_cons, List.length_nil, List.length_take, List.length_drop]; omega)) only [h3', k1', k2', k3', hfd, htk, tk3, tkJ, go_sem]; rfl) (h := ?_) | refine RunD.notA (h := ?_))); refine RunD.nil ?_; refine ⟨by kernel_rfl, ?_⟩; try simp only [InBlock, Then]) | refine Tri.cF (by first | (simp only [h3', k1', k2', k3', hfd, htk, tk3, tkJ, go_sem]; done) | fail) ?_ | refine Tri.cT (by first | (simp only [h3', k1', k2', k3', hfd, htk, tk3, tkJ, go_sem]; done) | fail) ?_ | (refine Tri.skip ?_; try simp only [InBlock, Then]) | (refine Tri.exit ?_; simp only [Then, InBlock, if_true, if_false, ↓reduceIte, Nat.reduceEqDiff]) | refine Tri.seq (Tri.block ?_) | refine Tri.block ?_ | refine Tri.seq ?_ | (refine Tri.ret ?_; refine Con.fin (.inl rfl) (by simp only [Tryd.f56, cfgKE1, resA, resA1, go_sem]; rfl) (by simp only [Obs, and_true, true_and]) (by first | (simp only [kJnK, Con.of, Con.ofO, resV, h3', k1', k2', k3', hfd, htk, tk3, tkJ, go_sem]; done) | fail) trivial rfl rfl))
      refine ⟨i + 1, (by omega), (by omega), Wk.of ?_ ?_ rfl rfl⟩
      · simp only [lessTs, List.reduceReplicate, List.cons_append, List.nil_append, hjl2] <;> ((repeat' apply And.intro) <;> first | with_reducible rfl | exact True.intro | exact congrArg (fun z : Int => some (AV.int IntKind.i64 z)) (show (_ : Int) = _ by omega) | exact congrArg (fun z : Nat => some (AV.tsl _ _ _ _ _ z)) (show (_ : Nat) = _ by omega) | exact arrEq (by omega) (by with_reducible rfl))
      · exact ⟨arrEq hjl2.symm hjt2.symm, trivial⟩
    · have h3' : decide ((i : Int) < (fs.length : Int)) = false := decide_eq_false (by omega)
      rw [List.take_of_length_le (by omega)]
      have htk : List.take (jnK fs).length (jnK fs) = jnK fs := List.take_length
      refine Tri.at (by first | (simp only [h3', htk, Con.start, go_sem]; rfl) | rfl) ?_
      repeat (first | ((first | refine Tri.seq (Tri.regT (cfgKE1_ok.pins _) ?_) | refine Tri.rgnT (cfgKE1_ok.pins _) ?_); (repeat (first | refine RunT.oneA (hp := by simp (maxSteps := 2000000) (disch := first | decide | omega | (simp only [List.length_append, List.length_cons, List.length_nil, List.length_take, List.length_drop]; omega)) only [h3', htk, go_sem]; rfl) (h := ?_) | refine RunT.notA (h := ?_))); refine RunT.nil ?_; try simp only [InBlock, Then]) | refine Tri.cF (by first | (simp only [h3', htk, go_sem]; done) | fail) ?_ | refine Tri.cT (by first | (simp only [h3', htk, go_sem]; done) | fail) ?_ | (refine Tri.skip ?_; try simp only [InBlock, Then]) | (refine Tri.exit ?_; simp only [Then, InBlock, if_true, if_false, ↓reduceIte, Nat.reduceEqDiff]) | refine Tri.seq (Tri.block ?_) | refine Tri.block ?_ | refine Tri.seq ?_ | (refine Tri.ret ?_; refine Con.fin (.inl rfl) (by simp only [Tryd.f56, cfgKE1, resA, resA1, go_sem]; rfl) (by simp only [Obs, and_true, true_and]) (by first | (simp only [kJnK, Con.of, Con.ofO, resV, h3', htk, go_sem]; done) | fail) trivial rfl rfl))
      refine Tri.rel true 0 rfl ?_ rfl rfl ?_
      · simp only [AS.blk, go_sem]
        repeat' constructor
      refine Tri.at (by first | (simp only [h3', htk, Con.start, go_sem]; rfl) | rfl) ?_
      refine Tri.ret ?_
      refine Con.fin (.inl rfl) (by simp only [Tryd.f56, cfgKE1, resA, resA1, go_sem]; rfl) (by simp only [Obs, and_true, true_and]) ?_ ?_ rfl rfl
      · rfl
      · exact True.intro
theorem tjk_sum : FSumOK Tryd.prog cfgKE1.G 56 kJnK.sum := Con.sumOK cfgKE1_ok kJnK Tryd.func56 rfl rfl (Con.of_inv _ _ _) tjk_body
end
end Go.Proofs.YtjdeaphfamenaaaDoor

namespace Go.Proofs.YtjdeaphfamenaaaDoor
open Go.Vc Go.Proofs
def bvN (b : List UInt8) : Nat → Nat
  | 0 => 0
  | i + 1 => bvN b i * 256 + (b.getD i 0).toNat
theorem bvN_lt (b : List UInt8) : ∀ i, bvN b i < 256 ^ i
  | 0 => by simp [bvN]
  | i + 1 => by
    have h := bvN_lt b i
    have h2 := UInt8.toNat_lt (b.getD i 0)
    rw [bvN, Nat.pow_succ]
    omega
theorem rdI_bvN (b : List UInt8) : ∀ i, i ≤ 8 → (rdI b i).toNat = bvN b i
  | 0, _ => rfl
  | i + 1, h => by
    have ih := rdI_bvN b i (by omega)
    have hl := bvN_lt b i
    have h256 : 256 ^ i ≤ 256 ^ 7 := Nat.pow_le_pow_right (by decide) (by omega)
    have h2 := UInt8.toNat_lt (b.getD i 0)
    have h7 : 256 ^ 7 * 256 = 2 ^ 64 := by decide
    rw [rdI, bvN, UInt64.toNat_or, UInt64.toNat_shiftLeft, ih]
    have e8 : (8 : UInt64).toNat % 64 = 8 := rfl
    rw [e8, Nat.shiftLeft_eq, Nat.mod_eq_of_lt (by omega), UInt8.toNat_toUInt64]
    have h3 := Nat.two_pow_add_eq_or_of_lt (i := 8) (b := (b.getD i 0).toNat) (by omega) (bvN b i)
    rw [Nat.mul_comm (bvN b i) (2 ^ 8), ← h3]
    try omega
theorem bvN_foldl (b : List UInt8) : ∀ i, i ≤ b.length → bvN b i = (b.take i).foldl (fun a x => a * 256 + UInt8.toNat x) 0
  | 0, _ => rfl
  | i + 1, h => by
    rw [bvN, bvN_foldl b i (by omega), List.take_add_one, List.getElem?_eq_getElem (by omega), List.foldl_append, List.getD_eq_getElem?_getD, List.getElem?_eq_getElem (by omega)]
    rfl
def lvN : List UInt8 → Nat
  | [] => 0
  | b :: r => lvN r * 256 + b.toNat
theorem bvN_rev (l : List UInt8) : bvN l.reverse l.length = lvN l := by
  have h := bvN_foldl l.reverse l.length (by rw [List.length_reverse]; exact Nat.le_refl _)
  rw [h, List.take_of_length_le (by rw [List.length_reverse]; exact Nat.le_refl _), List.foldl_reverse]
  induction l with
  | nil => rfl
  | cons b r ih =>
    rw [List.foldr_cons, lvN]
    have : List.foldr (fun x y => y * 256 + UInt8.toNat x) 0 r = lvN r := by
      have h2 := bvN_foldl r.reverse r.length (by rw [List.length_reverse]; exact Nat.le_refl _)
      exact ih (by rw [h2, List.take_of_length_le (by rw [List.length_reverse]; exact Nat.le_refl _), List.foldl_reverse])
    rw [this]
theorem shr8_nat (n : UInt64) : (n >>> 8).toNat = n.toNat / 256 := by
  rw [UInt64.toNat_shiftRight]; simp [Nat.shiftRight_eq_div_pow]
theorem lvN_leN : ∀ (k : Nat) (n : UInt64), n.toNat < 256 ^ k → lvN (leN k n) = n.toNat
  | 0, n, h => by
    have : n.toNat = 0 := by simpa using h
    rw [leN, this]; rfl
  | k + 1, n, h => by
    unfold leN
    split
    · rename_i e; rw [e]; rfl
    · have h1 := shr8_nat n
      have ih := lvN_leN k (n >>> 8) (shr8_lt h)
      rw [lvN, ih, h1, UInt64.toNat_toUInt8]
      have := Nat.div_add_mod n.toNat 256
      have e : (2 : Nat) ^ 8 = 256 := rfl
      rw [e]
      omega
theorem leN_last : ∀ (k : Nat) (n : UInt64), n.toNat < 256 ^ k → ∀ h : leN k n ≠ [], (leN k n).getLast h ≠ 0
  | 0, n, _, h => absurd rfl h
  | k + 1, n, hn, h => by
    have hz : n ≠ 0 := fun e => h (by unfold leN; rw [if_pos e])
    have e : leN (k + 1) n = n.toUInt8 :: leN k (n >>> 8) := by
      conv => lhs; unfold leN
      rw [if_neg hz]
    simp only [e]
    by_cases h0 : leN k (n >>> 8) = []
    · have h1 := lvN_leN k (n >>> 8) (shr8_lt hn)
      rw [h0, shr8_nat] at h1
      have h2 : n.toNat / 256 = 0 := h1.symm
      have h3 : n.toNat < 256 := by omega
      simp only [h0, List.getLast_singleton]
      intro hb
      have h4 : n.toUInt8.toNat = 0 := by rw [hb]; rfl
      rw [UInt64.toNat_toUInt8] at h4
      have h5 : n.toNat = 0 := by
        have e8 : (2 : Nat) ^ 8 = 256 := rfl
        rw [e8] at h4
        omega
      exact hz (UInt64.toNat_inj.1 h5)
    · rw [List.getLast_cons h0]
      exact leN_last k (n >>> 8) (shr8_lt hn) h0
theorem rd_num (n : UInt64) : rdB (numS n) = true ∧ rdU (numS n) = n := by
  have hn : n.toNat < 256 ^ 8 := UInt64.toNat_lt n
  have hl := numS_len n
  have hb : rdB (numS n) = true := by
    rw [rdB, decide_eq_false (by omega : ¬ (8 : Int) < ((numS n).length : Int)), Bool.false_or]
    cases hd : decide ((0 : Int) < ((numS n).length : Int)) with
    | false => rfl
    | true =>
      have hp : 0 < (numS n).length := by have := of_decide_eq_true hd; omega
      have hne : leN 8 n ≠ [] := fun e => by rw [numS, e] at hp; simp at hp
      have hla := leN_last 8 n hn hne
      have hg : (numS n).getD 0 0 = (leN 8 n).getLast hne := by
        rw [numS, List.getD_eq_getElem?_getD, ← List.head?_eq_getElem?, List.head?_reverse, List.getLast?_eq_some_getLast hne]
        rfl
      rw [hg, decide_eq_false hla]; rfl
  refine ⟨hb, ?_⟩
  rw [rdU, if_pos hb]
  refine UInt64.toNat_inj.1 ?_
  rw [rdI_bvN _ _ hl]
  have h1 := bvN_rev (leN 8 n)
  have h2 : (numS n).length = (leN 8 n).length := by rw [numS, List.length_reverse]
  rw [h2]
  show bvN (leN 8 n).reverse (leN 8 n).length = _
  rw [h1, lvN_leN 8 n hn]
end Go.Proofs.YtjdeaphfamenaaaDoor

namespace Go.Proofs.YtjdeaphfamenaaaDoor
open Go.Vc Go.Proofs
set_option maxRecDepth 10000
theorem ofInt8 (x : Int) (h0 : 0 ≤ x) : (UInt8.ofInt x).toNat = x.toNat % 256 := by
  rw [UInt8.ofInt, UInt8.toNat_ofNat']
  omega
theorem shr8i (n : Nat) : (shrT .i64 ((n : Nat) : Int) 8 : Int) = ((n / 256 : Nat) : Int) := by
  have h := toI_shrT .i64 ((n : Nat) : Int) 8
  have e : toI .i64 (shrT .i64 ((n : Nat) : Int) 8) = (shrT .i64 ((n : Nat) : Int) 8 : Int) := rfl
  rw [← e, h]
  show Int.fdiv ((n : Nat) : Int) (2 ^ min 8 64) = _
  rw [Int.fdiv_eq_ediv_of_nonneg _ (by decide)]
  have : ((2 : Int) ^ min 8 64) = 256 := by decide
  rw [this]
  omega
theorem sp_one {f : flK.T} {p : List UInt8} {k : Nat} {acc : List flK.T} (hf : fkOK f) : spF (k + 1) (flBK f ++ p) acc = spF k p (acc ++ [f]) := by
  obtain ⟨(t : Int), (v : List UInt8), u⟩ := f
  obtain ⟨a1, a2, a3⟩ := hf
  replace a1 : 1 ≤ t := a1
  replace a2 : t ≤ 255 := a2
  replace a3 : v.length ≤ 65535 := a3
  have hd : flBK ((t, v, u) : flK.T) ++ p = UInt8.ofInt t :: UInt8.ofInt (shrT .i64 ((v.length : Nat) : Int) 8) :: UInt8.ofInt ((v.length : Nat) : Int) :: (v ++ p) := rfl
  rw [hd]
  have c1 : (UInt8.ofInt t).toNat = t.toNat := by rw [ofInt8 _ (by omega)]; omega
  have c2 : (UInt8.ofInt (shrT .i64 ((v.length : Nat) : Int) 8)).toNat = v.length / 256 := by rw [shr8i, ofInt8 _ (by omega)]; omega
  have c3 : (UInt8.ofInt ((v.length : Nat) : Int)).toNat = v.length % 256 := by rw [ofInt8 _ (by omega)]; omega
  generalize hx : UInt8.ofInt t = x at c1
  generalize hy : UInt8.ofInt (shrT .i64 ((v.length : Nat) : Int) 8) = y at c2
  generalize hz : UInt8.ofInt ((v.length : Nat) : Int) = z at c3
  have hx0 : x ≠ 0 := fun e => by
    have : x.toNat = 0 := by rw [e]; rfl
    omega
  have hn : spN (x :: y :: z :: (v ++ p)) = v.length := by
    show y.toNat * 256 + z.toNat = _
    omega
  have hdr : List.drop 3 (x :: y :: z :: (v ++ p)) = v ++ p := rfl
  have hl : (x :: y :: z :: (v ++ p)).length = v.length + p.length + 3 := by simp only [List.length_cons, List.length_append]
  rw [spF, if_neg (by rw [hl]; omega), if_neg (by show ¬ x = 0; exact hx0), if_neg (by rw [hl]; omega), if_neg (by rw [hn, hl]; omega), hn, hdr, List.drop_left, List.take_left]
  show spF k p (acc ++ [(((x.toNat : Nat) : Int), v, ())]) = _
  rw [c1, show ((t.toNat : Nat) : Int) = t by omega]
theorem sp_all : ∀ (fs : List flK.T) (k : Nat) (p : List UInt8) (acc : List flK.T), (∀ f ∈ fs, fkOK f) → spF (k + fs.length) (jnK fs ++ p) acc = spF k p (acc ++ fs)
  | [], k, p, acc, _ => by
    show spF k ([] ++ p) acc = spF k p (acc ++ [])
    rw [List.nil_append, List.append_nil]
  | f :: r, k, p, acc, h => by
    have e : jnK (f :: r) ++ p = flBK f ++ (jnK r ++ p) := by
      show (flBK f ++ jnK r) ++ p = _
      rw [List.append_assoc]
    rw [e, List.length_cons, ← Nat.add_assoc, sp_one (h f (List.mem_cons_self ..)), sp_all r k p _ fun x hx => h x (List.mem_cons_of_mem _ hx), List.append_assoc]
    rfl
theorem jnK_big : ∀ fs : List flK.T, fs.length ≤ (jnK fs).length
  | [] => Nat.zero_le _
  | f :: r => by
    have e1 : jnK (f :: r) = flBK f ++ jnK r := rfl
    have := jnK_big r
    rw [e1, List.length_append, flBK_len, List.length_cons]
    omega
theorem sp_jn (fs : List flK.T) (h : ∀ f ∈ fs, fkOK f) : spF (jnK fs).length (jnK fs) [] = (some fs, (0 : Int)) := by
  have hb := jnK_big fs
  have e := sp_all fs ((jnK fs).length - fs.length) [] [] h
  rw [List.append_nil, show (jnK fs).length - fs.length + fs.length = (jnK fs).length by omega] at e
  rw [e, List.nil_append]
  generalize (jnK fs).length - fs.length = k
  cases k with
  | zero => rfl
  | succ k => rw [spF, if_pos (by decide)]
end Go.Proofs.YtjdeaphfamenaaaDoor

namespace Go.Proofs.YtjdeaphfamenaaaDoor
open Go.Vc Go.Proofs
set_option maxRecDepth 10000
set_option maxHeartbeats 4000000
theorem getD_take1 (s : List UInt8) (i : Nat) (h : i < s.length) : s.take (i + 1) = s.take i ++ [s.getD i 0] := by
  rw [List.take_add_one, List.getElem?_eq_getElem h, List.getD_eq_getElem?_getD, List.getElem?_eq_getElem h]; rfl
theorem idx_take (s : List UInt8) (c : UInt8) (i : Nat) (h : i < s.length) : Lib.indexByte (s.take (i + 1)) c = if Lib.indexByte (s.take i) c < 0 then (if s.getD i 0 = c then (i : Int) else -1) else Lib.indexByte (s.take i) c := by
  rw [getD_take1 s i h]
  have hl : (s.take i).length = i := by rw [List.length_take]; omega
  split
  · rename_i hn
    have hc := idx_none hn
    split
    · rename_i e
      rw [e, idx_app [] hc, hl]
    · rename_i e
      refine idx_notin fun hm => ?_
      rcases List.mem_append.1 hm with hm | hm
      · exact hc hm
      · exact e (List.mem_singleton.1 hm).symm
  · rename_i hn
    obtain ⟨m, hm⟩ : ∃ m : Nat, Lib.indexByte (s.take i) c = (m : Int) := ⟨(Lib.indexByte (s.take i) c).toNat, by omega⟩
    have hr := (idx_range (s.take i) c).2
    obtain ⟨h1, h2⟩ := idx_some hm
    rw [hm]
    have h3 : s.take i ++ [s.getD i 0] = (s.take i).take m ++ c :: ((s.take i).drop (m + 1) ++ [s.getD i 0]) := by
      rw [← List.cons_append, ← List.append_assoc, ← h1]
    rw [h3, idx_app _ h2, List.length_take]
    omega
def pq (s : List UInt8) (fr i : Nat) : List UInt8 := List.take (i - fr) (List.drop fr s)
theorem pq_split (s : List UInt8) {fr i m : Nat} (h1 : fr ≤ i) (h2 : i ≤ m) : (s.take m).drop fr = pq s fr i ++ (s.take m).drop i := by
  have h3 : (s.take m).drop fr = ((s.take m).drop fr).take (i - fr) ++ ((s.take m).drop fr).drop (i - fr) := (List.take_append_drop _ _).symm
  rw [h3, List.drop_drop, show fr + (i - fr) = i by omega, List.drop_take, List.take_take, Nat.min_eq_left (by omega)]
  rfl
theorem pq_succ (s : List UInt8) {fr i : Nat} (h1 : fr ≤ i) (h2 : i < s.length) : pq s fr (i + 1) = pq s fr i ++ [s.getD i 0] := by
  have h3 : i - fr < (s.drop fr).length := by rw [List.length_drop]; omega
  have h4 := getD_take1 (s.drop fr) (i - fr) h3
  rw [pq, show i + 1 - fr = i - fr + 1 by omega, h4, pq, List.getD_eq_getElem?_getD, List.getElem?_drop, show fr + (i - fr) = i by omega, ← List.getD_eq_getElem?_getD]
theorem pq_cut (s : List UInt8) {fr i m : Nat} (h1 : fr ≤ i) (h2 : i < m) (hm : m ≤ s.length) (hc : s.getD i 0 = 47) (hq : (47 : UInt8) ∉ pq s fr i) : splS 47 ((s.take m).drop fr) = pq s fr i :: splS 47 ((s.take m).drop (i + 1)) := by
  have h3 : (s.take m).drop i = 47 :: (s.take m).drop (i + 1) := by
    have hl : i < (s.take m).length := by rw [List.length_take]; omega
    rw [List.drop_eq_getElem_cons hl]
    congr 1
    rw [List.getElem_take, ← hc, List.getD_eq_getElem?_getD, List.getElem?_eq_getElem (by omega)]
    rfl
  rw [pq_split s h1 (Nat.le_of_lt h2), h3, spl_app _ hq]
theorem pq_end (s : List UInt8) {fr m : Nat} (h1 : fr ≤ m) (hm : m ≤ s.length) (hq : (47 : UInt8) ∉ pq s fr m) : splS 47 ((s.take m).drop fr) = [pq s fr m] := by
  rw [pq_split s h1 (Nat.le_refl m), List.drop_eq_nil_of_le (by rw [List.length_take]; omega), List.append_nil, spl_one hq]
def prR (s : List UInt8) : AV := if rgS (pwS s) = true then .agg [.pure (.slice true .str) (splS 47 (cutA s 64)), .str (cutR s 64)] else .agg [.nilsl, .str []]
def kPrsR : Con := Con.of [.v .str] (fun x => [List.length (α := UInt8) x.1 ≤ 1000000000]) (fun x => ⟨.tuple [prR x.1, .bool (rgS (pwS x.1))], []⟩)
def cfgS1 : Cfg2 := { ty := tyTabZ, fn := fun | 24 => some kRight.sum | _ => none, G := gNone, pin := [], eq := fun _ => none }
theorem cfgS1_ok : CfgOK Tryd.prog cfgS1 := ⟨tyTabZ_ok, (fun f s h => by
  simp only [cfgS1] at h
  split at h
  · injection h with h; subst h; exact .inl right_sum
  · cases h), (fun t d h => by cases h)⟩
section
attribute [local go_sem] Tryd.f28 kPrsR kRight cfgS1 tyTabZ tyTab
theorem prsR_body (p : kPrsR.Par) (hp : ∀ q ∈ kPrsR.pre p, q) : BodyOK Tryd.prog cfgS1 Tryd.f28 (Tryd.f28.body.get rfl) kPrsR p := by
  obtain ⟨(s : List UInt8), u⟩ := p
  obtain ⟨h0, _⟩ := Obs.of hp
  replace h0 : s.length ≤ 1000000000 := h0
  refine ⟨?_, Nat.zero_le _, (by show (AV.tuple [prR s, .bool (rgS (pwS s))]).strict = true; unfold prR; split <;> rfl), rfl⟩
  show Tri _ _ _ (Code.seq _ (Code.seq _ (Code.seq (Code.seq _ (Code.block _ (Code.loop (Code.seq (Code.seq _ (Code.cond _ _ _)) (Code.seq (Code.block _ (Code.seq _ (Code.cond _ _ _))) _))))) (Code.seq (Code.seq _ (Code.cond _ (Code.seq _ _) _)) (Code.seq _ (Code.seq (Code.seq _ (Code.block _ (Code.loop (Code.seq (Code.seq _ (Code.cond _ _ _)) (Code.seq (Code.block _ (Code.seq _ (Code.cond _ (Code.seq _ _) _))) _))))) (Code.seq (Code.seq _ (Code.cond _ (Code.seq _ _) _)) (Code.seq _ _)))))))) _
  refine Tri.at (by first | (simp only [go_sem, Con.start, go_sem]; rfl) | rfl) ?_
  repeat (first | ((first | refine Tri.seq (Tri.regT (cfgS1_ok.pins _) ?_) | refine Tri.rgnT (cfgS1_ok.pins _) ?_); (repeat (first | refine RunT.oneA (hp := by simp (maxSteps := 2000000) (disch := first | decide | omega | (simp only [List.length_append, List.length_cons, List.length_nil, List.length_take, List.length_drop]; omega)) only [go_sem, go_sem]; rfl) (h := ?_) | refine RunT.notA (h := ?_))); refine RunT.nil ?_; try simp only [InBlock, Then]) | refine Tri.cF (by first | (simp only [go_sem, go_sem]; done) | fail) ?_ | refine Tri.cT (by first | (simp only [go_sem, go_sem]; done) | fail) ?_ | (refine Tri.skip ?_; try simp only [InBlock, Then]) | (refine Tri.exit ?_; simp only [Then, InBlock, if_true, if_false, ↓reduceIte, Nat.reduceEqDiff]) | refine Tri.seq (Tri.block ?_) | refine Tri.block ?_ | refine Tri.seq ?_ | (refine Tri.ret ?_; refine Con.fin (.inl rfl) (by simp only [Tryd.f28, cfgS1, resA, resA1, go_sem]; rfl) (by simp only [Obs, and_true, true_and]) (by first | (simp only [kPrsR, Con.of, Con.ofO, resV, go_sem, go_sem]; done) | fail) trivial rfl rfl))
  refine Tri.loop (fun i : Nat => (⟨[some (.str s), none, some (.ptr 0 [] 0), some (.bool false), some (.int .i64 (Lib.indexByte (s.take i) 64)), some (.int .i64 (i : Int))] ++ List.replicate 56 none, [.live (.agg [.nilsl, .str []])]⟩ : AS)) (fun i => i ≤ s.length) (fun i => s.length - i) 0 ?_ (Nat.zero_le _) ?_
  · refine Wk.of ?_ ?_ rfl rfl
    · simp only [lessTs, List.reduceReplicate, List.cons_append, List.nil_append, List.take_zero, Lib.indexByte] <;> ((repeat' apply And.intro) <;> first | with_reducible rfl | exact True.intro | exact congrArg (fun z : Int => some (AV.int IntKind.i64 z)) (show (_ : Int) = _ by omega) | exact congrArg (fun z : Nat => some (AV.tsl _ _ _ _ _ z)) (show (_ : Nat) = _ by omega) | exact arrEq (by omega) (by with_reducible rfl))
    · simp only [lessHs] <;> ((repeat' apply And.intro) <;> first | with_reducible rfl | exact True.intro | exact congrArg (fun z : Int => some (AV.int IntKind.i64 z)) (show (_ : Int) = _ by omega) | exact congrArg (fun z : Nat => some (AV.tsl _ _ _ _ _ z)) (show (_ : Nat) = _ by omega) | exact arrEq (by omega) (by with_reducible rfl))
  · intro i hi
    by_cases h1 : i < s.length
    · have h1' : decide ((i : Int) < (s.length : Int)) = true := decide_eq_true (by omega)
      have hst := idx_take s 64 i h1
      by_cases h2 : Lib.indexByte (s.take i) 64 < 0
      · have h2' : decide (Lib.indexByte (s.take i) 64 < 0) = true := decide_eq_true h2
        have hge := Lib.indexByte_ge (s.take i) 64
        have h2e : Lib.indexByte (s.take i) 64 = -1 := by omega
        rw [if_pos h2] at hst
        by_cases h3 : s.getD i 0 = 64
        · have h3' : decide (s.getD i 0 = 64) = true := decide_eq_true h3
          rw [if_pos h3] at hst
          refine Tri.at (by first | (simp only [go_sem]; rfl) | rfl) ?_
          repeat (first | ((first | refine Tri.seq (Tri.regT (cfgS1_ok.pins _) ?_) | refine Tri.rgnT (cfgS1_ok.pins _) ?_); (repeat (first | refine RunT.oneA (hp := by simp (maxSteps := 2000000) (disch := first | decide | omega | (simp only [List.length_append, List.length_cons, List.length_nil, List.length_take, List.length_drop]; omega)) only [h1', h2', h3', go_sem]; rfl) (h := ?_) | refine RunT.notA (h := ?_))); refine RunT.nil ?_; try simp only [InBlock, Then]) | refine Tri.cF (by first | (simp only [go_sem]; done) | fail) ?_ | refine Tri.cT (by first | (simp only [go_sem]; done) | fail) ?_ | (refine Tri.skip ?_; try simp only [Then]) | (refine Tri.exit ?_; simp only [Then, InBlock, if_true, if_false, ↓reduceIte, Nat.reduceEqDiff]) | refine Tri.seq (Tri.block ?_) | refine Tri.block ?_ | refine Tri.seq ?_ | (refine Tri.ret ?_; refine Con.fin (.inl rfl) (by simp only [Tryd.f28, cfgS1, resA, resA1, go_sem]; rfl) (by simp only [Obs, and_true, true_and]) (by first | (simp only [kPrsR, Con.of, Con.ofO, resV, h1', h2', h3', go_sem]; done) | fail) trivial rfl rfl))
          refine ⟨i + 1, (by omega), (by omega), Wk.of ?_ ?_ rfl rfl⟩
          · simp only [lessTs, List.reduceReplicate, List.cons_append, List.nil_append, hst] <;> ((repeat' apply And.intro) <;> first | with_reducible rfl | exact True.intro | exact congrArg (fun z : Int => some (AV.int IntKind.i64 z)) (show (_ : Int) = _ by omega) | exact congrArg (fun z : Nat => some (AV.tsl _ _ _ _ _ z)) (show (_ : Nat) = _ by omega) | exact arrEq (by omega) (by with_reducible rfl))
          · exact ⟨rfl, trivial⟩
        · have h3' : decide (s.getD i 0 = 64) = false := decide_eq_false h3
          rw [if_neg h3, ← h2e] at hst
          refine Tri.at (by first | (simp only [go_sem]; rfl) | rfl) ?_
          repeat (first | ((first | refine Tri.seq (Tri.regT (cfgS1_ok.pins _) ?_) | refine Tri.rgnT (cfgS1_ok.pins _) ?_); (repeat (first | refine RunT.oneA (hp := by simp (maxSteps := 2000000) (disch := first | decide | omega | (simp only [List.length_append, List.length_cons, List.length_nil, List.length_take, List.length_drop]; omega)) only [h1', h3', go_sem]; rfl) (h := ?_) | refine RunT.notA (h := ?_))); refine RunT.nil ?_; try simp only [Then]) | refine Tri.cF (by first | (simp only [go_sem]; done) | fail) ?_ | refine Tri.cT (by first | (simp only [go_sem]; done) | fail) ?_ | (refine Tri.skip ?_; try simp only [InBlock, Then]) | (refine Tri.exit ?_; simp only [Then, InBlock, if_true, if_false, ↓reduceIte, Nat.reduceEqDiff]) | refine Tri.seq (Tri.block ?_) | refine Tri.block ?_ | refine Tri.seq ?_ | (refine Tri.ret ?_; refine Con.fin (.inl rfl) (by simp only [Tryd.f28, cfgS1, resA, resA1, go_sem]; rfl) (by simp only [Obs, and_true, true_and]) (by first | (simp only [kPrsR, Con.of, Con.ofO, resV, h1', h2', h3', go_sem]; done) | fail) trivial rfl rfl))
          refine ⟨i + 1, (by omega), (by omega), Wk.of ?_ ?_ rfl rfl⟩
          · simp only [lessTs, List.reduceReplicate, List.cons_append, List.nil_append, hst] <;> ((repeat' apply And.intro) <;> first | with_reducible rfl | exact True.intro | exact congrArg (fun z : Int => some (AV.int IntKind.i64 z)) (show (_ : Int) = _ by omega) | exact congrArg (fun z : Nat => some (AV.tsl _ _ _ _ _ z)) (show (_ : Nat) = _ by omega) | exact arrEq (by omega) (by with_reducible rfl))
          · exact ⟨rfl, trivial⟩
      · have h2' : decide (Lib.indexByte (s.take i) 64 < 0) = false := decide_eq_false h2
        rw [if_neg h2] at hst
        cases h3 : decide (s.getD i 0 = 64)
        all_goals
          refine Tri.at (by first | (simp only [go_sem]; rfl) | rfl) ?_
          repeat (first | ((first | refine Tri.seq (Tri.regT (cfgS1_ok.pins _) ?_) | refine Tri.rgnT (cfgS1_ok.pins _) ?_); (repeat (first | refine RunT.oneA (hp := by simp (maxSteps := 2000000) (disch := first | decide | omega | (simp only [List.length_append, List.length_cons, List.length_nil, List.length_take, List.length_drop]; omega)) only [h1', h2', h3, go_sem]; rfl) (h := ?_) | refine RunT.notA (h := ?_))); refine RunT.nil ?_; try simp only [Then]) | refine Tri.cF (by first | (simp only [go_sem]; done) | fail) ?_ | refine Tri.cT (by first | (simp only [go_sem]; done) | fail) ?_ | (refine Tri.skip ?_; try simp only [InBlock, Then]) | (refine Tri.exit ?_; simp only [Then, InBlock, if_true, if_false, ↓reduceIte, Nat.reduceEqDiff]) | refine Tri.seq (Tri.block ?_) | refine Tri.block ?_ | refine Tri.seq ?_ | (refine Tri.ret ?_; refine Con.fin (.inl rfl) (by simp only [Tryd.f28, cfgS1, resA, resA1, go_sem]; rfl) (by simp only [Obs, and_true, true_and]) (by first | (simp only [kPrsR, Con.of, Con.ofO, resV, h1', h2', h3, go_sem]; done) | fail) trivial rfl rfl))
          refine ⟨i + 1, (by omega), (by omega), Wk.of ?_ ?_ rfl rfl⟩
          · simp only [lessTs, List.reduceReplicate, List.cons_append, List.nil_append, hst] <;> ((repeat' apply And.intro) <;> first | with_reducible rfl | exact True.intro | exact congrArg (fun z : Int => some (AV.int IntKind.i64 z)) (show (_ : Int) = _ by omega) | exact congrArg (fun z : Nat => some (AV.tsl _ _ _ _ _ z)) (show (_ : Nat) = _ by omega) | exact arrEq (by omega) (by with_reducible rfl))
          · exact ⟨rfl, trivial⟩
    · have h1' : decide ((i : Int) < (s.length : Int)) = false := decide_eq_false (by omega)
      rw [List.take_of_length_le (by omega)]
      by_cases h2 : Lib.indexByte s 64 < 0
      · have h2' : decide (Lib.indexByte s 64 < 0) = true := decide_eq_true h2
        have e1 := pw_nat h2
        have e2 : prR s = .agg [.nilsl, .str []] := by rw [prR, e1]; rfl
        refine Tri.at (by first | (simp only [go_sem]; rfl) | rfl) ?_
        repeat (first | ((first | refine Tri.seq (Tri.regT (cfgS1_ok.pins _) ?_) | refine Tri.rgnT (cfgS1_ok.pins _) ?_); (repeat (first | refine RunT.oneA (hp := by simp (maxSteps := 2000000) (disch := first | decide | omega | (simp only [List.length_append, List.length_cons, List.length_nil, List.length_take, List.length_drop]; omega)) only [h1', h2', go_sem]; rfl) (h := ?_) | refine RunT.notA (h := ?_))); refine RunT.nil ?_; try simp only [InBlock, Then]) | refine Tri.cF (by first | (simp only [go_sem]; done) | fail) ?_ | refine Tri.cT (by first | (simp only [go_sem]; done) | fail) ?_ | (refine Tri.skip ?_; try simp only [InBlock, Then]) | (refine Tri.exit ?_; simp only [Then, InBlock, ↓reduceIte]) | refine Tri.seq (Tri.block ?_) | refine Tri.block ?_ | refine Tri.seq ?_ | (refine Tri.ret ?_; refine Con.fin (.inl rfl) (by simp only [Tryd.f28, cfgS1, resA, resA1, go_sem]; rfl) (by simp only [Obs, and_true]) (by first | (simp only [kPrsR, Con.of, resV, e1, e2, go_sem]; done) | fail) trivial rfl rfl))
        refine Tri.ret ?_
        refine Con.fin (.inl rfl) (by simp only [Tryd.f28, cfgS1, resA, resA1, go_sem]; rfl) (by simp only [Obs, and_true]) ?_ ?_ ?_ rfl
        · show AV.tuple [.agg [.nilsl, .str []], .bool false] = AV.tuple [prR s, .bool (rgS (pwS s))]
          rw [e1, e2]
        · exact True.intro
        · show (AS.mk [some (.tuple [prR s, .bool (rgS (pwS s))])] []).closed = true
          rw [e2]; rfl
      · obtain ⟨m, hm⟩ : ∃ m : Nat, Lib.indexByte s 64 = (m : Int) := ⟨(Lib.indexByte s 64).toNat, by omega⟩
        have hml : m < s.length := by have := (idx_range s 64).2; omega
        have h2' : decide ((m : Int) < 0) = false := decide_eq_false (by omega)
        have hA : cutA s 64 = s.take m := by rw [cutA, if_neg h2, hm, Int.toNat_natCast]
        have hR : cutR s 64 = s.drop (m + 1) := by rw [cutR, if_neg h2, hm, Int.toNat_natCast]
        have h64 : s.getD m 0 = 64 := by
          have h3 := (idx_some hm).1
          have h4 : s.getD m 0 = (s.take m ++ 64 :: s.drop (m + 1)).getD m 0 := congrArg (fun z : List UInt8 => z.getD m 0) h3
          rw [h4, List.getD_eq_getElem?_getD, List.getElem?_append_right (by rw [List.length_take]; omega), List.length_take, Nat.min_eq_left (by omega), Nat.sub_self]
          rfl
        have htk : List.take (s.length - (m + 1)) (List.drop (m + 1) s) = List.drop (m + 1) s := List.take_of_length_le (by rw [List.length_drop]; exact Nat.le_refl _)
        refine Tri.at (by first | (simp only [hm, go_sem]; rfl) | rfl) ?_
        repeat (first | ((first | refine Tri.seq (Tri.regT (cfgS1_ok.pins _) ?_) | refine Tri.rgnT (cfgS1_ok.pins _) ?_); (repeat (first | refine RunT.oneA (hp := by simp (maxSteps := 2000000) (disch := first | decide | omega | (simp only [List.length_append, List.length_cons, List.length_nil, List.length_take, List.length_drop]; omega)) only [h1', h2', htk, go_sem]; rfl) (h := ?_) | refine RunT.notA (h := ?_))); refine RunT.nil ?_; try simp only [InBlock, Then]) | refine Tri.cF (by first | (simp only [go_sem]; done) | fail) ?_ | refine Tri.cT (by first | (simp only [go_sem]; done) | fail) ?_ | (refine Tri.skip ?_; try simp only [Then]) | (refine Tri.exit ?_; simp only [Then, InBlock, ↓reduceIte]) | refine Tri.seq (Tri.block ?_) | refine Tri.block ?_ | refine Tri.seq ?_ | (refine Tri.ret ?_; refine Con.fin (.inl rfl) (by simp only [Tryd.f28, cfgS1, resA, resA1, go_sem]; rfl) (by simp only [Obs, and_true, true_and]) (by first | (simp only [kPrsR, Con.of, Con.ofO, resV, h1', hm, h2', htk, Int.natCast_one, go_sem]; done) | fail) trivial rfl rfl))
        refine Tri.ph 1 0 .str 1 rfl rfl rfl ?_
        refine Tri.at (by first | (simp only [phS, go_sem]; rfl) | rfl) ?_
        refine Tri.loop (fun v : Nat × Nat × List (List UInt8) => (⟨[some (.str s), none, some (.ptr 0 [] 0), some (.bool false), some (.int .i64 (m : Int)), none, some (.ptr 1 [] 0), some (.int .i64 (v.2.1 : Int)), some (.int .i64 (v.1 : Int))] ++ List.replicate 53 none, [.live (.agg [.nilsl, .str []]), .live (.agg [.tsl 2 [] 0 0 1 v.2.2.length, .str (List.drop (m + 1) s)]), .live (.pure (.arr v.2.2.length .str) v.2.2)]⟩ : AS))
          (fun v => (v.1 ≤ m ∧ v.2.1 ≤ v.1 ∧ splS 47 (s.take m) = v.2.2 ++ splS 47 ((s.take m).drop v.2.1) ∧ (47 : UInt8) ∉ pq s v.2.1 v.1 ∧ v.2.2.length ≤ v.1) ∨ (v.1 = m + 1 ∧ splS 47 (s.take m) = v.2.2)) (fun v => m + 1 - v.1) (0, 0, []) ?_ (.inl ⟨Nat.zero_le _, Nat.le_refl _, rfl, (by simp [pq]), Nat.le_refl _⟩) ?_
        · refine Wk.of ?_ ?_ rfl rfl
          · simp only [lessTs, List.reduceReplicate, List.cons_append, List.nil_append] <;> ((repeat' apply And.intro) <;> first | with_reducible rfl | exact True.intro | exact congrArg (fun z : Int => some (AV.int IntKind.i64 z)) (show (_ : Int) = _ by omega) | exact congrArg (fun z : Nat => some (AV.tsl _ _ _ _ _ z)) (show (_ : Nat) = _ by omega) | exact arrEq (by omega) (by with_reducible rfl))
          · simp only [lessHs, List.length_nil] <;> ((repeat' apply And.intro) <;> first | with_reducible rfl | exact True.intro | exact congrArg (fun z : Int => some (AV.int IntKind.i64 z)) (show (_ : Int) = _ by omega) | exact congrArg (fun z : Nat => some (AV.tsl _ _ _ _ _ z)) (show (_ : Nat) = _ by omega) | exact arrEq (by omega) (by with_reducible rfl))
        · intro ⟨i, fr, pc⟩ hinv
          by_cases h3 : i ≤ m
          · have h3' : decide ((m : Int) < (i : Int)) = false := decide_eq_false (by omega)
            obtain ⟨hi1, hfr, hsp, hq, hpl⟩ : i ≤ m ∧ fr ≤ i ∧ splS 47 (s.take m) = pc ++ splS 47 ((s.take m).drop fr) ∧ (47 : UInt8) ∉ pq s fr i ∧ pc.length ≤ i := by
              rcases hinv with hinv | hinv
              · exact hinv
              · have : i = m + 1 := hinv.1
                omega
            clear hinv
            have htq : List.take pc.length pc = pc := List.take_length
            by_cases h4 : s.getD i 0 = 47
            · have h4' : decide (s.getD i 0 = 47) = true := decide_eq_true h4
              have hne : i ≠ m := by rintro rfl; rw [h64] at h4; exact absurd h4 (by decide)
              have hcut := pq_cut s hfr (show i < m by omega) (by omega) h4 hq
              refine Tri.at (by first | (simp only [go_sem]; rfl) | rfl) ?_
              repeat (first | ((first | refine Tri.seq (Tri.regT (cfgS1_ok.pins _) ?_) | refine Tri.rgnT (cfgS1_ok.pins _) ?_); (repeat (first | refine RunT.oneA (hp := by simp (maxSteps := 2000000) (disch := first | decide | omega | (simp only [List.length_append, List.length_cons, List.length_nil, List.length_take, List.length_drop]; omega)) only [h3', h4', go_sem]; rfl) (h := ?_) | refine RunT.notA (h := ?_))); refine RunT.nil ?_; try simp only [InBlock, Then]) | ((first | refine Tri.seq (Tri.drwT (mixed) (cfgS1_ok.pins _) ?_) | refine Tri.drnT (mixed) (cfgS1_ok.pins _) ?_); (repeat (first | refine RunD.oneA (hp := by simp (maxSteps := 2000000) (disch := first | decide | omega | (simp only [List.length_append, List.length_cons, List.length_nil, List.length_take, List.length_drop]; omega)) only [htq, go_sem]; rfl) (h := ?_) | refine RunD.notA (h := ?_))); refine RunD.nil ?_; refine ⟨by kernel_rfl, ?_⟩; try simp only [InBlock, Then]) | refine Tri.cF (by first | (simp only [go_sem]; done) | fail) ?_ | refine Tri.cT (by first | (simp only [go_sem]; done) | fail) ?_ | (refine Tri.skip ?_; try simp only [Then]) | (refine Tri.exit ?_; simp only [Then, InBlock, if_true, if_false, ↓reduceIte, Nat.reduceEqDiff]) | refine Tri.seq (Tri.block ?_) | refine Tri.block ?_ | refine Tri.seq ?_ | (refine Tri.ret ?_; refine Con.fin (.inl rfl) (by simp only [Tryd.f28, cfgS1, resA, resA1, go_sem]; rfl) (by simp only [Obs, and_true, true_and]) (by first | (simp only [kPrsR, Con.of, Con.ofO, resV, h3', h4', htq, go_sem]; done) | fail) trivial rfl rfl))
              refine ⟨(i + 1, i + 1, pc ++ [pq s fr i]), .inl ⟨(by show i + 1 ≤ m; omega), Nat.le_refl _, (by show splS 47 (s.take m) = (pc ++ [pq s fr i]) ++ splS 47 ((s.take m).drop (i + 1)); rw [hsp, hcut, List.append_assoc]; rfl), (by simp [pq]), (by show (pc ++ [pq s fr i]).length ≤ i + 1; rw [List.length_append]; exact Nat.add_le_add_right hpl 1)⟩, (by show m + 1 - (i + 1) < m + 1 - i; omega), Wk.of ?_ ?_ rfl rfl⟩
              · simp only [lessTs, List.reduceReplicate, List.cons_append, List.nil_append] <;> ((repeat' apply And.intro) <;> first | with_reducible rfl | exact True.intro | exact congrArg (fun z : Int => some (AV.int IntKind.i64 z)) (show (_ : Int) = _ by omega) | exact congrArg (fun z : Nat => some (AV.tsl _ _ _ _ _ z)) (show (_ : Nat) = _ by omega) | exact arrEq (by omega) (by with_reducible rfl))
              · exact ⟨rfl, (by show Slot.live (.agg [.tsl 2 [] 0 0 1 (pc.length + 1), .str (List.drop (m + 1) s)]) = Slot.live (.agg [.tsl 2 [] 0 0 1 (pc ++ [pq s fr i]).length, .str (List.drop (m + 1) s)]); rw [List.length_append]; rfl), arrEq (by show pc.length + 1 = (pc ++ [pq s fr i]).length; rw [List.length_append]; rfl) rfl, trivial⟩
            · have h4' : decide (s.getD i 0 = 47) = false := decide_eq_false h4
              by_cases h5 : i = m
              · have h5' : decide ((i : Int) = (m : Int)) = true := decide_eq_true (by omega)
                have hend := pq_end s (show fr ≤ m by omega) (by omega) (by rw [h5] at hq; exact hq)
                refine Tri.at (by first | (simp only [go_sem]; rfl) | rfl) ?_
                repeat (first | ((first | refine Tri.seq (Tri.regT (cfgS1_ok.pins _) ?_) | refine Tri.rgnT (cfgS1_ok.pins _) ?_); (repeat (first | refine RunT.oneA (hp := by simp (maxSteps := 2000000) (disch := first | decide | omega | (simp only [List.length_append, List.length_cons, List.length_nil, List.length_take, List.length_drop]; omega)) only [h3', h4', h5', go_sem]; rfl) (h := ?_) | refine RunT.notA (h := ?_))); refine RunT.nil ?_; try simp only [InBlock, Then]) | ((first | refine Tri.seq (Tri.drwT (mixed) (cfgS1_ok.pins _) ?_) | refine Tri.drnT (mixed) (cfgS1_ok.pins _) ?_); (repeat (first | refine RunD.oneA (hp := by simp (maxSteps := 2000000) (disch := first | decide | omega | (simp only [List.length_append, List.length_cons, List.length_nil, List.length_take, List.length_drop]; omega)) only [htq, go_sem]; rfl) (h := ?_) | refine RunD.notA (h := ?_))); refine RunD.nil ?_; refine ⟨by kernel_rfl, ?_⟩; try simp only [InBlock, Then]) | refine Tri.cF (by first | (simp only [go_sem]; done) | fail) ?_ | refine Tri.cT (by first | (simp only [go_sem]; done) | fail) ?_ | (refine Tri.skip ?_; try simp only [Then]) | (refine Tri.exit ?_; simp only [Then, InBlock, if_true, if_false, ↓reduceIte, Nat.reduceEqDiff]) | refine Tri.seq (Tri.block ?_) | refine Tri.block ?_ | refine Tri.seq ?_ | (refine Tri.ret ?_; refine Con.fin (.inl rfl) (by simp only [Tryd.f28, cfgS1, resA, resA1, go_sem]; rfl) (by simp only [Obs, and_true, true_and]) (by first | (simp only [kPrsR, Con.of, Con.ofO, resV, h3', h4', h5', htq, go_sem]; done) | fail) trivial rfl rfl))
                refine ⟨(i + 1, i + 1, pc ++ [pq s fr i]), .inr ⟨(by show i + 1 = m + 1; omega), (by show splS 47 (s.take m) = pc ++ [pq s fr i]; rw [hsp, hend, h5])⟩, (by show m + 1 - (i + 1) < m + 1 - i; omega), Wk.of ?_ ?_ rfl rfl⟩
                · simp only [lessTs, List.reduceReplicate, List.cons_append, List.nil_append] <;> ((repeat' apply And.intro) <;> first | with_reducible rfl | exact True.intro | exact congrArg (fun z : Int => some (AV.int IntKind.i64 z)) (show (_ : Int) = _ by omega) | exact congrArg (fun z : Nat => some (AV.tsl _ _ _ _ _ z)) (show (_ : Nat) = _ by omega) | exact arrEq (by omega) (by with_reducible rfl))
                · exact ⟨rfl, (by show Slot.live (.agg [.tsl 2 [] 0 0 1 (pc.length + 1), .str (List.drop (m + 1) s)]) = Slot.live (.agg [.tsl 2 [] 0 0 1 (pc ++ [pq s fr i]).length, .str (List.drop (m + 1) s)]); rw [List.length_append]; rfl), arrEq (by show pc.length + 1 = (pc ++ [pq s fr i]).length; rw [List.length_append]; rfl) rfl, trivial⟩
              · have h5' : decide ((i : Int) = (m : Int)) = false := decide_eq_false (by omega)
                have hsu := pq_succ s hfr (show i < s.length by omega)
                refine Tri.at (by first | (simp only [go_sem]; rfl) | rfl) ?_
                repeat (first | ((first | refine Tri.seq (Tri.regT (cfgS1_ok.pins _) ?_) | refine Tri.rgnT (cfgS1_ok.pins _) ?_); (repeat (first | refine RunT.oneA (hp := by simp (maxSteps := 2000000) (disch := first | decide | omega | (simp only [List.length_append, List.length_cons, List.length_nil, List.length_take, List.length_drop]; omega)) only [h3', h4', h5', go_sem]; rfl) (h := ?_) | refine RunT.notA (h := ?_))); refine RunT.nil ?_; try simp only [Then]) | ((first | refine Tri.seq (Tri.drwT (mixed) (cfgS1_ok.pins _) ?_) | refine Tri.drnT (mixed) (cfgS1_ok.pins _) ?_); (repeat (first | refine RunD.oneA (hp := by simp (maxSteps := 2000000) (disch := first | decide | omega | (simp only [List.length_append, List.length_cons, List.length_nil, List.length_take, List.length_drop]; omega)) only [h3', h4', h5', htq, go_sem]; rfl) (h := ?_) | refine RunD.notA (h := ?_))); refine RunD.nil ?_; refine ⟨by kernel_rfl, ?_⟩; try simp only [InBlock, Then]) | refine Tri.cF (by first | (simp only [go_sem]; done) | fail) ?_ | refine Tri.cT (by first | (simp only [go_sem]; done) | fail) ?_ | (refine Tri.skip ?_; try simp only [InBlock, Then]) | (refine Tri.exit ?_; simp only [Then, InBlock, if_true, if_false, ↓reduceIte, Nat.reduceEqDiff]) | refine Tri.seq (Tri.block ?_) | refine Tri.block ?_ | refine Tri.seq ?_ | (refine Tri.ret ?_; refine Con.fin (.inl rfl) (by simp only [Tryd.f28, cfgS1, resA, resA1, go_sem]; rfl) (by simp only [Obs, and_true, true_and]) (by first | (simp only [kPrsR, Con.of, Con.ofO, resV, h3', h4', h5', htq, go_sem]; done) | fail) trivial rfl rfl))
                refine ⟨(i + 1, fr, pc), .inl ⟨(by show i + 1 ≤ m; omega), (by show fr ≤ i + 1; omega), hsp, (by
                    show (47 : UInt8) ∉ pq s fr (i + 1)
                    rw [hsu]
                    intro hm'
                    rcases List.mem_append.1 hm' with hm' | hm'
                    · exact hq hm'
                    · exact h4 (List.mem_singleton.1 hm').symm), (by show pc.length ≤ i + 1; omega)⟩, (by show m + 1 - (i + 1) < m + 1 - i; omega), Wk.of ?_ ?_ rfl rfl⟩
                · simp only [lessTs, List.reduceReplicate, List.cons_append, List.nil_append] <;> ((repeat' apply And.intro) <;> first | with_reducible rfl | exact True.intro | exact congrArg (fun z : Int => some (AV.int IntKind.i64 z)) (show (_ : Int) = _ by omega) | exact congrArg (fun z : Nat => some (AV.tsl _ _ _ _ _ z)) (show (_ : Nat) = _ by omega) | exact arrEq (by omega) (by with_reducible rfl))
                · exact ⟨rfl, rfl, rfl, trivial⟩
          · have h3' : decide ((m : Int) < (i : Int)) = true := decide_eq_true (by omega)
            have hpc : splS 47 (s.take m) = pc := by
              rcases hinv with hinv | hinv
              · have : i ≤ m := hinv.1
                omega
              · exact hinv.2
            clear hinv
            have hpw : pwS s = (pc, s.drop (m + 1), ()) := by rw [pwS, hA, hR, hpc]
            have hpl : pc.length ≤ 1000000001 := by
              have := spl_len_le 47 (s.take m)
              rw [hpc, List.length_take] at this
              omega
            have hpm : ∀ y ∈ pc, List.length y ≤ 1000000000 := by
              intro y hy
              rw [← hpc] at hy
              have := spl_mem 47 _ y hy
              rw [List.length_take] at this
              omega
            have hrl : (List.drop (m + 1) s).length ≤ 1000000000 := by rw [List.length_drop]; omega
            have htq : List.take pc.length pc = pc := List.take_length
            cases hr : rgS (pc, s.drop (m + 1), ()) with
            | false =>
              have e1 : rgS (pwS s) = false := by rw [hpw]; exact hr
              have e2 : prR s = .agg [.nilsl, .str []] := by rw [prR, e1]; rfl
              refine Tri.at (by first | (simp only [go_sem]; rfl) | rfl) ?_
              repeat (first | ((first | refine Tri.seq (Tri.regT (cfgS1_ok.pins _) ?_) | refine Tri.rgnT (cfgS1_ok.pins _) ?_); (repeat (first | refine RunT.oneA (hp := by simp (maxSteps := 2000000) (disch := first | decide | omega | (simp only [List.length_append, List.length_cons, List.length_nil, List.length_take, List.length_drop]; omega)) only [h3', htq, hr, go_sem]; rfl) (h := ?_) | refine RunT.notA (h := ?_))); refine RunT.nil ?_; try simp only []) | refine Tri.cF (by first | (simp only [go_sem]; done) | fail) ?_ | refine Tri.cT (by first | (simp only [go_sem]; done) | fail) ?_ | (refine Tri.skip ?_; try simp only [InBlock, Then]) | (refine Tri.exit ?_; simp only [Then, InBlock, ↓reduceIte]) | refine Tri.seq (Tri.block ?_) | refine Tri.block ?_ | refine Tri.seq ?_ | (refine Tri.ret ?_; refine Con.fin (.inl rfl) (by simp only [Tryd.f28, cfgS1, resA, resA1, go_sem]; rfl) (by simp only [Obs, and_true]) (by first | (simp only [kPrsR, Con.of, resV, go_sem]; done) | fail) trivial rfl rfl))
              refine Tri.ret ?_
              refine Con.fin (.inl rfl) (by simp only [Tryd.f28, cfgS1, resA, resA1, go_sem]; rfl) (by simp only [Obs, and_true]) ?_ ?_ ?_ rfl
              · show AV.tuple [.agg [.nilsl, .str []], .bool false] = AV.tuple [prR s, .bool (rgS (pwS s))]
                rw [e1, e2]
              · exact True.intro
              · show (AS.mk [some (.tuple [prR s, .bool (rgS (pwS s))])] []).closed = true
                rw [e2]; rfl
            | true =>
              have e1 : rgS (pwS s) = true := by rw [hpw]; exact hr
              have e2 : prR s = .agg [.pure (.slice true .str) pc, .str (s.drop (m + 1))] := by rw [prR, e1, if_pos rfl, hA, hR, hpc]
              refine Tri.at (by first | (simp only [go_sem]; rfl) | rfl) ?_
              repeat (first | ((first | refine Tri.seq (Tri.regT (cfgS1_ok.pins _) ?_) | refine Tri.rgnT (cfgS1_ok.pins _) ?_); (repeat (first | refine RunT.oneA (hp := by simp (maxSteps := 2000000) (disch := first | decide | omega | (simp only [List.length_append, List.length_cons, List.length_nil, List.length_take, List.length_drop]; omega)) only [h3', htq, hr, go_sem]; rfl) (h := ?_) | refine RunT.notA (h := ?_))); refine RunT.nil ?_; try simp only []) | refine Tri.cF (by first | (simp only [go_sem]; done) | fail) ?_ | refine Tri.cT (by first | (simp only [go_sem]; done) | fail) ?_ | (refine Tri.skip ?_; try simp only [Then]) | (refine Tri.exit ?_; simp only [Then, InBlock, ↓reduceIte]) | refine Tri.seq (Tri.block ?_) | refine Tri.block ?_ | refine Tri.seq ?_ | (refine Tri.ret ?_; refine Con.fin (.inl rfl) (by simp only [Tryd.f28, cfgS1, resA, resA1, go_sem]; rfl) (by simp only [Obs, and_true]) (by first | (simp only [kPrsR, Con.of, resV, go_sem]; done) | fail) trivial rfl rfl))
              refine Tri.rel true 2 rfl ?_ rfl rfl ?_
              · simp only [go_sem]
                repeat' constructor
              refine Tri.at (by first | (simp only [htq, go_sem]; rfl) | rfl) ?_
              refine Tri.ret ?_
              refine Con.fin (.inl rfl) (by simp only [Tryd.f28, cfgS1, resA, resA1, go_sem]; rfl) (by simp only [Obs, and_true]) ?_ ?_ ?_ rfl
              · show AV.tuple [.agg [.pure (.slice true .str) pc, .str (s.drop (m + 1))], .bool true] = AV.tuple [prR s, .bool (rgS (pwS s))]
                rw [e1, e2]
              · exact True.intro
              · show (AS.mk [some (.tuple [prR s, .bool (rgS (pwS s))])] []).closed = true
                rw [e2]; rfl
theorem prsR_sum : FSumOK Tryd.prog cfgS1.G 28 kPrsR.sum := Con.sumOK cfgS1_ok kPrsR Tryd.func28 rfl rfl (Con.of_inv _ _ _) prsR_body
end
end Go.Proofs.YtjdeaphfamenaaaDoor

namespace Go.Proofs.YtjdeaphfamenaaaDoor
open Go.Vc Go.Proofs
set_option maxRecDepth 10000
set_option maxHeartbeats 4000000
def kRNum : Con := Con.of [.v (.int .u64)] (fun _ => []) (fun x => ⟨.pure (.slice true (.int .u8)) (numS x.1), []⟩)
theorem u64_256 (n : UInt64) : remT .u64 n 256 = n % 256 ∧ quoT .u64 n 256 = (n >>> 8 : UInt64) := by
  refine ⟨rfl, ?_⟩
  show (UInt64.div n 256 : UInt64) = n >>> 8
  show (n / 256 : UInt64) = n >>> 8
  apply UInt64.toNat_inj.1
  rw [UInt64.toNat_shiftRight, UInt64.toNat_div]
  simp [Nat.shiftRight_eq_div_pow]
theorem u8_256 (n : UInt64) : (n % 256).toUInt8 = n.toUInt8 := by
  apply UInt8.toNat_inj.1
  simp
def cfgKX1 : Cfg2 := { ty := tyTab, fn := fun  | _ => none, G := gNone, pin := [], eq := fun _ => none }
theorem cfgKX1_ok : CfgOK Tryd.prog cfgKX1 := ⟨tysOK, (fun f s h => by cases h), (fun t d h => by cases h)⟩
section
attribute [local go_sem] Tryd.f78 kRNum cfgKX1 tyTab
theorem rnu_body (p : kRNum.Par) (hp : ∀ q ∈ kRNum.pre p, q) : BodyOK Tryd.prog cfgKX1 Tryd.f78 (Tryd.f78.body.get rfl) kRNum p := by
  obtain ⟨(n0 : UInt64), u⟩ := p
  refine ⟨?_, Nat.zero_le _, rfl, rfl⟩
  show Tri _ _ _ (Code.seq _ (Code.seq _ (Code.seq (Code.seq _ (Code.block _ (Code.loop (Code.seq (Code.seq _ (Code.cond _ _ _)) (Code.seq (Code.block _ _) _))))) (Code.seq _ _)))) _
  refine Tri.at (by first | (simp only [go_sem, Con.start, go_sem]; rfl) | rfl) ?_
  repeat (first | ((first | refine Tri.seq (Tri.regT (cfgKX1_ok.pins _) ?_) | refine Tri.rgnT (cfgKX1_ok.pins _) ?_); (repeat (first | refine RunT.oneA (hp := by simp (maxSteps := 2000000) (disch := first | decide | omega | (simp only [List.length_append, List.length_cons, List.length_nil, List.length_take, List.length_drop]; omega)) only [go_sem, go_sem]; rfl) (h := ?_) | refine RunT.notA (h := ?_))); refine RunT.nil ?_; try simp only [InBlock, Then]) | ((first | refine Tri.seq (Tri.drwT (mixed) (cfgKX1_ok.pins _) ?_) | refine Tri.drnT (mixed) (cfgKX1_ok.pins _) ?_); (repeat (first | refine RunD.oneA (hp := by simp (maxSteps := 2000000) (disch := first | decide | omega | (simp only [List.length_append, List.length_cons, List.length_nil, List.length_take, List.length_drop]; omega)) only [go_sem, go_sem]; rfl) (h := ?_) | refine RunD.notA (h := ?_))); refine RunD.nil ?_; refine ⟨by kernel_rfl, ?_⟩; try simp only [InBlock, Then]) | refine Tri.cF (by first | (simp only [go_sem, go_sem]; done) | fail) ?_ | refine Tri.cT (by first | (simp only [go_sem, go_sem]; done) | fail) ?_ | (refine Tri.skip ?_; try simp only [InBlock, Then]) | (refine Tri.exit ?_; simp only [Then, InBlock, if_true, if_false, ↓reduceIte, Nat.reduceEqDiff]) | refine Tri.seq (Tri.block ?_) | refine Tri.block ?_ | refine Tri.seq ?_ | (refine Tri.ret ?_; refine Con.fin (.inl rfl) (by simp only [Tryd.f78, cfgKX1, resA, resA1, go_sem]; rfl) (by simp only [Obs, and_true, true_and]) (by first | (simp only [kRNum, Con.of, Con.ofO, resV, go_sem, go_sem]; done) | fail) trivial rfl rfl))
  refine Tri.rel true 0 rfl ?_ rfl rfl ?_
  · simp only [AS.blk, go_sem]
    repeat' constructor
  refine Tri.at (by first | (simp only [go_sem, Con.start, go_sem]; rfl) | rfl) ?_
  refine Tri.loop (fun s : UInt64 × List UInt8 => (⟨[some (.int .u64 n0), none, none, some (.pure (.slice true (.int .u8)) s.2), some (.int .u64 s.1)] ++ List.replicate 13 none, []⟩ : AS)) (fun s => s.2.length ≤ 8 ∧ s.1.toNat < 256 ^ (8 - s.2.length) ∧ (leN (8 - s.2.length) s.1).reverse ++ s.2 = numS n0) (fun s => 8 - s.2.length) (n0, []) ?_ ⟨Nat.zero_le _, UInt64.toNat_lt n0, List.append_nil _⟩ ?_
  · refine Wk.of ?_ ?_ rfl rfl
    · simp only [lessTs, List.reduceReplicate, List.cons_append, List.nil_append] <;> ((repeat' apply And.intro) <;> first | with_reducible rfl | exact True.intro | exact congrArg (fun z : Int => some (AV.int IntKind.i64 z)) (show (_ : Int) = _ by omega) | exact congrArg (fun z : Nat => some (AV.tsl _ _ _ _ _ z)) (show (_ : Nat) = _ by omega) | exact arrEq (by omega) (by with_reducible rfl))
    · simp only [lessHs] <;> ((repeat' apply And.intro) <;> first | with_reducible rfl | exact True.intro | exact congrArg (fun z : Int => some (AV.int IntKind.i64 z)) (show (_ : Int) = _ by omega) | exact congrArg (fun z : Nat => some (AV.tsl _ _ _ _ _ z)) (show (_ : Nat) = _ by omega) | exact arrEq (by omega) (by with_reducible rfl))
  · intro ⟨n, acc⟩ ⟨ha, hn, he⟩
    replace ha : acc.length ≤ 8 := ha
    replace hn : n.toNat < 256 ^ (8 - acc.length) := hn
    replace he : (leN (8 - acc.length) n).reverse ++ acc = numS n0 := he
    by_cases hz : n = 0
    · have hz' : decide ((0 : UInt64) < n) = false := by rw [hz]; rfl
      have hl : leN (8 - acc.length) n = [] := by
        subst hz
        cases 8 - acc.length <;> rfl
      rw [hl, List.reverse_nil, List.nil_append] at he
      subst he
      refine Tri.at (by first | (simp only [hz', Con.start, go_sem]; rfl) | rfl) ?_
      repeat (first | ((first | refine Tri.seq (Tri.regT (cfgKX1_ok.pins _) ?_) | refine Tri.rgnT (cfgKX1_ok.pins _) ?_); (repeat (first | refine RunT.oneA (hp := by simp (maxSteps := 2000000) (disch := first | decide | omega | (simp only [List.length_append, List.length_cons, List.length_nil, List.length_take, List.length_drop]; omega)) only [hz', go_sem]; rfl) (h := ?_) | refine RunT.notA (h := ?_))); refine RunT.nil ?_; try simp only [InBlock, Then]) | ((first | refine Tri.seq (Tri.drwT (mixed) (cfgKX1_ok.pins _) ?_) | refine Tri.drnT (mixed) (cfgKX1_ok.pins _) ?_); (repeat (first | refine RunD.oneA (hp := by simp (maxSteps := 2000000) (disch := first | decide | omega | (simp only [List.length_append, List.length_cons, List.length_nil, List.length_take, List.length_drop]; omega)) only [hz', go_sem]; rfl) (h := ?_) | refine RunD.notA (h := ?_))); refine RunD.nil ?_; refine ⟨by kernel_rfl, ?_⟩; try simp only [InBlock, Then]) | refine Tri.cF (by first | (simp only [hz', go_sem]; done) | fail) ?_ | refine Tri.cT (by first | (simp only [hz', go_sem]; done) | fail) ?_ | (refine Tri.skip ?_; try simp only [InBlock, Then]) | (refine Tri.exit ?_; simp only [Then, InBlock, if_true, if_false, ↓reduceIte, Nat.reduceEqDiff]) | refine Tri.seq (Tri.block ?_) | refine Tri.block ?_ | refine Tri.seq ?_ | (refine Tri.ret ?_; refine Con.fin (.inl rfl) (by simp only [Tryd.f78, cfgKX1, resA, resA1, go_sem]; rfl) (by simp only [Obs, and_true, true_and]) (by first | (simp only [kRNum, Con.of, Con.ofO, resV, hz', go_sem]; done) | fail) trivial rfl rfl))
    · have hz' : decide ((0 : UInt64) < n) = true := by
        refine decide_eq_true ?_
        rw [UInt64.lt_iff_toNat_lt]
        have : n.toNat ≠ 0 := fun e => hz (UInt64.toNat_inj.1 e)
        show 0 < n.toNat
        omega
      obtain ⟨k, hk⟩ : ∃ k, 8 - acc.length = k + 1 := by
        cases h8 : 8 - acc.length with
        | zero => rw [h8] at hn; have : n.toNat = 0 := by simpa using hn
                  exact absurd (UInt64.toNat_inj.1 this) hz
        | succ k => exact ⟨k, rfl⟩
      have q1 := (u64_256 n).1
      have q2 := (u64_256 n).2
      have q3 := u8_256 n
      have q4 : List.take (1 + acc.length) (n.toUInt8 :: acc) = n.toUInt8 :: acc := List.take_of_length_le (by rw [List.length_cons]; omega)
      refine Tri.at (by first | (simp only [hz', q1, q2, q3, q4, Con.start, go_sem]; rfl) | rfl) ?_
      iterate 6 (first | ((first | refine Tri.seq (Tri.regT (cfgKX1_ok.pins _) ?_) | refine Tri.rgnT (cfgKX1_ok.pins _) ?_); (repeat (first | refine RunT.oneA (hp := by simp (maxSteps := 2000000) (disch := first | decide | omega | (simp only [List.length_append, List.length_cons, List.length_nil, List.length_take, List.length_drop]; omega)) only [hz', q1, q2, q3, q4, go_sem]; rfl) (h := ?_) | refine RunT.notA (h := ?_))); refine RunT.nil ?_; try simp only [InBlock, Then]) | ((first | refine Tri.seq (Tri.drwT (mixed) (cfgKX1_ok.pins _) ?_) | refine Tri.drnT (mixed) (cfgKX1_ok.pins _) ?_); (repeat (first | refine RunD.oneA (hp := by simp (maxSteps := 2000000) (disch := first | decide | omega | (simp only [List.length_append, List.length_cons, List.length_nil, List.length_take, List.length_drop]; omega)) only [hz', q1, q2, q3, q4, go_sem]; rfl) (h := ?_) | refine RunD.notA (h := ?_))); refine RunD.nil ?_; refine ⟨by kernel_rfl, ?_⟩; try simp only [InBlock, Then]) | refine Tri.cF (by first | (simp only [hz', q1, q2, q3, q4, go_sem]; done) | fail) ?_ | refine Tri.cT (by first | (simp only [hz', q1, q2, q3, q4, go_sem]; done) | fail) ?_ | (refine Tri.skip ?_; try simp only [InBlock, Then]) | (refine Tri.exit ?_; simp only [Then, InBlock, if_true, if_false, ↓reduceIte, Nat.reduceEqDiff]) | refine Tri.seq (Tri.block ?_) | refine Tri.block ?_ | refine Tri.seq ?_ | (refine Tri.ret ?_; refine Con.fin (.inl rfl) (by simp only [Tryd.f78, cfgKX1, resA, resA1, go_sem]; rfl) (by simp only [Obs, and_true, true_and]) (by first | (simp only [kRNum, Con.of, Con.ofO, resV, hz', q1, q2, q3, q4, go_sem]; done) | fail) trivial rfl rfl))
      refine Tri.rel true 0 rfl ?_ rfl rfl ?_
      · simp only [AS.blk, go_sem]
        repeat' constructor
      refine Tri.at (by first | (simp only [hz', q1, q2, q3, q4, Con.start, go_sem]; rfl) | rfl) ?_
      repeat (first | ((first | refine Tri.seq (Tri.regT (cfgKX1_ok.pins _) ?_) | refine Tri.rgnT (cfgKX1_ok.pins _) ?_); (repeat (first | refine RunT.oneA (hp := by simp (maxSteps := 2000000) (disch := first | decide | omega | (simp only [List.length_append, List.length_cons, List.length_nil, List.length_take, List.length_drop]; omega)) only [hz', q1, q2, q3, q4, go_sem]; rfl) (h := ?_) | refine RunT.notA (h := ?_))); refine RunT.nil ?_; try simp only [InBlock, Then]) | ((first | refine Tri.seq (Tri.drwT (mixed) (cfgKX1_ok.pins _) ?_) | refine Tri.drnT (mixed) (cfgKX1_ok.pins _) ?_); (repeat (first | refine RunD.oneA (hp := by simp (maxSteps := 2000000) (disch := first | decide | omega | (simp only [List.length_append, List.length_cons, List.length_nil, List.length_take, List.length_drop]; omega)) only [hz', q1, q2, q3, q4, go_sem]; rfl) (h := ?_) | refine RunD.notA (h := ?_))); refine RunD.nil ?_; refine ⟨by kernel_rfl, ?_⟩; try simp only [InBlock, Then]) | refine Tri.cF (by first | (simp only [hz', q1, q2, q3, q4, go_sem]; done) | fail) ?_ | refine Tri.cT (by first | (simp only [hz', q1, q2, q3, q4, go_sem]; done) | fail) ?_ | (refine Tri.skip ?_; try simp only [InBlock, Then]) | (refine Tri.exit ?_; simp only [Then, InBlock, if_true, if_false, ↓reduceIte, Nat.reduceEqDiff]) | refine Tri.seq (Tri.block ?_) | refine Tri.block ?_ | refine Tri.seq ?_ | (refine Tri.ret ?_; refine Con.fin (.inl rfl) (by simp only [Tryd.f78, cfgKX1, resA, resA1, go_sem]; rfl) (by simp only [Obs, and_true, true_and]) (by first | (simp only [kRNum, Con.of, Con.ofO, resV, hz', q1, q2, q3, q4, go_sem]; done) | fail) trivial rfl rfl))
      refine ⟨(n >>> 8, n.toUInt8 :: acc), ⟨?_, ?_, ?_⟩, ?_, Wk.of ?_ ?_ rfl rfl⟩
      · show (n.toUInt8 :: acc).length ≤ 8
        rw [List.length_cons]; omega
      · show (n >>> 8).toNat < 256 ^ (8 - (n.toUInt8 :: acc).length)
        rw [List.length_cons, show 8 - (acc.length + 1) = k by omega]
        exact shr8_lt (by rw [← hk]; exact hn)
      · show (leN (8 - (n.toUInt8 :: acc).length) (n >>> 8)).reverse ++ (n.toUInt8 :: acc) = numS n0
        rw [List.length_cons, show 8 - (acc.length + 1) = k by omega, ← he, hk, leN, if_neg hz, List.reverse_cons, List.append_assoc]
        rfl
      · show 8 - (n.toUInt8 :: acc).length < 8 - acc.length
        rw [List.length_cons]; omega
      · simp only [lessTs, List.reduceReplicate, List.cons_append, List.nil_append] <;> ((repeat' apply And.intro) <;> first | with_reducible rfl | exact True.intro | exact congrArg (fun z : Int => some (AV.int IntKind.i64 z)) (show (_ : Int) = _ by omega) | exact congrArg (fun z : Nat => some (AV.tsl _ _ _ _ _ z)) (show (_ : Nat) = _ by omega) | exact arrEq (by omega) (by with_reducible rfl))
      · simp only [lessTs, List.reduceReplicate, List.cons_append, List.nil_append] <;> ((repeat' apply And.intro) <;> first | with_reducible rfl | exact True.intro | exact congrArg (fun z : Int => some (AV.int IntKind.i64 z)) (show (_ : Int) = _ by omega) | exact congrArg (fun z : Nat => some (AV.tsl _ _ _ _ _ z)) (show (_ : Nat) = _ by omega) | exact arrEq (by omega) (by with_reducible rfl))
theorem rnu_sum : FSumOK Tryd.prog cfgKX1.G 78 kRNum.sum := Con.sumOK cfgKX1_ok kRNum Tryd.func78 rfl rfl (Con.of_inv _ _ _) rnu_body
end
def rflB (t : Int) (v : List UInt8) : List UInt8 := [UInt8.ofInt t, UInt8.ofInt ((v.length / 256 : Nat) : Int), UInt8.ofInt ((v.length % 256 : Nat) : Int)] ++ v
def kRFld : Con := Con.of [.v (.int .i64), .v (.slice true (.int .u8))] (fun x => [List.length (α := UInt8) x.2.1 ≤ 1000000]) (fun x => ⟨.pure (.slice true (.int .u8)) (rflB (toI .i64 x.1) x.2.1), []⟩)
section
attribute [local go_sem] Tryd.f62 kRFld cfgKX1 tyTab
theorem rfd_body (p : kRFld.Par) (hp : ∀ q ∈ kRFld.pre p, q) : BodyOK Tryd.prog cfgKX1 Tryd.f62 (Tryd.f62.body.get rfl) kRFld p := by
  obtain ⟨(t : Int), (v : List UInt8), u⟩ := p
  obtain ⟨h0, _⟩ := Obs.of hp
  replace h0 : v.length ≤ 1000000 := h0
  refine ⟨?_, Nat.zero_le _, rfl, rfl⟩
  show Tri _ _ _ (Code.seq _ (Code.seq _ (Code.seq _ _))) _
  have t3 : List.take 3 [UInt8.ofInt t, UInt8.ofInt ((v.length / 256 : Nat) : Int), UInt8.ofInt ((v.length % 256 : Nat) : Int)] = [UInt8.ofInt t, UInt8.ofInt ((v.length / 256 : Nat) : Int), UInt8.ofInt ((v.length % 256 : Nat) : Int)] := rfl
  have t4 : List.take (3 + v.length) (UInt8.ofInt t :: UInt8.ofInt ((v.length / 256 : Nat) : Int) :: UInt8.ofInt ((v.length % 256 : Nat) : Int) :: v) = rflB t v := List.take_of_length_le (by simp only [List.length_cons]; omega)
  refine Tri.at (by first | (simp only [t3, Con.start, go_sem]; rfl) | rfl) ?_
  repeat (first | ((first | refine Tri.seq (Tri.regT (cfgKX1_ok.pins _) ?_) | refine Tri.rgnT (cfgKX1_ok.pins _) ?_); (repeat (first | refine RunT.oneA (hp := by simp (maxSteps := 2000000) (disch := first | decide | omega | (simp only [List.length_append, List.length_cons, List.length_nil, List.length_take, List.length_drop]; omega)) only [t3, go_sem]; rfl) (h := ?_) | refine RunT.notA (h := ?_))); refine RunT.nil ?_; try simp only [InBlock, Then]) | ((first | refine Tri.seq (Tri.drwT (mixed) (cfgKX1_ok.pins _) ?_) | refine Tri.drnT (mixed) (cfgKX1_ok.pins _) ?_); (repeat (first | refine RunD.oneA (hp := by simp (maxSteps := 2000000) (disch := first | decide | omega | (simp only [List.length_append, List.length_cons, List.length_nil, List.length_take, List.length_drop]; omega)) only [t3, go_sem]; rfl) (h := ?_) | refine RunD.notA (h := ?_))); refine RunD.nil ?_; refine ⟨by kernel_rfl, ?_⟩; try simp only [InBlock, Then]) | refine Tri.cF (by first | (simp only [t3, go_sem]; done) | fail) ?_ | refine Tri.cT (by first | (simp only [t3, go_sem]; done) | fail) ?_ | (refine Tri.skip ?_; try simp only [InBlock, Then]) | (refine Tri.exit ?_; simp only [Then, InBlock, if_true, if_false, ↓reduceIte, Nat.reduceEqDiff]) | refine Tri.seq (Tri.block ?_) | refine Tri.block ?_ | refine Tri.seq ?_ | (refine Tri.ret ?_; refine Con.fin (.inl rfl) (by simp only [Tryd.f62, cfgKX1, resA, resA1, go_sem]; rfl) (by simp only [Obs, and_true, true_and]) (by first | (simp only [kRFld, Con.of, Con.ofO, resV, t3, go_sem]; done) | fail) trivial rfl rfl))
  refine Tri.rel true 0 rfl ?_ rfl rfl ?_
  · simp only [AS.blk, go_sem]
    repeat' constructor
  refine Tri.at (by first | (simp only [t4, Con.start, go_sem]; rfl) | rfl) ?_
  refine Tri.ret ?_
  refine Con.fin (.inl rfl) (by simp only [Tryd.f62, cfgKX1, resA, resA1, go_sem]; rfl) (by simp only [Obs, and_true, true_and]) ?_ ?_ rfl rfl
  · rfl
  · exact True.intro
theorem rfd_sum : FSumOK Tryd.prog cfgKX1.G 62 kRFld.sum := Con.sumOK cfgKX1_ok kRFld Tryd.func62 rfl rfl (Con.of_inv _ _ _) rfd_body
end
theorem rfl_flB {t : Int} {v : List UInt8} (h : v.length ≤ 65535) : rflB t v = flBK ((t, v, ()) : flK.T) := by
  have e1 : UInt8.ofInt (shrT .i64 ((v.length : Nat) : Int) 8) = UInt8.ofInt ((v.length / 256 : Nat) : Int) := by rw [shr8i]
  have e2 : UInt8.ofInt ((v.length % 256 : Nat) : Int) = UInt8.ofInt ((v.length : Nat) : Int) := by
    apply UInt8.toNat_inj.1
    rw [ofInt8 _ (by omega), ofInt8 _ (by omega)]
    omega
  show [UInt8.ofInt t, UInt8.ofInt ((v.length / 256 : Nat) : Int), UInt8.ofInt ((v.length % 256 : Nat) : Int)] ++ v = [UInt8.ofInt t, UInt8.ofInt (shrT .i64 ((v.length : Nat) : Int) 8), UInt8.ofInt ((v.length : Nat) : Int)] ++ v
  rw [e1, e2]
def kRNmd : Con := Con.of [.v .str] (fun x => [List.length (α := UInt8) x.1 ≤ 1000000000]) (fun x => ⟨.bool (rgS (pwS x.1)), []⟩)
def cfgKY1 : Cfg2 := { ty := tyTab, fn := fun | 28 => some kPrsR.sum | _ => none, G := gNone, pin := [], eq := fun _ => none }
theorem cfgKY1_ok : CfgOK Tryd.prog cfgKY1 := ⟨tysOK, (fun f s h => by
  simp only [cfgKY1] at h
  split at h
  · injection h with h; subst h; exact .inl prsR_sum
  · cases h), (fun t d h => by cases h)⟩
section
attribute [local go_sem] Tryd.f91 kRNmd kPrsR cfgKY1 tyTab
theorem rnd_body (p : kRNmd.Par) (hp : ∀ q ∈ kRNmd.pre p, q) : BodyOK Tryd.prog cfgKY1 Tryd.f91 (Tryd.f91.body.get rfl) kRNmd p := by
  obtain ⟨(s : List UInt8), u⟩ := p
  obtain ⟨h0, _⟩ := Obs.of hp
  replace h0 : s.length ≤ 1000000000 := h0
  refine ⟨?_, Nat.zero_le _, rfl, rfl⟩
  show Tri _ _ _ (Code.seq _ (Code.seq _ (Code.seq _ _))) _
  cases hr : rgS (pwS s) with
  | false =>
    have e2 : prR s = .agg [.nilsl, .str []] := by rw [prR, hr]; rfl
    refine Tri.at (by first | (simp only [hr, e2, Con.start, go_sem]; rfl) | rfl) ?_
    repeat (first | ((first | refine Tri.seq (Tri.regT (cfgKY1_ok.pins _) ?_) | refine Tri.rgnT (cfgKY1_ok.pins _) ?_); (repeat (first | refine RunT.oneA (hp := by simp (maxSteps := 2000000) (disch := first | decide | omega | (simp only [List.length_append, List.length_cons, List.length_nil, List.length_take, List.length_drop]; omega)) only [hr, e2, go_sem]; rfl) (h := ?_) | refine RunT.notA (h := ?_))); refine RunT.nil ?_; try simp only [InBlock, Then]) | refine Tri.cF (by first | (simp only [hr, e2, go_sem]; done) | fail) ?_ | refine Tri.cT (by first | (simp only [hr, e2, go_sem]; done) | fail) ?_ | (refine Tri.skip ?_; try simp only [InBlock, Then]) | (refine Tri.exit ?_; simp only [Then, InBlock, if_true, if_false, ↓reduceIte, Nat.reduceEqDiff]) | refine Tri.seq (Tri.block ?_) | refine Tri.block ?_ | refine Tri.seq ?_ | (refine Tri.ret ?_; refine Con.fin (.inl rfl) (by simp only [Tryd.f91, cfgKY1, resA, resA1, go_sem]; rfl) (by simp only [Obs, and_true, true_and]) (by first | (simp only [kRNmd, Con.of, Con.ofO, resV, hr, e2, go_sem]; done) | fail) trivial rfl rfl))
  | true =>
    have e2 : prR s = .agg [.pure (.slice true .str) (splS 47 (cutA s 64)), .str (cutR s 64)] := by rw [prR, hr]; rfl
    refine Tri.at (by first | (simp only [hr, e2, Con.start, go_sem]; rfl) | rfl) ?_
    repeat (first | ((first | refine Tri.seq (Tri.regT (cfgKY1_ok.pins _) ?_) | refine Tri.rgnT (cfgKY1_ok.pins _) ?_); (repeat (first | refine RunT.oneA (hp := by simp (maxSteps := 2000000) (disch := first | decide | omega | (simp only [List.length_append, List.length_cons, List.length_nil, List.length_take, List.length_drop]; omega)) only [hr, e2, go_sem]; rfl) (h := ?_) | refine RunT.notA (h := ?_))); refine RunT.nil ?_; try simp only [InBlock, Then]) | refine Tri.cF (by first | (simp only [hr, e2, go_sem]; done) | fail) ?_ | refine Tri.cT (by first | (simp only [hr, e2, go_sem]; done) | fail) ?_ | (refine Tri.skip ?_; try simp only [InBlock, Then]) | (refine Tri.exit ?_; simp only [Then, InBlock, if_true, if_false, ↓reduceIte, Nat.reduceEqDiff]) | refine Tri.seq (Tri.block ?_) | refine Tri.block ?_ | refine Tri.seq ?_ | (refine Tri.ret ?_; refine Con.fin (.inl rfl) (by simp only [Tryd.f91, cfgKY1, resA, resA1, go_sem]; rfl) (by simp only [Obs, and_true, true_and]) (by first | (simp only [kRNmd, Con.of, Con.ofO, resV, hr, e2, go_sem]; done) | fail) trivial rfl rfl))
theorem rnd_sum : FSumOK Tryd.prog cfgKY1.G 91 kRNmd.sum := Con.sumOK cfgKY1_ok kRNmd Tryd.func91 rfl rfl (Con.of_inv _ _ _) rnd_body
end
end Go.Proofs.YtjdeaphfamenaaaDoor

namespace Go.Proofs.YtjdeaphfamenaaaDoor
open Go.Vc Go.Proofs
set_option maxRecDepth 10000
set_option maxHeartbeats 4000000
def kRFt : Con := Con.of [.v (.int .i64), .v (.slice false (.int .u8))] (fun x => [List.length (α := UInt8) x.2.1 ≤ 1000000]) (fun x => ⟨.tsl 0 [] 0 0 1 (rflB (toI .i64 x.1) x.2.1).length, [.pure (.arr (rflB (toI .i64 x.1) x.2.1).length (.int .u8)) (rflB (toI .i64 x.1) x.2.1)]⟩)
theorem rfl_len (t : Int) (v : List UInt8) : (rflB t v).length = 3 + v.length := by rw [rflB, List.length_append]; rfl
def cfgTB1 : Cfg2 := { ty := tyTab, fn := fun  | _ => none, G := gNone, pin := [], eq := fun _ => none }
theorem cfgTB1_ok : CfgOK Tryd.prog cfgTB1 := ⟨tysOK, (fun f s h => by cases h), (fun t d h => by cases h)⟩
section
attribute [local go_sem] Tryd.f62 kRFt cfgTB1 tyTab
theorem rft_body (p : kRFt.Par) (hp : ∀ q ∈ kRFt.pre p, q) : BodyOK Tryd.prog cfgTB1 Tryd.f62 (Tryd.f62.body.get rfl) kRFt p := by
  obtain ⟨(t : Int), (v : List UInt8), u⟩ := p
  obtain ⟨h0, _⟩ := Obs.of hp
  replace h0 : v.length ≤ 1000000 := h0
  refine ⟨?_, Nat.zero_le _, rfl, rfl⟩
  show Tri _ _ _ (Code.seq _ (Code.seq _ (Code.seq _ _))) _
  have t3 : List.take 3 [UInt8.ofInt t, UInt8.ofInt ((v.length / 256 : Nat) : Int), UInt8.ofInt ((v.length % 256 : Nat) : Int)] = [UInt8.ofInt t, UInt8.ofInt ((v.length / 256 : Nat) : Int), UInt8.ofInt ((v.length % 256 : Nat) : Int)] := rfl
  refine Tri.at (by first | (simp only [t3, Con.start, go_sem]; rfl) | rfl) ?_
  repeat (first | ((first | refine Tri.seq (Tri.regT (cfgTB1_ok.pins _) ?_) | refine Tri.rgnT (cfgTB1_ok.pins _) ?_); (repeat (first | refine RunT.oneA (hp := by simp (maxSteps := 2000000) (disch := first | decide | omega | (simp only [List.length_append, List.length_cons, List.length_nil, List.length_take, List.length_drop]; omega)) only [t3, go_sem]; rfl) (h := ?_) | refine RunT.notA (h := ?_))); refine RunT.nil ?_; try simp only [InBlock, Then]) | ((first | refine Tri.seq (Tri.drwT (mixed) (cfgTB1_ok.pins _) ?_) | refine Tri.drnT (mixed) (cfgTB1_ok.pins _) ?_); (repeat (first | refine RunD.oneA (hp := by simp (maxSteps := 2000000) (disch := first | decide | omega | (simp only [List.length_append, List.length_cons, List.length_nil, List.length_take, List.length_drop]; omega)) only [t3, go_sem]; rfl) (h := ?_) | refine RunD.notA (h := ?_))); refine RunD.nil ?_; refine ⟨by kernel_rfl, ?_⟩; try simp only [InBlock, Then]) | refine Tri.cF (by first | (simp only [t3, go_sem]; done) | fail) ?_ | refine Tri.cT (by first | (simp only [t3, go_sem]; done) | fail) ?_ | (refine Tri.skip ?_; try simp only [InBlock, Then]) | (refine Tri.exit ?_; simp only [Then, InBlock, if_true, if_false, ↓reduceIte, Nat.reduceEqDiff]) | refine Tri.seq (Tri.block ?_) | refine Tri.block ?_ | refine Tri.seq ?_ | (refine Tri.ret ?_; refine Con.fin (.inl rfl) (by simp only [Tryd.f62, cfgTB1, resA, resA1, go_sem]; rfl) (by simp only [Obs, and_true, true_and]) (by first | (simp only [kRFt, Con.of, Con.ofO, resV, t3, go_sem]; done) | fail) trivial rfl rfl))
  refine Tri.ret ?_
  refine Con.fin (.inl rfl) (by simp only [Tryd.f62, cfgTB1, resA, resA1, go_sem]; rfl) (by simp only [Obs, and_true, true_and]) ?_ ?_ rfl rfl
  · show AV.tsl 0 [] 0 0 1 (3 + v.length) = AV.tsl 0 [] 0 0 1 (rflB t v).length
    rw [rfl_len]
  · exact ⟨arrEq (rfl_len t v).symm rfl, trivial⟩
theorem rft_sum : FSumOK Tryd.prog cfgTB1.G 62 kRFt.sum := Con.sumOK cfgTB1_ok kRFt Tryd.func62 rfl rfl (Con.of_inv _ _ _) rft_body
end
def kRn : Con := Con.of [.v (.int .i64), .v (.int .u64)] (fun _ => []) (fun x => ⟨.tsl 0 [] 0 0 1 (rflB (toI .i64 x.1) (numS x.2.1)).length, [.pure (.arr (rflB (toI .i64 x.1) (numS x.2.1)).length (.int .u8)) (rflB (toI .i64 x.1) (numS x.2.1))]⟩)
def cfgTB2 : Cfg2 := { ty := tyTab, fn := fun | 78 => some kRNum.sum | 62 => some kRFt.sum | _ => none, G := gNone, pin := [], eq := fun _ => none }
theorem cfgTB2_ok : CfgOK Tryd.prog cfgTB2 := ⟨tysOK, (fun f s h => by
  simp only [cfgTB2] at h
  split at h
  · injection h with h; subst h; exact .inl rnu_sum
  · injection h with h; subst h; exact .inl rft_sum
  · cases h), (fun t d h => by cases h)⟩
section
attribute [local go_sem] Tryd.f63 kRn kRNum kRFt cfgTB2 tyTab
theorem rn_body (p : kRn.Par) (hp : ∀ q ∈ kRn.pre p, q) : BodyOK Tryd.prog cfgTB2 Tryd.f63 (Tryd.f63.body.get rfl) kRn p := by
  obtain ⟨(t : Int), (n : UInt64), u⟩ := p
  refine ⟨?_, Nat.zero_le _, rfl, rfl⟩
  show Tri _ _ _ (Code.seq _ (Code.seq _ _)) _
  have n1 := numS_len n
  refine Tri.at (by first | (simp only [go_sem, Con.start, go_sem]; rfl) | rfl) ?_
  repeat (first | ((first | refine Tri.seq (Tri.regT (cfgTB2_ok.pins _) ?_) | refine Tri.rgnT (cfgTB2_ok.pins _) ?_); (repeat (first | refine RunT.oneA (hp := by simp (maxSteps := 2000000) (disch := first | decide | omega | (simp only [List.length_append, List.length_cons, List.length_nil, List.length_take, List.length_drop]; omega)) only [go_sem, go_sem]; rfl) (h := ?_) | refine RunT.notA (h := ?_))); refine RunT.nil ?_; try simp only [InBlock, Then]) | refine Tri.cF (by first | (simp only [go_sem, go_sem]; done) | fail) ?_ | refine Tri.cT (by first | (simp only [go_sem, go_sem]; done) | fail) ?_ | (refine Tri.skip ?_; try simp only [InBlock, Then]) | (refine Tri.exit ?_; simp only [Then, InBlock, if_true, if_false, ↓reduceIte, Nat.reduceEqDiff]) | refine Tri.seq (Tri.block ?_) | refine Tri.block ?_ | refine Tri.seq ?_ | (refine Tri.ret ?_; refine Con.fin (.inl rfl) (by simp only [Tryd.f63, cfgTB2, resA, resA1, go_sem]; rfl) (by simp only [Obs, and_true, true_and]) (by first | (simp only [kRn, Con.of, Con.ofO, resV, go_sem, go_sem]; done) | fail) trivial rfl rfl))
  refine Tri.ret ?_
  refine Con.fin (.inl rfl) (by simp only [Tryd.f63, cfgTB2, resA, resA1, go_sem]; rfl) (by simp only [Obs, and_true, true_and]) ?_ ?_ rfl rfl
  · rfl
  · exact ⟨rfl, trivial⟩
theorem rn_sum : FSumOK Tryd.prog cfgTB2.G 63 kRn.sum := Con.sumOK cfgTB2_ok kRn Tryd.func63 rfl rfl (Con.of_inv _ _ _) rn_body
end
def kRa : Con := Con.of [.v auK] (fun x => [List.length (α := UInt8) x.1.1 ≤ 1000000000]) (fun x => ⟨.bool (waR x.1), []⟩)
def cfgTB3 : Cfg2 := { ty := tyTabA, fn := fun | 91 => some kRNmd.sum | _ => none, G := gNone, pin := [], eq := fun _ => none }
theorem cfgTB3_ok : CfgOK Tryd.prog cfgTB3 := ⟨tyTabA_ok, (fun f s h => by
  simp only [cfgTB3] at h
  split at h
  · injection h with h; subst h; exact .inl rnd_sum
  · cases h), (fun t d h => by cases h)⟩
section
attribute [local go_sem] Tryd.f61 kRa kRNmd cfgTB3 tyTabA tyTabT tyTab
theorem rau_body (p : kRa.Par) (hp : ∀ q ∈ kRa.pre p, q) : BodyOK Tryd.prog cfgTB3 Tryd.f61 (Tryd.f61.body.get rfl) kRa p := by
  obtain ⟨⟨(c : List UInt8), (ti : Int), (no : UInt64), (k : List UInt8), u1⟩, u⟩ := p
  obtain ⟨h0, _⟩ := Obs.of hp
  replace h0 : c.length ≤ 1000000000 := h0
  refine ⟨?_, Nat.zero_le _, rfl, rfl⟩
  show Tri _ _ _ (Code.seq _ (Code.seq _ _)) _
  have e0 : waR (c, ti, no, k, u1) = (rgS (pwS c) && (!decide (ti < 0) && !decide ((1099511627776 : Int) < ti))) := rfl
  cases b1 : rgS (pwS c)
  all_goals cases b2 : decide (ti < 0)
  all_goals cases b3 : decide ((1099511627776 : Int) < ti)
  all_goals
    rw [b1, b2, b3] at e0
    refine Tri.at (by first | (simp only [b1, b2, b3, e0, Con.start, go_sem]; rfl) | rfl) ?_
    repeat (first | ((first | refine Tri.seq (Tri.regT (cfgTB3_ok.pins _) ?_) | refine Tri.rgnT (cfgTB3_ok.pins _) ?_); (repeat (first | refine RunT.oneA (hp := by simp (maxSteps := 2000000) (disch := first | decide | omega | (simp only [List.length_append, List.length_cons, List.length_nil, List.length_take, List.length_drop]; omega)) only [b1, b2, b3, e0, go_sem]; rfl) (h := ?_) | refine RunT.notA (h := ?_))); refine RunT.nil ?_; try simp only [InBlock, Then]) | refine Tri.cF (by first | (simp only [b1, b2, b3, e0, go_sem]; done) | fail) ?_ | refine Tri.cT (by first | (simp only [b1, b2, b3, e0, go_sem]; done) | fail) ?_ | (refine Tri.skip ?_; try simp only [InBlock, Then]) | (refine Tri.exit ?_; simp only [Then, InBlock, if_true, if_false, ↓reduceIte, Nat.reduceEqDiff]) | refine Tri.seq (Tri.block ?_) | refine Tri.block ?_ | refine Tri.seq ?_ | (refine Tri.ret ?_; refine Con.fin (.inl rfl) (by simp only [Tryd.f61, cfgTB3, resA, resA1, go_sem]; rfl) (by simp only [Obs, and_true, true_and]) (by first | (simp only [kRa, Con.of, Con.ofO, resV, b1, b2, b3, e0, go_sem]; done) | fail) trivial rfl rfl))
theorem rau_sum : FSumOK Tryd.prog cfgTB3.G 61 kRa.sum := Con.sumOK cfgTB3_ok kRa Tryd.func61 rfl rfl (Con.of_inv _ _ _) rau_body
end
def raJ (a : auK.T) : List UInt8 := rflB 11 a.1 ++ rflB 12 (numS (UInt64.ofInt a.2.1)) ++ rflB 13 (numS a.2.2.1) ++ rflB 14 a.2.2.2.1
def raV (a : auK.T) : AV := if waR a = true then .tuple [.pure (.slice true (.int .u8)) (raJ a), .int .i64 (0 : Int)] else .tuple [.pure (.slice true (.int .u8)) [], .int .i64 (1 : Int)]
def kRwa : Con := Con.of [.v auK] (fun x => [List.length (α := UInt8) x.1.1 ≤ 60000, List.length (α := UInt8) x.1.2.2.2.1 = 16]) (fun x => ⟨raV x.1, []⟩)
def cfgTB4 : Cfg2 := { ty := tyTabA, fn := fun | 61 => some kRa.sum | 62 => some kRFt.sum | 63 => some kRn.sum | _ => none, G := gNone, pin := [], eq := fun _ => none }
theorem cfgTB4_ok : CfgOK Tryd.prog cfgTB4 := ⟨tyTabA_ok, (fun f s h => by
  simp only [cfgTB4] at h
  split at h
  · injection h with h; subst h; exact .inl rau_sum
  · injection h with h; subst h; exact .inl rft_sum
  · injection h with h; subst h; exact .inl rn_sum
  · cases h), (fun t d h => by cases h)⟩
section
attribute [local go_sem] Tryd.f38 kRwa kRa kRFt kRn cfgTB4 tyTabA tyTabT tyTab
theorem rwa_body (p : kRwa.Par) (hp : ∀ q ∈ kRwa.pre p, q) : BodyOK Tryd.prog cfgTB4 Tryd.f38 (Tryd.f38.body.get rfl) kRwa p := by
  obtain ⟨⟨(c : List UInt8), (ti : Int), (no : UInt64), (k : List UInt8), u1⟩, u⟩ := p
  obtain ⟨h0, h2, _⟩ := Obs.of hp
  replace h0 : c.length ≤ 60000 := h0
  replace h2 : k.length = 16 := h2
  refine ⟨?_, Nat.zero_le _, (by show (raV (c, ti, no, k, u1)).strict = true; unfold raV; split <;> rfl), rfl⟩
  show Tri _ _ _ (Code.seq _ (Code.seq (Code.seq _ (Code.cond _ (Code.seq _ _) _)) (Code.seq _ (Code.seq _ (Code.seq _ _))))) _
  cases hr : waR (c, ti, no, k, u1) with
  | false =>
    have e1 : raV (c, ti, no, k, u1) = .tuple [.pure (.slice true (.int .u8)) [], .int .i64 (1 : Int)] := by rw [raV, hr]; rfl
    refine Tri.at (by first | (simp only [hr, Con.start, go_sem]; rfl) | rfl) ?_
    repeat (first | ((first | refine Tri.seq (Tri.regT (cfgTB4_ok.pins _) ?_) | refine Tri.rgnT (cfgTB4_ok.pins _) ?_); (repeat (first | refine RunT.oneA (hp := by simp (maxSteps := 2000000) (disch := first | decide | omega | (simp only [List.length_append, List.length_cons, List.length_nil, List.length_take, List.length_drop]; omega)) only [hr, go_sem]; rfl) (h := ?_) | refine RunT.notA (h := ?_))); refine RunT.nil ?_; try simp only [InBlock, Then]) | refine Tri.cF (by first | (simp only [hr, go_sem]; done) | fail) ?_ | refine Tri.cT (by first | (simp only [hr, go_sem]; done) | fail) ?_ | (refine Tri.skip ?_; try simp only [InBlock, Then]) | (refine Tri.exit ?_; simp only [Then, InBlock, if_true, if_false, ↓reduceIte, Nat.reduceEqDiff]) | refine Tri.seq (Tri.block ?_) | refine Tri.block ?_ | refine Tri.seq ?_ | (refine Tri.ret ?_; refine Con.fin (.inl rfl) (by simp only [Tryd.f38, cfgTB4, resA, resA1, go_sem]; rfl) (by simp only [Obs, and_true, true_and]) (by first | (simp only [kRwa, Con.of, Con.ofO, resV, hr, go_sem]; done) | fail) trivial rfl rfl))
    refine Tri.rel true 1 rfl ?_ rfl rfl ?_
    · simp only [AS.blk, go_sem]
      repeat' constructor
    refine Tri.at (by first | (simp only [hr, Con.start, go_sem]; rfl) | rfl) ?_
    refine Tri.ret ?_
    refine Con.fin (.inl rfl) (by simp only [Tryd.f38, cfgTB4, resA, resA1, go_sem]; rfl) (by simp only [Obs, and_true, true_and]) ?_ ?_ ?_ rfl
    · exact e1.symm
    · exact True.intro
    · show (AS.mk [some (raV (c, ti, no, k, u1))] []).closed = true
      rw [e1]; rfl
  | true =>
    have e1 : raV (c, ti, no, k, u1) = .tuple [.pure (.slice true (.int .u8)) (rflB 11 c ++ rflB 12 (numS (UInt64.ofInt ti)) ++ rflB 13 (numS no) ++ rflB 14 k), .int .i64 (0 : Int)] := by rw [raV, hr]; rfl
    have g1 := rfl_len 11 c
    have g2 := rfl_len 12 (numS (UInt64.ofInt ti))
    have g3 := rfl_len 13 (numS no)
    have g4 := rfl_len 14 k
    have n1 := numS_len (UInt64.ofInt ti)
    have n2 := numS_len no
    have tk : ∀ l : List UInt8, List.take l.length l = l := fun l => List.take_length
    have tk16 : List.take 16 k = k := List.take_of_length_le (by omega)
    generalize hB2 : rflB 12 (numS (UInt64.ofInt ti)) = B2 at *
    generalize hB3 : rflB 13 (numS no) = B3 at *
    generalize hB1 : rflB 11 c = B1 at *
    generalize hB4 : rflB 14 k = B4 at *
    have tA : List.take (B1.length + B2.length) (B1 ++ B2) = B1 ++ B2 := List.take_of_length_le (by rw [List.length_append]; exact Nat.le_refl _)
    have tB : List.take (B1.length + B2.length + B3.length) (B1 ++ B2 ++ B3) = B1 ++ B2 ++ B3 := List.take_of_length_le (by simp only [List.length_append]; exact Nat.le_refl _)
    have tC : List.take (B1.length + B2.length + B3.length + B4.length) (B1 ++ B2 ++ B3 ++ B4) = B1 ++ B2 ++ B3 ++ B4 := List.take_of_length_le (by simp only [List.length_append]; exact Nat.le_refl _)
    have l1 : (rflB 11 c).length = B1.length := by rw [hB1]
    have l2 : (rflB 12 (numS (UInt64.ofInt ti))).length = B2.length := by rw [hB2]
    have l3 : (rflB 13 (numS no)).length = B3.length := by rw [hB3]
    have l4 : (rflB 14 k).length = B4.length := by rw [hB4]
    refine Tri.at (by first | (simp only [hr, tk, tk16, h2, hB1, hB2, hB3, hB4, tA, tB, Con.start, go_sem]; rfl) | rfl) ?_
    repeat (first | ((first | refine Tri.seq (Tri.regT (cfgTB4_ok.pins _) ?_) | refine Tri.rgnT (cfgTB4_ok.pins _) ?_); (repeat (first | refine RunT.oneA (hp := by simp (maxSteps := 2000000) (disch := first | decide | omega | (simp only [List.length_append, List.length_cons, List.length_nil, List.length_take, List.length_drop]; omega)) only [hr, tk, tk16, h2, hB1, hB2, hB3, hB4, tA, tB, go_sem]; rfl) (h := ?_) | refine RunT.notA (h := ?_))); refine RunT.nil ?_; try simp only [InBlock, Then]) | ((first | refine Tri.seq (Tri.drwT (mixed) (cfgTB4_ok.pins _) ?_) | refine Tri.drnT (mixed) (cfgTB4_ok.pins _) ?_); (repeat (first | refine RunD.oneA (hp := by simp (maxSteps := 2000000) (disch := first | decide | omega | (simp only [List.length_append, List.length_cons, List.length_nil, List.length_take, List.length_drop]; omega)) only [hr, tk, tk16, h2, hB1, hB2, hB3, hB4, tA, tB, go_sem]; rfl) (h := ?_) | refine RunD.notA (h := ?_))); refine RunD.nil ?_; refine ⟨by kernel_rfl, ?_⟩; try simp only [InBlock, Then]) | refine Tri.cF (by first | (simp only [hr, tk, tk16, h2, hB1, hB2, hB3, hB4, tA, tB, go_sem]; done) | fail) ?_ | refine Tri.cT (by first | (simp only [hr, tk, tk16, h2, hB1, hB2, hB3, hB4, tA, tB, go_sem]; done) | fail) ?_ | (refine Tri.skip ?_; try simp only [InBlock, Then]) | (refine Tri.exit ?_; simp only [Then, InBlock, if_true, if_false, ↓reduceIte, Nat.reduceEqDiff]) | refine Tri.seq (Tri.block ?_) | refine Tri.block ?_ | refine Tri.seq ?_ | (refine Tri.ret ?_; refine Con.fin (.inl rfl) (by simp only [Tryd.f38, cfgTB4, resA, resA1, go_sem]; rfl) (by simp only [Obs, and_true, true_and]) (by first | (simp only [kRwa, Con.of, Con.ofO, resV, hr, tk, tk16, h2, hB1, hB2, hB3, hB4, tA, tB, go_sem]; done) | fail) trivial rfl rfl))
    refine Tri.rel true 2 rfl ?_ rfl rfl ?_
    · simp only [AS.blk, go_sem]
      repeat' constructor
    refine Tri.at (by first | (simp only [tC, Con.start, go_sem]; rfl) | rfl) ?_
    refine Tri.ret ?_
    refine Con.fin (.inl rfl) (by simp only [Tryd.f38, cfgTB4, resA, resA1, go_sem]; rfl) (by simp only [Obs, and_true, true_and]) ?_ ?_ ?_ rfl
    · exact e1.symm
    · exact True.intro
    · show (AS.mk [some (raV (c, ti, no, k, u1))] []).closed = true
      rw [e1]; rfl
theorem rwa_sum : FSumOK Tryd.prog cfgTB4.G 38 kRwa.sum := Con.sumOK cfgTB4_ok kRwa Tryd.func38 rfl rfl (Con.of_inv _ _ _) rwa_body
end
theorem ra_eq {a : auK.T} (h : waR a = true) (hk : List.length (α := UInt8) a.2.2.2.1 = 16) : raJ a = jnF (tgF 11 (waL a)) := by
  obtain ⟨(c : List UInt8), (ti : Int), (no : UInt64), (k : List UInt8), u1⟩ := a
  replace hk : k.length = 16 := hk
  have h1 : rgS (pwS c) = true := by
    have h' : (rgS (pwS c) && (!decide (ti < 0) && !decide ((1099511627776 : Int) < ti))) = true := h
    rw [Bool.and_eq_true] at h'
    exact h'.1
  have g1 := pw_len h1
  have n1 := numS_len (UInt64.ofInt ti)
  have n2 := numS_len no
  have e1 : rflB 11 c = flBK ((11, c, ()) : flK.T) := rfl_flB (by omega)
  have e2 : rflB 12 (numS (UInt64.ofInt ti)) = flBK ((12, numS (UInt64.ofInt ti), ()) : flK.T) := rfl_flB (by omega)
  have e3 : rflB 13 (numS no) = flBK ((13, numS no, ()) : flK.T) := rfl_flB (by omega)
  have e4 : rflB 14 k = flBK ((14, k, ()) : flK.T) := rfl_flB (by omega)
  show rflB 11 c ++ rflB 12 (numS (UInt64.ofInt ti)) ++ rflB 13 (numS no) ++ rflB 14 k = flBK ((11, c, ()) : flK.T) ++ (flBK ((12, numS (UInt64.ofInt ti), ()) : flK.T) ++ (flBK ((13, numS no, ()) : flK.T) ++ (flBK ((14, k, ()) : flK.T) ++ [])))
  rw [e1, e2, e3, e4]
  simp only [List.append_assoc, List.append_nil]
end Go.Proofs.YtjdeaphfamenaaaDoor

namespace Go.Proofs.YtjdeaphfamenaaaDoor
open Go.Vc Go.Proofs
set_option maxRecDepth 10000
set_option maxHeartbeats 4000000
def vwV (v : vsK.T) : AV := .tuple [.pure (.slice true (.slice true (.int .u8))) v.1, .bool (!v.2.1)]
def kVw : Con := Con.of [.v (.slice false (.int .u8)), .v (.int .i64), .v (.int .i64)] (fun x => [List.length (α := UInt8) x.1 ≤ 1000000, 0 ≤ toI .i64 x.2.1, toI .i64 x.2.1 ≤ 1000, 0 ≤ toI .i64 x.2.2.1, toI .i64 x.2.2.1 ≤ 1000]) (fun x => ⟨vwV (vsF x.1 (tgI (toI .i64 x.2.1) (toI .i64 x.2.2.1).toNat)), []⟩)
theorem vr_vs (d : List UInt8) (ts : List Int) : ∃ e : Int, vrV d ts = .tuple [.pure (.slice true (.slice true (.int .u8))) (vsF d ts).1, .int .i64 e] ∧ decide (e = 0) = !(vsF d ts).2.1 := by
  cases hq : spF d.length d [] with
  | mk q e =>
  cases q with
  | none =>
    refine ⟨e, by rw [vrV, vsF, hq], ?_⟩
    rw [vsF, hq]
    rcases spF_err _ _ _ _ hq with h | h <;> (rw [h]; rfl)
  | some fs =>
    cases hx : eqF fs ts with
    | false =>
      refine ⟨21, ?_, ?_⟩
      · rw [vrV, vsF, hq]
        show (if eqF fs ts = true then _ else _) = AV.tuple [.pure _ (if eqF fs ts = true then _ else _ : vsK.T).1, _]
        rw [hx]; rfl
      · rw [vsF, hq]
        show _ = !(if eqF fs ts = true then _ else _ : vsK.T).2.1
        rw [hx]; rfl
    | true =>
      refine ⟨0, ?_, ?_⟩
      · rw [vrV, vsF, hq]
        show (if eqF fs ts = true then _ else _) = AV.tuple [.pure _ (if eqF fs ts = true then _ else _ : vsK.T).1, _]
        rw [hx]; rfl
      · rw [vsF, hq]
        show _ = !(if eqF fs ts = true then _ else _ : vsK.T).2.1
        rw [hx]; rfl
def cfgTH1 : Cfg2 := { ty := tyTabV, fn := fun | 95 => some kVlr.sum | _ => none, G := gNone, pin := [], eq := fun _ => none }
theorem cfgTH1_ok : CfgOK Tryd.prog cfgTH1 := ⟨tyTabV_ok, (fun f s h => by
  simp only [cfgTH1] at h
  split at h
  · injection h with h; subst h; exact .inl vlr_sum
  · cases h), (fun t d h => by cases h)⟩
section
attribute [local go_sem] Tryd.f69 kVw kVlr cfgTH1 tyTabV tyTabM tyTabK tyTab
theorem vw_body (p : kVw.Par) (hp : ∀ q ∈ kVw.pre p, q) : BodyOK Tryd.prog cfgTH1 Tryd.f69 (Tryd.f69.body.get rfl) kVw p := by
  obtain ⟨(d : List UInt8), (f : Int), (c : Int), u⟩ := p
  obtain ⟨h0, h1, h2, h3, h4, _⟩ := Obs.of hp
  replace h0 : d.length ≤ 1000000 := h0
  replace h1 : 0 ≤ f := h1
  replace h2 : f ≤ 1000 := h2
  replace h3 : 0 ≤ c := h3
  replace h4 : c ≤ 1000 := h4
  obtain ⟨n, rfl⟩ : ∃ n : Nat, c = (n : Int) := ⟨c.toNat, by omega⟩
  obtain ⟨g, rfl⟩ : ∃ g : Nat, f = (g : Int) := ⟨f.toNat, by omega⟩
  refine ⟨?_, Nat.zero_le _, rfl, rfl⟩
  show Tri _ _ _ (Code.seq _ (Code.seq _ (Code.seq (Code.seq _ (Code.block _ (Code.loop (Code.seq (Code.seq _ (Code.cond _ _ _)) (Code.seq (Code.block _ _) _))))) (Code.seq _ (Code.seq _ _))))) _
  have htk : ∀ l : List Int, List.take l.length l = l := fun l => List.take_length
  refine Tri.at (by first | (simp only [go_sem, Con.start, go_sem]; rfl) | rfl) ?_
  repeat (first | ((first | refine Tri.seq (Tri.regT (cfgTH1_ok.pins _) ?_) | refine Tri.rgnT (cfgTH1_ok.pins _) ?_); (repeat (first | refine RunT.oneA (hp := by simp (maxSteps := 2000000) (disch := first | decide | omega | (simp only [List.length_append, List.length_cons, List.length_nil, List.length_take, List.length_drop]; omega)) only [go_sem, go_sem]; rfl) (h := ?_) | refine RunT.notA (h := ?_))); refine RunT.nil ?_; try simp only [InBlock, Then]) | refine Tri.cF (by first | (simp only [go_sem, go_sem]; done) | fail) ?_ | refine Tri.cT (by first | (simp only [go_sem, go_sem]; done) | fail) ?_ | (refine Tri.skip ?_; try simp only [InBlock, Then]) | (refine Tri.exit ?_; simp only [Then, InBlock, if_true, if_false, ↓reduceIte, Nat.reduceEqDiff]) | refine Tri.seq (Tri.block ?_) | refine Tri.block ?_ | refine Tri.seq ?_ | (refine Tri.ret ?_; refine Con.fin (.inl rfl) (by simp only [Tryd.f69, cfgTH1, resA, resA1, go_sem]; rfl) (by simp only [Obs, and_true, true_and]) (by first | (simp only [kVw, Con.of, Con.ofO, resV, go_sem, go_sem]; done) | fail) trivial rfl rfl))
  refine Tri.loop (fun i : Nat => (⟨[some (.pure (.slice false (.int .u8)) d), some (.int .i64 (g : Int)), some (.int .i64 (n : Int)), none, none, none, some (.nilsl), some (.bool false), some (.tsl 0 [] 0 0 1 (tgI g i).length), some (.int .i64 (i : Int))] ++ List.replicate 23 none, [.live (.pure (.arr (tgI g i).length (.int .i64)) (tgI g i))]⟩ : AS)) (fun i => i ≤ n) (fun i => n - i) 0 ?_ (Nat.zero_le _) ?_
  · refine Wk.of ?_ ?_ rfl rfl
    · simp only [lessTs, List.reduceReplicate, List.cons_append, List.nil_append, tgI, List.length_nil] <;> ((repeat' apply And.intro) <;> first | with_reducible rfl | exact True.intro | exact congrArg (fun z : Int => some (AV.int IntKind.i64 z)) (show (_ : Int) = _ by omega) | exact congrArg (fun z : Nat => some (AV.tsl _ _ _ _ _ z)) (show (_ : Nat) = _ by omega) | exact arrEq (by omega) (by with_reducible rfl))
    · simp only [lessHs, tgI, List.length_nil] <;> ((repeat' apply And.intro) <;> first | with_reducible rfl | exact True.intro | exact congrArg (fun z : Int => some (AV.int IntKind.i64 z)) (show (_ : Int) = _ by omega) | exact congrArg (fun z : Nat => some (AV.tsl _ _ _ _ _ z)) (show (_ : Nat) = _ by omega) | exact arrEq (by omega) (by with_reducible rfl))
  · intro i hi
    have hl := tgI_len g i
    by_cases hc : i < n
    · have hc' : decide ((i : Int) < (n : Int)) = true := decide_eq_true (by omega)
      have hn : tgI (g : Int) (i + 1) = tgI g i ++ [((g + i : Nat) : Int)] := by rw [tgI]; rfl
      generalize hJ : tgI (g : Int) i = J at *
      refine Tri.at (by first | (simp only [hc', htk, Con.start, go_sem]; rfl) | rfl) ?_
      repeat (first | ((first | refine Tri.seq (Tri.regT (cfgTH1_ok.pins _) ?_) | refine Tri.rgnT (cfgTH1_ok.pins _) ?_); (repeat (first | refine RunT.oneA (hp := by simp (maxSteps := 2000000) (disch := first | decide | omega | (simp only [List.length_append, List.length_cons, List.length_nil, List.length_take, List.length_drop]; omega)) only [hc', htk, go_sem]; rfl) (h := ?_) | refine RunT.notA (h := ?_))); refine RunT.nil ?_; try simp only [InBlock, Then]) | refine Tri.cF (by first | (simp only [hc', htk, go_sem]; done) | fail) ?_ | refine Tri.cT (by first | (simp only [hc', htk, go_sem]; done) | fail) ?_ | (refine Tri.skip ?_; try simp only [InBlock, Then]) | (refine Tri.exit ?_; simp only [Then, InBlock, if_true, if_false, ↓reduceIte, Nat.reduceEqDiff]) | refine Tri.seq (Tri.block ?_) | refine Tri.block ?_ | refine Tri.seq ?_ | (refine Tri.ret ?_; refine Con.fin (.inl rfl) (by simp only [Tryd.f69, cfgTH1, resA, resA1, go_sem]; rfl) (by simp only [Obs, and_true, true_and]) (by first | (simp only [kVw, Con.of, Con.ofO, resV, hc', htk, go_sem]; done) | fail) trivial rfl rfl))
      refine ⟨i + 1, (by omega), (by omega), Wk.of ?_ ?_ rfl rfl⟩
      · simp only [lessTs, List.reduceReplicate, List.cons_append, List.nil_append, hn, List.length_append, List.length_cons, List.length_nil] <;> ((repeat' apply And.intro) <;> first | with_reducible rfl | exact True.intro | exact congrArg (fun z : Int => some (AV.int IntKind.i64 z)) (show (_ : Int) = _ by omega) | exact congrArg (fun z : Nat => some (AV.tsl _ _ _ _ _ z)) (show (_ : Nat) = _ by omega) | exact arrEq (by omega) (by with_reducible rfl))
      · rw [hn]
        exact ⟨arrEq (by rw [List.length_append]; rfl) rfl, trivial⟩
    · have hc' : decide ((i : Int) < (n : Int)) = false := decide_eq_false (by omega)
      have hin : i = n := by omega
      subst hin
      obtain ⟨e, e1, e2⟩ := vr_vs d (tgI g i)
      have hO : (kVw.out (d, (g : Int), (i : Int), u)).v = vwV (vsF d (tgI g i)) := rfl
      have hX : vwV (vsF d (tgI g i)) = .tuple [.pure (.slice true (.slice true (.int .u8))) (vsF d (tgI g i)).1, .bool (!(vsF d (tgI g i)).2.1)] := rfl
      have hJl : (tgI (g : Int) i).length ≤ 1000 := by omega
      rw [← e2] at hX
      rw [hX] at hO
      generalize vsF d (tgI (g : Int) i) = w at *
      generalize hc0 : decide (e = 0) = cb at *
      generalize hJ : tgI (g : Int) i = J at *
      refine Tri.at (by first | (simp only [hc', htk, e1, hc0, Con.start, go_sem]; rfl) | rfl) ?_
      repeat (first | ((first | refine Tri.seq (Tri.regT (cfgTH1_ok.pins _) ?_) | refine Tri.rgnT (cfgTH1_ok.pins _) ?_); (repeat (first | refine RunT.oneA (hp := by simp (maxSteps := 2000000) (disch := first | decide | omega | (simp only [List.length_append, List.length_cons, List.length_nil, List.length_take, List.length_drop]; omega)) only [hc', htk, e1, hc0, go_sem]; rfl) (h := ?_) | refine RunT.notA (h := ?_))); refine RunT.nil ?_; try simp only [InBlock, Then]) | refine Tri.cF (by first | (simp only [hc', htk, e1, hc0, go_sem]; done) | fail) ?_ | refine Tri.cT (by first | (simp only [hc', htk, e1, hc0, go_sem]; done) | fail) ?_ | (refine Tri.skip ?_; try simp only [InBlock, Then]) | (refine Tri.exit ?_; simp only [Then, InBlock, if_true, if_false, ↓reduceIte, Nat.reduceEqDiff]) | refine Tri.seq (Tri.block ?_) | refine Tri.block ?_ | refine Tri.seq ?_ | (refine Tri.ret ?_; refine Con.fin (.inl rfl) (by simp only [Tryd.f69, cfgTH1, resA, resA1, go_sem]; rfl) (by simp only [Obs, and_true, true_and]) (by first | (simp only [kVw, Con.of, Con.ofO, resV, hc', htk, e1, hc0, go_sem]; done) | fail) trivial rfl rfl))
      refine Tri.ret ?_
      refine Con.fin (.inl rfl) (by simp only [Tryd.f69, cfgTH1, resA, resA1, go_sem]; rfl) (by simp only [Obs, and_true, true_and]) ?_ ?_ ?_ rfl
      · exact hO.symm
      · exact True.intro
      · show (AS.mk [some (kVw.out (d, (g : Int), (i : Int), u)).v] []).closed = true
        rw [hO]; rfl
theorem vw_sum : FSumOK Tryd.prog cfgTH1.G 69 kVw.sum := Con.sumOK cfgTH1_ok kVw Tryd.func69 rfl rfl (Con.of_inv _ _ _) vw_body
end
def rrX (l : List (List UInt8)) : auK.T := (l.getD 0 [], rtI (l.getD 1 []), rdU (l.getD 2 []), rkI (l.getD 3 []) (min 16 (l.getD 3 []).length), ())
def rrO (l : List (List UInt8)) : Bool := rdB (l.getD 1 []) && (rdB (l.getD 2 []) && (decide ((((l.getD 3 []).length : Nat) : Int) = 16) && waR (rrX l)))
def rrV (v : vsK.T) : AV := if (!v.2.1 && rrO v.1) = true then .tuple [.pure auK (rrX v.1), .int .i64 (0 : Int)] else .tuple [.pure auK auZ, .int .i64 (21 : Int)]
theorem rkI_len (b : List UInt8) : ∀ i, (rkI b i).length = 16
  | 0 => rfl
  | i + 1 => by rw [rkI, List.length_set, rkI_len b i]
def kRra : Con := Con.of [.v (.slice false (.int .u8))] (fun x => [List.length (α := UInt8) x.1 ≤ 1000000]) (fun x => ⟨rrV (vsF x.1 (tgI 11 4)), []⟩)
def cfgTH2 : Cfg2 := { ty := tyTabS, fn := fun | 69 => some kVw.sum | 70 => some kRNo.sum | 71 => some kRKe.sum | 61 => some kRa.sum | _ => none, G := gNone, pin := [], eq := fun _ => none }
theorem cfgTH2_ok : CfgOK Tryd.prog cfgTH2 := ⟨tyTabS_ok, (fun f s h => by
  simp only [cfgTH2] at h
  split at h
  · injection h with h; subst h; exact .inl vw_sum
  · injection h with h; subst h; exact .inl rno_sum
  · injection h with h; subst h; exact .inl rke_sum
  · injection h with h; subst h; exact .inl rau_sum
  · cases h), (fun t d h => by cases h)⟩
section
attribute [local go_sem] Tryd.f40 kRra kVw kRNo kRKe kRa cfgTH2 tyTabS tyTabR tyTabV tyTabM tyTabK tyTab
theorem rra_body (p : kRra.Par) (hp : ∀ q ∈ kRra.pre p, q) : BodyOK Tryd.prog cfgTH2 Tryd.f40 (Tryd.f40.body.get rfl) kRra p := by
  obtain ⟨(d : List UInt8), u⟩ := p
  obtain ⟨h0, _⟩ := Obs.of hp
  replace h0 : d.length ≤ 1000000 := h0
  refine ⟨?_, Nat.zero_le _, (by show (rrV (vsF d (tgI 11 4))).strict = true; unfold rrV; split <;> rfl), rfl⟩
  show Tri _ _ _ (Code.seq _ (Code.seq _ (Code.seq (Code.seq _ (Code.cond _ (Code.seq _ _) _)) (Code.seq _ (Code.seq _ (Code.seq _ (Code.seq _ (Code.seq (Code.seq _ (Code.cond _ (Code.seq _ _) _)) (Code.seq _ _))))))))) _
  have hv := vsF_ok (d := d) (ts := tgI 11 4) h0
  have z4 : Int.toNat 4 = 4 := rfl
  have hO : (kRra.out (d, u)).v = rrV (vsF d (tgI 11 4)) := rfl
  generalize hv0 : vsF d (tgI 11 4) = v0 at *
  replace hv : okL 4 v0 := hv
  obtain ⟨(l : List (List UInt8)), (b : Bool), vu⟩ := v0
  obtain ⟨p0, p1⟩ := hv
  replace p0 : b = true ∨ 4 ≤ l.length := p0
  replace p1 : ∀ y ∈ l, y.length ≤ 1000000 := p1
  have w0 : vwV (l, b, vu) = .tuple [.pure (.slice true (.slice true (.int .u8))) l, .bool (!b)] := rfl
  cases b with
  | true =>
    have hV : (kRra.out (d, u)).v = .tuple [.pure auK auZ, .int .i64 (21 : Int)] := hO
    refine Tri.at (by first | (simp only [hv0, z4, w0, Con.start, go_sem]; rfl) | rfl) ?_
    repeat (first | ((first | refine Tri.seq (Tri.regT (cfgTH2_ok.pins _) ?_) | refine Tri.rgnT (cfgTH2_ok.pins _) ?_); (repeat (first | refine RunT.oneA (hp := by simp (maxSteps := 2000000) (disch := first | decide | omega | (simp only [List.length_append, List.length_cons, List.length_nil, List.length_take, List.length_drop]; omega)) only [hv0, z4, w0, go_sem]; rfl) (h := ?_) | refine RunT.notA (h := ?_))); refine RunT.nil ?_; try simp only [InBlock, Then]) | refine Tri.cF (by first | (simp only [hv0, z4, w0, go_sem]; done) | fail) ?_ | refine Tri.cT (by first | (simp only [hv0, z4, w0, go_sem]; done) | fail) ?_ | (refine Tri.skip ?_; try simp only [InBlock, Then]) | (refine Tri.exit ?_; simp only [Then, InBlock, if_true, if_false, ↓reduceIte, Nat.reduceEqDiff]) | refine Tri.seq (Tri.block ?_) | refine Tri.block ?_ | refine Tri.seq ?_ | (refine Tri.ret ?_; refine Con.fin (.inl rfl) (by simp only [Tryd.f40, cfgTH2, resA, resA1, go_sem]; rfl) (by simp only [Obs, and_true, true_and]) (by first | (simp only [kRra, Con.of, Con.ofO, resV, hv0, z4, w0, go_sem]; done) | fail) trivial rfl rfl))
    refine Tri.ret ?_
    refine Con.fin (.inl rfl) (by simp only [Tryd.f40, cfgTH2, resA, resA1, go_sem]; rfl) (by simp only [Obs, and_true, true_and]) ?_ ?_ ?_ rfl
    · exact hV.symm
    · exact True.intro
    · show (AS.mk [some (kRra.out (d, u)).v] []).closed = true
      rw [hV]; rfl
  | false =>
    obtain ⟨a, l1, rfl⟩ : ∃ a l1, l = a :: l1 := by
      cases l with
      | nil => rcases p0 with h | h <;> cases h
      | cons a r => exact ⟨a, r, rfl⟩
    obtain ⟨b, l2, rfl⟩ : ∃ b l2, l1 = b :: l2 := by
      cases l1 with
      | nil => rcases p0 with h | h <;> simp at h
      | cons a r => exact ⟨a, r, rfl⟩
    obtain ⟨c, l3, rfl⟩ : ∃ c l3, l2 = c :: l3 := by
      cases l2 with
      | nil => rcases p0 with h | h <;> simp at h
      | cons a r => exact ⟨a, r, rfl⟩
    obtain ⟨e, r, rfl⟩ : ∃ e r, l3 = e :: r := by
      cases l3 with
      | nil => rcases p0 with h | h <;> simp at h
      | cons a r => exact ⟨a, r, rfl⟩
    have ha : a.length ≤ 1000000 := p1 a (by simp)
    have hb : b.length ≤ 1000000 := p1 b (by simp)
    have hc : c.length ≤ 1000000 := p1 c (by simp)
    have he : e.length ≤ 1000000 := p1 e (by simp)
    have hV : (kRra.out (d, u)).v = if (rdB b && (rdB c && (decide (((e.length : Nat) : Int) = 16) && waR (a, rtI b, rdU c, rkI e (min 16 e.length), ())))) = true then .tuple [.pure auK (a, rtI b, rdU c, rkI e (min 16 e.length), ()), .int .i64 (0 : Int)] else .tuple [.pure auK auZ, .int .i64 (21 : Int)] := hO
    have hk : rkV e = .tuple [.pure k16 (rkI e (min 16 e.length)), .bool (decide (((e.length : Nat) : Int) = 16))] := rfl
    have hkl := rkI_len e (min 16 e.length)
    generalize rkI e (min 16 e.length) = k at *
    generalize hT : rtI b = t at *
    generalize hd : decide (((e.length : Nat) : Int) = 16) = cd at *
    cases q1 : rdB b with
    | false =>
      rw [q1] at hV
      replace hV := hV.trans (if_neg (by simp))
      refine Tri.at (by first | (simp only [hv0, z4, w0, hT, hk, q1, Con.start, go_sem]; rfl) | rfl) ?_
      repeat (first | ((first | refine Tri.seq (Tri.regT (cfgTH2_ok.pins _) ?_) | refine Tri.rgnT (cfgTH2_ok.pins _) ?_); (repeat (first | refine RunT.oneA (hp := by simp (maxSteps := 2000000) (disch := first | decide | omega | (simp only [List.length_append, List.length_cons, List.length_nil, List.length_take, List.length_drop]; omega)) only [hv0, z4, w0, hT, hk, q1, go_sem]; rfl) (h := ?_) | refine RunT.notA (h := ?_))); refine RunT.nil ?_; try simp only [InBlock, Then]) | ((first | refine Tri.seq (Tri.drwT (mixed) (cfgTH2_ok.pins _) ?_) | refine Tri.drnT (mixed) (cfgTH2_ok.pins _) ?_); (repeat (first | refine RunD.oneA (hp := by simp (maxSteps := 2000000) (disch := first | decide | omega | (simp only [List.length_append, List.length_cons, List.length_nil, List.length_take, List.length_drop]; omega)) only [hv0, z4, w0, hT, hk, q1, go_sem]; rfl) (h := ?_) | refine RunD.notA (h := ?_))); refine RunD.nil ?_; refine ⟨by kernel_rfl, ?_⟩; try simp only [InBlock, Then]) | refine Tri.cF (by first | (simp only [hv0, z4, w0, hT, hk, q1, go_sem]; done) | fail) ?_ | refine Tri.cT (by first | (simp only [hv0, z4, w0, hT, hk, q1, go_sem]; done) | fail) ?_ | (refine Tri.skip ?_; try simp only [InBlock, Then]) | (refine Tri.exit ?_; simp only [Then, InBlock, if_true, if_false, ↓reduceIte, Nat.reduceEqDiff]) | refine Tri.seq (Tri.block ?_) | refine Tri.block ?_ | refine Tri.seq ?_ | (refine Tri.ret ?_; refine Con.fin (.inl rfl) (by simp only [Tryd.f40, cfgTH2, resA, resA1, go_sem]; rfl) (by simp only [Obs, and_true, true_and]) (by first | (simp only [kRra, Con.of, Con.ofO, resV, hv0, z4, w0, hT, hk, q1, go_sem]; done) | fail) trivial rfl rfl))
      refine Tri.ret ?_
      refine Con.fin (.inl rfl) (by simp only [Tryd.f40, cfgTH2, resA, resA1, go_sem]; rfl) (by simp only [Obs, and_true, true_and]) ?_ ?_ ?_ rfl
      · exact hV.symm
      · exact True.intro
      · show (AS.mk [some (kRra.out (d, u)).v] []).closed = true
        rw [hV]; rfl
    | true =>
      cases q2 : rdB c with
      | false =>
        rw [q1, q2] at hV
        replace hV := hV.trans (if_neg (by simp))
        refine Tri.at (by first | (simp only [hv0, z4, w0, hT, hk, q1, q2, Con.start, go_sem]; rfl) | rfl) ?_
        repeat (first | ((first | refine Tri.seq (Tri.regT (cfgTH2_ok.pins _) ?_) | refine Tri.rgnT (cfgTH2_ok.pins _) ?_); (repeat (first | refine RunT.oneA (hp := by simp (maxSteps := 2000000) (disch := first | decide | omega | (simp only [List.length_append, List.length_cons, List.length_nil, List.length_take, List.length_drop]; omega)) only [hv0, z4, w0, hT, hk, q1, q2, go_sem]; rfl) (h := ?_) | refine RunT.notA (h := ?_))); refine RunT.nil ?_; try simp only [InBlock, Then]) | ((first | refine Tri.seq (Tri.drwT (mixed) (cfgTH2_ok.pins _) ?_) | refine Tri.drnT (mixed) (cfgTH2_ok.pins _) ?_); (repeat (first | refine RunD.oneA (hp := by simp (maxSteps := 2000000) (disch := first | decide | omega | (simp only [List.length_append, List.length_cons, List.length_nil, List.length_take, List.length_drop]; omega)) only [hv0, z4, w0, hT, hk, q1, q2, go_sem]; rfl) (h := ?_) | refine RunD.notA (h := ?_))); refine RunD.nil ?_; refine ⟨by kernel_rfl, ?_⟩; try simp only [InBlock, Then]) | refine Tri.cF (by first | (simp only [hv0, z4, w0, hT, hk, q1, q2, go_sem]; done) | fail) ?_ | refine Tri.cT (by first | (simp only [hv0, z4, w0, hT, hk, q1, q2, go_sem]; done) | fail) ?_ | (refine Tri.skip ?_; try simp only [InBlock, Then]) | (refine Tri.exit ?_; simp only [Then, InBlock, if_true, if_false, ↓reduceIte, Nat.reduceEqDiff]) | refine Tri.seq (Tri.block ?_) | refine Tri.block ?_ | refine Tri.seq ?_ | (refine Tri.ret ?_; refine Con.fin (.inl rfl) (by simp only [Tryd.f40, cfgTH2, resA, resA1, go_sem]; rfl) (by simp only [Obs, and_true, true_and]) (by first | (simp only [kRra, Con.of, Con.ofO, resV, hv0, z4, w0, hT, hk, q1, q2, go_sem]; done) | fail) trivial rfl rfl))
        refine Tri.ret ?_
        refine Con.fin (.inl rfl) (by simp only [Tryd.f40, cfgTH2, resA, resA1, go_sem]; rfl) (by simp only [Obs, and_true, true_and]) ?_ ?_ ?_ rfl
        · exact hV.symm
        · exact True.intro
        · show (AS.mk [some (kRra.out (d, u)).v] []).closed = true
          rw [hV]; rfl
      | true =>
        cases cd with
        | false =>
          rw [q1, q2] at hV
          replace hV := hV.trans (if_neg (by simp))
          refine Tri.at (by first | (simp only [hv0, z4, w0, hT, hk, q1, q2, Con.start, go_sem]; rfl) | rfl) ?_
          repeat (first | ((first | refine Tri.seq (Tri.regT (cfgTH2_ok.pins _) ?_) | refine Tri.rgnT (cfgTH2_ok.pins _) ?_); (repeat (first | refine RunT.oneA (hp := by simp (maxSteps := 2000000) (disch := first | decide | omega | (simp only [List.length_append, List.length_cons, List.length_nil, List.length_take, List.length_drop]; omega)) only [hv0, z4, w0, hT, hk, q1, q2, go_sem]; rfl) (h := ?_) | refine RunT.notA (h := ?_))); refine RunT.nil ?_; try simp only [InBlock, Then]) | ((first | refine Tri.seq (Tri.drwT (mixed) (cfgTH2_ok.pins _) ?_) | refine Tri.drnT (mixed) (cfgTH2_ok.pins _) ?_); (repeat (first | refine RunD.oneA (hp := by simp (maxSteps := 2000000) (disch := first | decide | omega | (simp only [List.length_append, List.length_cons, List.length_nil, List.length_take, List.length_drop]; omega)) only [hv0, z4, w0, hT, hk, q1, q2, go_sem]; rfl) (h := ?_) | refine RunD.notA (h := ?_))); refine RunD.nil ?_; refine ⟨by kernel_rfl, ?_⟩; try simp only [InBlock, Then]) | refine Tri.cF (by first | (simp only [hv0, z4, w0, hT, hk, q1, q2, go_sem]; done) | fail) ?_ | refine Tri.cT (by first | (simp only [hv0, z4, w0, hT, hk, q1, q2, go_sem]; done) | fail) ?_ | (refine Tri.skip ?_; try simp only [InBlock, Then]) | (refine Tri.exit ?_; simp only [Then, InBlock, if_true, if_false, ↓reduceIte, Nat.reduceEqDiff]) | refine Tri.seq (Tri.block ?_) | refine Tri.block ?_ | refine Tri.seq ?_ | (refine Tri.ret ?_; refine Con.fin (.inl rfl) (by simp only [Tryd.f40, cfgTH2, resA, resA1, go_sem]; rfl) (by simp only [Obs, and_true, true_and]) (by first | (simp only [kRra, Con.of, Con.ofO, resV, hv0, z4, w0, hT, hk, q1, q2, go_sem]; done) | fail) trivial rfl rfl))
          refine Tri.ret ?_
          refine Con.fin (.inl rfl) (by simp only [Tryd.f40, cfgTH2, resA, resA1, go_sem]; rfl) (by simp only [Obs, and_true, true_and]) ?_ ?_ ?_ rfl
          · exact hV.symm
          · exact True.intro
          · show (AS.mk [some (kRra.out (d, u)).v] []).closed = true
            rw [hV]; rfl
        | true =>
          cases q3 : waR (a, t, rdU c, k, ()) with
          | false =>
            rw [q1, q2, q3] at hV
            replace hV := hV.trans (if_neg (by simp))
            refine Tri.at (by first | (simp only [hv0, z4, w0, hT, hk, q1, q2, q3, Con.start, go_sem]; rfl) | rfl) ?_
            repeat (first | ((first | refine Tri.seq (Tri.regT (cfgTH2_ok.pins _) ?_) | refine Tri.rgnT (cfgTH2_ok.pins _) ?_); (repeat (first | refine RunT.oneA (hp := by simp (maxSteps := 2000000) (disch := first | decide | omega | (simp only [List.length_append, List.length_cons, List.length_nil, List.length_take, List.length_drop]; omega)) only [hv0, z4, w0, hT, hk, q1, q2, q3, go_sem]; rfl) (h := ?_) | refine RunT.notA (h := ?_))); refine RunT.nil ?_; try simp only [InBlock, Then]) | ((first | refine Tri.seq (Tri.drwT (mixed) (cfgTH2_ok.pins _) ?_) | refine Tri.drnT (mixed) (cfgTH2_ok.pins _) ?_); (repeat (first | refine RunD.oneA (hp := by simp (maxSteps := 2000000) (disch := first | decide | omega | (simp only [List.length_append, List.length_cons, List.length_nil, List.length_take, List.length_drop]; omega)) only [hv0, z4, w0, hT, hk, q1, q2, q3, go_sem]; rfl) (h := ?_) | refine RunD.notA (h := ?_))); refine RunD.nil ?_; refine ⟨by kernel_rfl, ?_⟩; try simp only [InBlock, Then]) | refine Tri.cF (by first | (simp only [hv0, z4, w0, hT, hk, q1, q2, q3, go_sem]; done) | fail) ?_ | refine Tri.cT (by first | (simp only [hv0, z4, w0, hT, hk, q1, q2, q3, go_sem]; done) | fail) ?_ | (refine Tri.skip ?_; try simp only [InBlock, Then]) | (refine Tri.exit ?_; simp only [Then, InBlock, if_true, if_false, ↓reduceIte, Nat.reduceEqDiff]) | refine Tri.seq (Tri.block ?_) | refine Tri.block ?_ | refine Tri.seq ?_ | (refine Tri.ret ?_; refine Con.fin (.inl rfl) (by simp only [Tryd.f40, cfgTH2, resA, resA1, go_sem]; rfl) (by simp only [Obs, and_true, true_and]) (by first | (simp only [kRra, Con.of, Con.ofO, resV, hv0, z4, w0, hT, hk, q1, q2, q3, go_sem]; done) | fail) trivial rfl rfl))
            refine Tri.ret ?_
            refine Con.fin (.inl rfl) (by simp only [Tryd.f40, cfgTH2, resA, resA1, go_sem]; rfl) (by simp only [Obs, and_true, true_and]) ?_ ?_ ?_ rfl
            · exact hV.symm
            · exact True.intro
            · show (AS.mk [some (kRra.out (d, u)).v] []).closed = true
              rw [hV]; rfl
          | true =>
            rw [q1, q2, q3] at hV
            replace hV := hV.trans (if_pos rfl)
            refine Tri.at (by first | (simp only [hv0, z4, w0, hT, hk, q1, q2, q3, Con.start, go_sem]; rfl) | rfl) ?_
            repeat (first | ((first | refine Tri.seq (Tri.regT (cfgTH2_ok.pins _) ?_) | refine Tri.rgnT (cfgTH2_ok.pins _) ?_); (repeat (first | refine RunT.oneA (hp := by simp (maxSteps := 2000000) (disch := first | decide | omega | (simp only [List.length_append, List.length_cons, List.length_nil, List.length_take, List.length_drop]; omega)) only [hv0, z4, w0, hT, hk, q1, q2, q3, go_sem]; rfl) (h := ?_) | refine RunT.notA (h := ?_))); refine RunT.nil ?_; try simp only [InBlock, Then]) | ((first | refine Tri.seq (Tri.drwT (mixed) (cfgTH2_ok.pins _) ?_) | refine Tri.drnT (mixed) (cfgTH2_ok.pins _) ?_); (repeat (first | refine RunD.oneA (hp := by simp (maxSteps := 2000000) (disch := first | decide | omega | (simp only [List.length_append, List.length_cons, List.length_nil, List.length_take, List.length_drop]; omega)) only [hv0, z4, w0, hT, hk, q1, q2, q3, go_sem]; rfl) (h := ?_) | refine RunD.notA (h := ?_))); refine RunD.nil ?_; refine ⟨by kernel_rfl, ?_⟩; try simp only [InBlock, Then]) | refine Tri.cF (by first | (simp only [hv0, z4, w0, hT, hk, q1, q2, q3, go_sem]; done) | fail) ?_ | refine Tri.cT (by first | (simp only [hv0, z4, w0, hT, hk, q1, q2, q3, go_sem]; done) | fail) ?_ | (refine Tri.skip ?_; try simp only [InBlock, Then]) | (refine Tri.exit ?_; simp only [Then, InBlock, if_true, if_false, ↓reduceIte, Nat.reduceEqDiff]) | refine Tri.seq (Tri.block ?_) | refine Tri.block ?_ | refine Tri.seq ?_ | (refine Tri.ret ?_; refine Con.fin (.inl rfl) (by simp only [Tryd.f40, cfgTH2, resA, resA1, go_sem]; rfl) (by simp only [Obs, and_true, true_and]) (by first | (simp only [kRra, Con.of, Con.ofO, resV, hv0, z4, w0, hT, hk, q1, q2, q3, go_sem]; done) | fail) trivial rfl rfl))
            refine Tri.ret ?_
            refine Con.fin (.inl rfl) (by simp only [Tryd.f40, cfgTH2, resA, resA1, go_sem]; rfl) (by simp only [Obs, and_true, true_and]) ?_ ?_ ?_ rfl
            · exact hV.symm
            · exact True.intro
            · show (AS.mk [some (kRra.out (d, u)).v] []).closed = true
              rw [hV]; rfl
theorem rra_sum : FSumOK Tryd.prog cfgTH2.G 40 kRra.sum := Con.sumOK cfgTH2_ok kRra Tryd.func40 rfl rfl (Con.of_inv _ _ _) rra_body
end
end Go.Proofs.YtjdeaphfamenaaaDoor

namespace Go.Proofs.YtjdeaphfamenaaaDoor
open Go.Vc Go.Proofs
set_option maxRecDepth 10000
theorem rkI_get (b : List UInt8) : ∀ i, i ≤ 16 → ∀ j, j < 16 → (rkI b i).getD j 0 = if j < i then b.getD j 0 else 0
  | 0, _, j, hj => by
    rw [if_neg (by omega)]
    have : ∀ j, ([0, 0, 0, 0, 0, 0, 0, 0, 0, 0, 0, 0, 0, 0, 0, 0] : List UInt8).getD j 0 = 0 := fun j => by
      have e : ([0, 0, 0, 0, 0, 0, 0, 0, 0, 0, 0, 0, 0, 0, 0, 0] : List UInt8) = List.replicate 16 0 := rfl
      rw [e, List.getD_eq_getElem?_getD, List.getElem?_replicate]
      split <;> rfl
    exact this j
  | i + 1, hi, j, hj => by
    rw [rkI, getD_set' _ _ _ _ (by rw [rkI_len]; exact hj), rkI_get b i (by omega) j hj]
    by_cases e : i = j
    · rw [if_pos e, if_pos (by omega), e]
    · rw [if_neg e]
      by_cases h : j < i
      · rw [if_pos h, if_pos (by omega)]
      · rw [if_neg h, if_neg (by omega)]
theorem rkI_all {b : List UInt8} (h : b.length = 16) : rkI b (min 16 b.length) = b := by
  rw [h]
  show rkI b 16 = b
  apply List.ext_getElem
  · rw [rkI_len, h]
  · intro i h1 h2
    have := rkI_get b 16 (Nat.le_refl _) i (by omega)
    rw [if_pos (by omega), List.getD_eq_getElem?_getD, List.getD_eq_getElem?_getD, List.getElem?_eq_getElem h1, List.getElem?_eq_getElem h2] at this
    exact this
theorem keB_all {b : List UInt8} (h : b.length = 16) : keB b = b := by
  rw [keB, h]
  show List.take 16 b ++ List.drop (List.take 16 b).length _ = b
  rw [List.take_of_length_le (by omega), h]
  exact List.append_nil b
theorem waR_neg (c : List UInt8) (n : UInt64) (k : List UInt8) : waR (c, (-1 : Int), n, k, ()) = false := by
  show (rgS (pwS c) && (!decide ((-1 : Int) < 0) && !decide ((1099511627776 : Int) < -1))) = false
  cases rgS (pwS c) <;> rfl
theorem au_bad {v : vsK.T} (h : (auE v).2.1 = true) : auV v = .tuple [.pure auK auZ, .int .i64 (21 : Int)] := by
  rw [auV, h, Bool.not_true, Bool.and_false]; rfl
theorem rr_bad {v : vsK.T} (h : rrO v.1 = false) : rrV v = .tuple [.pure auK auZ, .int .i64 (21 : Int)] := by
  rw [rrV, h, Bool.and_false]; rfl
theorem au_rr {v : vsK.T} (h : okL 4 v) : auV v = rrV v := by
  obtain ⟨(l : List (List UInt8)), (b : Bool), vu⟩ := v
  obtain ⟨p0, _⟩ := h
  replace p0 : b = true ∨ 4 ≤ l.length := p0
  cases b with
  | true =>
    have hw : waR (auA (l, true, vu)) = false := rfl
    rw [auV, hw, Bool.false_and]
    rfl
  | false =>
    obtain ⟨a, l1, rfl⟩ : ∃ a l1, l = a :: l1 := by
      cases l with
      | nil => rcases p0 with h | h <;> cases h
      | cons a r => exact ⟨a, r, rfl⟩
    obtain ⟨b, l2, rfl⟩ : ∃ b l2, l1 = b :: l2 := by
      cases l1 with
      | nil => rcases p0 with h | h <;> simp at h
      | cons a r => exact ⟨a, r, rfl⟩
    obtain ⟨c, l3, rfl⟩ : ∃ c l3, l2 = c :: l3 := by
      cases l2 with
      | nil => rcases p0 with h | h <;> simp at h
      | cons a r => exact ⟨a, r, rfl⟩
    obtain ⟨e, r, rfl⟩ : ∃ e r, l3 = e :: r := by
      cases l3 with
      | nil => rcases p0 with h | h <;> simp at h
      | cons a r => exact ⟨a, r, rfl⟩
    have hT : tiS (nxS (a :: b :: c :: e :: r, false, vu)) = (c :: e :: r, (false || !rdB b) || decide ((1099511627776 : UInt64) < rdU b), ()) := rfl
    have hO : rrO (a :: b :: c :: e :: r) = (rdB b && (rdB c && (decide (((e.length : Nat) : Int) = 16) && waR (a, rtI b, rdU c, rkI e (min 16 e.length), ())))) := rfl
    have hE : auE (a :: b :: c :: e :: r, false, vu) = keS (nuS (tiS (nxS (a :: b :: c :: e :: r, false, vu)))) := rfl
    have hA : auA (a :: b :: c :: e :: r, false, vu) = (a, convT .i64 .u64 (rdU b), nuU (tiS (nxS (a :: b :: c :: e :: r, false, vu))), keB (nxB (nuS (tiS (nxS (a :: b :: c :: e :: r, false, vu))))), ()) := rfl
    rw [hT] at hE hA
    cases q1 : rdB b with
    | false =>
      rw [q1] at hE hO
      rw [au_bad (by rw [hE]; rfl), rr_bad (by show rrO (a :: b :: c :: e :: r) = false; rw [hO]; rfl)]
    | true =>
    cases q2 : decide ((1099511627776 : UInt64) < rdU b) with
    | true =>
      rw [q1, q2] at hE
      have ht : rtI b = -1 := by rw [rtI, q2]; rfl
      rw [ht, waR_neg] at hO
      rw [au_bad (by rw [hE]; rfl), rr_bad (by show rrO (a :: b :: c :: e :: r) = false; rw [hO]; simp)]
    | false =>
      rw [q1, q2] at hE hA
      have ht : rtI b = convT .i64 .u64 (rdU b) := by rw [rtI, q2]; rfl
      have hN : nuS ((c :: e :: r, (false || !true) || false, ()) : vsK.T) = (e :: r, false || !rdB c, ()) := rfl
      rw [hN] at hE hA
      cases q3 : rdB c with
      | false =>
        rw [q3] at hE hO
        rw [au_bad (by rw [hE]; rfl), rr_bad (by show rrO (a :: b :: c :: e :: r) = false; rw [hO]; simp)]
      | true =>
        rw [q3] at hE hA
        have hE' : (auE (a :: b :: c :: e :: r, false, vu)).2.1 = !decide (((e.length : Nat) : Int) = 16) := by rw [hE]; rfl
        replace hA : auA (a :: b :: c :: e :: r, false, vu) = (a, convT .i64 .u64 (rdU b), rdU c, keB e, ()) := hA
        cases q4 : decide (((e.length : Nat) : Int) = 16) with
        | false =>
          rw [q4] at hE' hO
          rw [au_bad hE', rr_bad (by show rrO (a :: b :: c :: e :: r) = false; rw [hO]; simp)]
        | true =>
          have hl : e.length = 16 := by have := of_decide_eq_true q4; omega
          rw [keB_all hl] at hA
          have hX : rrX (a :: b :: c :: e :: r) = (a, convT .i64 .u64 (rdU b), rdU c, e, ()) := by
            show (a, rtI b, rdU c, rkI e (min 16 e.length), ()) = _
            rw [rkI_all hl, ht]
          rw [q4] at hE'
          rw [q1, q3, q4, rkI_all hl, ht] at hO
          have h1 : auV (a :: b :: c :: e :: r, false, vu) = if (waR (auA (a :: b :: c :: e :: r, false, vu)) && !(auE (a :: b :: c :: e :: r, false, vu)).2.1) = true then .tuple [.pure auK (auA (a :: b :: c :: e :: r, false, vu)), .int .i64 (0 : Int)] else .tuple [.pure auK auZ, .int .i64 (21 : Int)] := rfl
          have h2 : rrV (a :: b :: c :: e :: r, false, vu) = if (!false && rrO (a :: b :: c :: e :: r)) = true then .tuple [.pure auK (rrX (a :: b :: c :: e :: r)), .int .i64 (0 : Int)] else .tuple [.pure auK auZ, .int .i64 (21 : Int)] := rfl
          rw [h1, h2, hA, hE', hO, hX]
          cases waR (a, convT .i64 .u64 (rdU b), rdU c, e, ()) <;> rfl
theorem conv_u64 (x : Int) (h0 : 0 ≤ x) (h1 : x ≤ 1099511627776) : decide ((1099511627776 : UInt64) < UInt64.ofInt x) = false ∧ (convT .i64 .u64 (UInt64.ofInt x) : Int) = x := by
  obtain ⟨n, rfl⟩ : ∃ n : Nat, x = (n : Int) := ⟨x.toNat, by omega⟩
  have hn : (UInt64.ofInt (n : Int)).toNat = n := by
    rw [UInt64.ofInt, UInt64.toNat_ofNat']
    omega
  refine ⟨decide_eq_false ?_, ?_⟩
  · rw [UInt64.lt_iff_toNat_lt, hn]
    show ¬ (1099511627776 < n)
    omega
  · have e : (convT .i64 .u64 (UInt64.ofInt (n : Int)) : Int) = IntKind.wrap .i64 (((UInt64.ofInt (n : Int)).toNat : Nat) : Int) := rfl
    rw [e, hn, wrap_i64_id _ (by omega) (by omega)]
theorem wa_vs {a : auK.T} (h : waR a = true) (hk : List.length (α := UInt8) a.2.2.2.1 = 16) : vsF (jnF (tgF 11 (waL a))) (tgI 11 4) = (waL a, false, ()) := by
  obtain ⟨(c : List UInt8), (ti : Int), (no : UInt64), (k : List UInt8), u1⟩ := a
  replace hk : k.length = 16 := hk
  have h1 : rgS (pwS c) = true := by
    have h' : (rgS (pwS c) && (!decide (ti < 0) && !decide ((1099511627776 : Int) < ti))) = true := h
    rw [Bool.and_eq_true] at h'
    exact h'.1
  have g1 := pw_len h1
  have n1 := numS_len (UInt64.ofInt ti)
  have n2 := numS_len no
  have hall : ∀ v ∈ [c, numS (UInt64.ofInt ti), numS no, k], List.length v ≤ 65535 := by
    intro v hv
    simp only [List.mem_cons, List.not_mem_nil, or_false] at hv
    rcases hv with rfl | rfl | rfl | rfl <;> omega
  have hok : ∀ f ∈ tgF 11 [c, numS (UInt64.ofInt ti), numS no, k], flOK f := tgF_ok _ 11 (by decide) (by show (11 : Int) + 4 ≤ 255; decide) hall
  have hs : spF (jnF (tgF 11 [c, numS (UInt64.ofInt ti), numS no, k])).length (jnF (tgF 11 [c, numS (UInt64.ofInt ti), numS no, k])) [] = (some (tgF 11 [c, numS (UInt64.ofInt ti), numS no, k]), (0 : Int)) := sp_jn _ hok
  show vsF (jnF (tgF 11 [c, numS (UInt64.ofInt ti), numS no, k])) (tgI 11 4) = _
  rw [vsF, hs]
  rfl
theorem wa_rd {a : auK.T} (h : waR a = true) (hk : List.length (α := UInt8) a.2.2.2.1 = 16) : auV (vsF (jnF (tgF 11 (waL a))) (tgI 11 4)) = .tuple [.pure auK a, .int .i64 (0 : Int)] := by
  rw [wa_vs h hk, au_rr ⟨.inr (Nat.le_refl _), by
    intro y hy
    obtain ⟨(c : List UInt8), (ti : Int), (no : UInt64), (k : List UInt8), u1⟩ := a
    replace hk : k.length = 16 := hk
    have h1 : rgS (pwS c) = true := by
      have h' : (rgS (pwS c) && (!decide (ti < 0) && !decide ((1099511627776 : Int) < ti))) = true := h
      rw [Bool.and_eq_true] at h'
      exact h'.1
    have g1 := pw_len h1
    have n1 := numS_len (UInt64.ofInt ti)
    have n2 := numS_len no
    have hy' : y ∈ [c, numS (UInt64.ofInt ti), numS no, k] := hy
    simp only [List.mem_cons, List.not_mem_nil, or_false] at hy'
    rcases hy' with rfl | rfl | rfl | rfl <;> omega⟩]
  obtain ⟨(c : List UInt8), (ti : Int), (no : UInt64), (k : List UInt8), u1⟩ := a
  replace hk : k.length = 16 := hk
  have h' : (rgS (pwS c) && (!decide (ti < 0) && !decide ((1099511627776 : Int) < ti))) = true := h
  rw [Bool.and_eq_true, Bool.and_eq_true, Bool.not_eq_true', Bool.not_eq_true', decide_eq_false_iff_not, decide_eq_false_iff_not] at h'
  obtain ⟨_, h2, h3⟩ := h'
  obtain ⟨c1, c2⟩ := conv_u64 ti (by omega) (by omega)
  obtain ⟨r1, r2⟩ := rd_num (UInt64.ofInt ti)
  obtain ⟨r3, r4⟩ := rd_num no
  have hX : rrX (waL (c, ti, no, k, u1)) = (c, ti, no, k, u1) := by
    show (c, rtI (numS (UInt64.ofInt ti)), rdU (numS no), rkI k (min 16 k.length), ()) = _
    rw [rkI_all hk, r4, rtI, r2, c1]
    show (c, convT .i64 .u64 (UInt64.ofInt ti), no, k, ()) = _
    rw [c2]
  have hO : rrO (waL (c, ti, no, k, u1)) = true := by
    show (rdB (numS (UInt64.ofInt ti)) && (rdB (numS no) && (decide (((k.length : Nat) : Int) = 16) && waR (rrX (waL (c, ti, no, k, u1)))))) = true
    rw [hX, h, r1, r3, hk]; rfl
  show (if (!false && rrO (waL (c, ti, no, k, u1))) = true then AV.tuple [.pure auK (rrX (waL (c, ti, no, k, u1))), .int .i64 (0 : Int)] else .tuple [.pure auK auZ, .int .i64 (21 : Int)]) = _
  rw [hO, hX]
  rfl
end Go.Proofs.YtjdeaphfamenaaaDoor

namespace Go.Proofs.YtjdeaphfamenaaaDoor
open Go.Vc Go.Proofs
set_option maxRecDepth 10000
set_option maxHeartbeats 4000000
def ahS (a b : Int) : Bool := decide (b < a) && decide ((10 : UInt64) < UInt64.ofInt a - UInt64.ofInt b)
def vlS (st en now : Int) : Int := if ahS st now = true then 64 else if ahS now en = true then 63 else 0
def kAh : Con := Con.of [.v (.int .i64), .v (.int .i64)] (fun _ => []) (fun x => ⟨.bool (ahS (toI .i64 x.1) (toI .i64 x.2.1)), []⟩)
def cfgA0 : Cfg2 := { ty := tyTab, fn := fun  | _ => none, G := gNone, pin := [], eq := fun _ => none }
theorem cfgA0_ok : CfgOK Tryd.prog cfgA0 := ⟨tysOK, (fun f s h => by cases h), (fun t d h => by cases h)⟩
section
attribute [local go_sem] Tryd.f48 kAh cfgA0 tyTab
theorem ah_body (p : kAh.Par) (hp : ∀ q ∈ kAh.pre p, q) : BodyOK Tryd.prog cfgA0 Tryd.f48 (Tryd.f48.body.get rfl) kAh p := by
  obtain ⟨(a : Int), (b : Int), u⟩ := p
  refine ⟨?_, Nat.zero_le _, rfl, rfl⟩
  show Tri _ _ _ (Code.seq _ (Code.seq _ _)) _
  cases h1 : decide (b < a) with
  | false =>
    have e : ahS a b = false := by rw [ahS, h1]; rfl
    refine Tri.at (by first | (simp only [h1, e, Con.start, go_sem]; rfl) | rfl) ?_
    repeat (first | ((first | refine Tri.seq (Tri.regT (cfgA0_ok.pins _) ?_) | refine Tri.rgnT (cfgA0_ok.pins _) ?_); (repeat (first | refine RunT.oneA (hp := by simp (maxSteps := 2000000) (disch := first | decide | omega | (simp only [List.length_append, List.length_cons, List.length_nil, List.length_take, List.length_drop]; omega)) only [h1, e, go_sem]; rfl) (h := ?_) | refine RunT.notA (h := ?_))); refine RunT.nil ?_; try simp only [InBlock, Then]) | refine Tri.cF (by first | (simp only [h1, e, go_sem]; done) | fail) ?_ | refine Tri.cT (by first | (simp only [h1, e, go_sem]; done) | fail) ?_ | (refine Tri.skip ?_; try simp only [InBlock, Then]) | (refine Tri.exit ?_; simp only [Then, InBlock, if_true, if_false, ↓reduceIte, Nat.reduceEqDiff]) | refine Tri.seq (Tri.block ?_) | refine Tri.block ?_ | refine Tri.seq ?_ | (refine Tri.ret ?_; refine Con.fin (.inl rfl) (by simp only [Tryd.f48, cfgA0, resA, resA1, go_sem]; rfl) (by simp only [Obs, and_true, true_and]) (by first | (simp only [kAh, Con.of, Con.ofO, resV, h1, e, go_sem]; done) | fail) trivial rfl rfl))
  | true =>
    have e : ahS a b = decide ((10 : UInt64) < UInt64.ofInt a - UInt64.ofInt b) := by rw [ahS, h1]; rfl
    refine Tri.at (by first | (simp only [h1, e, Con.start, go_sem]; rfl) | rfl) ?_
    repeat (first | ((first | refine Tri.seq (Tri.regT (cfgA0_ok.pins _) ?_) | refine Tri.rgnT (cfgA0_ok.pins _) ?_); (repeat (first | refine RunT.oneA (hp := by simp (maxSteps := 2000000) (disch := first | decide | omega | (simp only [List.length_append, List.length_cons, List.length_nil, List.length_take, List.length_drop]; omega)) only [h1, e, go_sem]; rfl) (h := ?_) | refine RunT.notA (h := ?_))); refine RunT.nil ?_; try simp only [InBlock, Then]) | refine Tri.cF (by first | (simp only [h1, e, go_sem]; done) | fail) ?_ | refine Tri.cT (by first | (simp only [h1, e, go_sem]; done) | fail) ?_ | (refine Tri.skip ?_; try simp only [InBlock, Then]) | (refine Tri.exit ?_; simp only [Then, InBlock, if_true, if_false, ↓reduceIte, Nat.reduceEqDiff]) | refine Tri.seq (Tri.block ?_) | refine Tri.block ?_ | refine Tri.seq ?_ | (refine Tri.ret ?_; refine Con.fin (.inl rfl) (by simp only [Tryd.f48, cfgA0, resA, resA1, go_sem]; rfl) (by simp only [Obs, and_true, true_and]) (by first | (simp only [kAh, Con.of, Con.ofO, resV, h1, e, go_sem]; done) | fail) trivial rfl rfl))
theorem ah_sum : FSumOK Tryd.prog cfgA0.G 48 kAh.sum := Con.sumOK cfgA0_ok kAh Tryd.func48 rfl rfl (Con.of_inv _ _ _) ah_body
end
section
attribute [local go_sem] Tryd.f49 kAh cfgA0 tyTab
theorem abv_body (p : kAh.Par) (hp : ∀ q ∈ kAh.pre p, q) : BodyOK Tryd.prog cfgA0 Tryd.f49 (Tryd.f49.body.get rfl) kAh p := by
  obtain ⟨(a : Int), (b : Int), u⟩ := p
  refine ⟨?_, Nat.zero_le _, rfl, rfl⟩
  show Tri _ _ _ (Code.seq _ (Code.seq (Code.seq _ (Code.cond _ (Code.seq _ _) _)) (Code.seq _ _))) _
  cases h1 : decide (b < a) with
  | false =>
    have e : ahS a b = false := by rw [ahS, h1]; rfl
    refine Tri.at (by first | (simp only [h1, e, Con.start, go_sem]; rfl) | rfl) ?_
    repeat (first | ((first | refine Tri.seq (Tri.regT (cfgA0_ok.pins _) ?_) | refine Tri.rgnT (cfgA0_ok.pins _) ?_); (repeat (first | refine RunT.oneA (hp := by simp (maxSteps := 2000000) (disch := first | decide | omega | (simp only [List.length_append, List.length_cons, List.length_nil, List.length_take, List.length_drop]; omega)) only [h1, e, go_sem]; rfl) (h := ?_) | refine RunT.notA (h := ?_))); refine RunT.nil ?_; try simp only [InBlock, Then]) | refine Tri.cF (by first | (simp only [h1, e, go_sem]; done) | fail) ?_ | refine Tri.cT (by first | (simp only [h1, e, go_sem]; done) | fail) ?_ | (refine Tri.skip ?_; try simp only [InBlock, Then]) | (refine Tri.exit ?_; simp only [Then, InBlock, if_true, if_false, ↓reduceIte, Nat.reduceEqDiff]) | refine Tri.seq (Tri.block ?_) | refine Tri.block ?_ | refine Tri.seq ?_ | (refine Tri.ret ?_; refine Con.fin (.inl rfl) (by simp only [Tryd.f49, cfgA0, resA, resA1, go_sem]; rfl) (by simp only [Obs, and_true, true_and]) (by first | (simp only [kAh, Con.of, Con.ofO, resV, h1, e, go_sem]; done) | fail) trivial rfl rfl))
  | true =>
    have e : ahS a b = decide ((10 : UInt64) < UInt64.ofInt a - UInt64.ofInt b) := by rw [ahS, h1]; rfl
    refine Tri.at (by first | (simp only [h1, e, Con.start, go_sem]; rfl) | rfl) ?_
    repeat (first | ((first | refine Tri.seq (Tri.regT (cfgA0_ok.pins _) ?_) | refine Tri.rgnT (cfgA0_ok.pins _) ?_); (repeat (first | refine RunT.oneA (hp := by simp (maxSteps := 2000000) (disch := first | decide | omega | (simp only [List.length_append, List.length_cons, List.length_nil, List.length_take, List.length_drop]; omega)) only [h1, e, go_sem]; rfl) (h := ?_) | refine RunT.notA (h := ?_))); refine RunT.nil ?_; try simp only [InBlock, Then]) | refine Tri.cF (by first | (simp only [h1, e, go_sem]; done) | fail) ?_ | refine Tri.cT (by first | (simp only [h1, e, go_sem]; done) | fail) ?_ | (refine Tri.skip ?_; try simp only [InBlock, Then]) | (refine Tri.exit ?_; simp only [Then, InBlock, if_true, if_false, ↓reduceIte, Nat.reduceEqDiff]) | refine Tri.seq (Tri.block ?_) | refine Tri.block ?_ | refine Tri.seq ?_ | (refine Tri.ret ?_; refine Con.fin (.inl rfl) (by simp only [Tryd.f49, cfgA0, resA, resA1, go_sem]; rfl) (by simp only [Obs, and_true, true_and]) (by first | (simp only [kAh, Con.of, Con.ofO, resV, h1, e, go_sem]; done) | fail) trivial rfl rfl))
theorem abv_sum : FSumOK Tryd.prog cfgA0.G 49 kAh.sum := Con.sumOK cfgA0_ok kAh Tryd.func49 rfl rfl (Con.of_inv _ _ _) abv_body
end
def kVld : Con := Con.of [.v tkK, .v (.int .i64)] (fun _ => []) (fun x => ⟨.int .i64 (vlS (toI .i64 x.1.2.2.2.1) (toI .i64 x.1.2.2.2.2.1) (toI .i64 x.2.1)), []⟩)
def cfgB1t : Cfg2 := { ty := tyTab, fn := fun | 48 => some kAh.sum | _ => none, G := gNone, pin := [], eq := fun _ => none }
theorem cfgB1t_ok : CfgOK Tryd.prog cfgB1t := ⟨tysOK, (fun f s h => by
  simp only [cfgB1t] at h
  split at h
  · injection h with h; subst h; exact .inl ah_sum
  · cases h), (fun t d h => by cases h)⟩
section
attribute [local go_sem] Tryd.f20 kVld kAh cfgB1t tyTab
theorem vld_body (p : kVld.Par) (hp : ∀ q ∈ kVld.pre p, q) : BodyOK Tryd.prog cfgB1t Tryd.f20 (Tryd.f20.body.get rfl) kVld p := by
  obtain ⟨⟨(c : List UInt8), (s : List UInt8), (k : List UInt8), (st : Int), (en : Int), (fl : Int), u1⟩, (now : Int), u⟩ := p
  refine ⟨?_, Nat.zero_le _, rfl, rfl⟩
  show Tri _ _ _ (Code.seq _ (Code.seq (Code.block _ (Code.seq _ (Code.cond _ (Code.seq _ _) (Code.seq _ (Code.cond _ (Code.seq _ _) _))))) (Code.seq _ _))) _
  cases h1 : ahS st now with
  | true =>
    have e : vlS st en now = 64 := by rw [vlS, if_pos h1]
    refine Tri.at (by first | (simp only [h1, e, Con.start, go_sem]; rfl) | rfl) ?_
    repeat (first | ((first | refine Tri.seq (Tri.regT (cfgB1t_ok.pins _) ?_) | refine Tri.rgnT (cfgB1t_ok.pins _) ?_); (repeat (first | refine RunT.oneA (hp := by simp (maxSteps := 2000000) (disch := first | decide | omega | (simp only [List.length_append, List.length_cons, List.length_nil, List.length_take, List.length_drop]; omega)) only [h1, e, go_sem]; rfl) (h := ?_) | refine RunT.notA (h := ?_))); refine RunT.nil ?_; try simp only [InBlock, Then]) | refine Tri.cF (by first | (simp only [h1, e, go_sem]; done) | fail) ?_ | refine Tri.cT (by first | (simp only [h1, e, go_sem]; done) | fail) ?_ | (refine Tri.skip ?_; try simp only [InBlock, Then]) | (refine Tri.exit ?_; simp only [Then, InBlock, if_true, if_false, ↓reduceIte, Nat.reduceEqDiff]) | refine Tri.seq (Tri.block ?_) | refine Tri.block ?_ | refine Tri.seq ?_ | (refine Tri.ret ?_; refine Con.fin (.inl rfl) (by simp only [Tryd.f20, cfgB1t, resA, resA1, go_sem]; rfl) (by simp only [Obs, and_true, true_and]) (by first | (simp only [kVld, Con.of, Con.ofO, resV, h1, e, go_sem]; done) | fail) trivial rfl rfl))
  | false =>
    cases h2 : ahS now en with
    | true =>
      have e : vlS st en now = 63 := by rw [vlS, if_neg (by rw [h1]; decide), if_pos h2]
      refine Tri.at (by first | (simp only [h1, h2, e, Con.start, go_sem]; rfl) | rfl) ?_
      repeat (first | ((first | refine Tri.seq (Tri.regT (cfgB1t_ok.pins _) ?_) | refine Tri.rgnT (cfgB1t_ok.pins _) ?_); (repeat (first | refine RunT.oneA (hp := by simp (maxSteps := 2000000) (disch := first | decide | omega | (simp only [List.length_append, List.length_cons, List.length_nil, List.length_take, List.length_drop]; omega)) only [h1, h2, e, go_sem]; rfl) (h := ?_) | refine RunT.notA (h := ?_))); refine RunT.nil ?_; try simp only [InBlock, Then]) | refine Tri.cF (by first | (simp only [h1, h2, e, go_sem]; done) | fail) ?_ | refine Tri.cT (by first | (simp only [h1, h2, e, go_sem]; done) | fail) ?_ | (refine Tri.skip ?_; try simp only [InBlock, Then]) | (refine Tri.exit ?_; simp only [Then, InBlock, if_true, if_false, ↓reduceIte, Nat.reduceEqDiff]) | refine Tri.seq (Tri.block ?_) | refine Tri.block ?_ | refine Tri.seq ?_ | (refine Tri.ret ?_; refine Con.fin (.inl rfl) (by simp only [Tryd.f20, cfgB1t, resA, resA1, go_sem]; rfl) (by simp only [Obs, and_true, true_and]) (by first | (simp only [kVld, Con.of, Con.ofO, resV, h1, h2, e, go_sem]; done) | fail) trivial rfl rfl))
    | false =>
      have e : vlS st en now = 0 := by rw [vlS, if_neg (by rw [h1]; decide), if_neg (by rw [h2]; decide)]
      refine Tri.at (by first | (simp only [h1, h2, e, Con.start, go_sem]; rfl) | rfl) ?_
      repeat (first | ((first | refine Tri.seq (Tri.regT (cfgB1t_ok.pins _) ?_) | refine Tri.rgnT (cfgB1t_ok.pins _) ?_); (repeat (first | refine RunT.oneA (hp := by simp (maxSteps := 2000000) (disch := first | decide | omega | (simp only [List.length_append, List.length_cons, List.length_nil, List.length_take, List.length_drop]; omega)) only [h1, h2, e, go_sem]; rfl) (h := ?_) | refine RunT.notA (h := ?_))); refine RunT.nil ?_; try simp only [InBlock, Then]) | refine Tri.cF (by first | (simp only [h1, h2, e, go_sem]; done) | fail) ?_ | refine Tri.cT (by first | (simp only [h1, h2, e, go_sem]; done) | fail) ?_ | (refine Tri.skip ?_; try simp only [InBlock, Then]) | (refine Tri.exit ?_; simp only [Then, InBlock, if_true, if_false, ↓reduceIte, Nat.reduceEqDiff]) | refine Tri.seq (Tri.block ?_) | refine Tri.block ?_ | refine Tri.seq ?_ | (refine Tri.ret ?_; refine Con.fin (.inl rfl) (by simp only [Tryd.f20, cfgB1t, resA, resA1, go_sem]; rfl) (by simp only [Obs, and_true, true_and]) (by first | (simp only [kVld, Con.of, Con.ofO, resV, h1, h2, e, go_sem]; done) | fail) trivial rfl rfl))
theorem vld_sum : FSumOK Tryd.prog cfgB1t.G 20 kVld.sum := Con.sumOK cfgB1t_ok kVld Tryd.func20 rfl rfl (Con.of_inv _ _ _) vld_body
end
def cfgB2t : Cfg2 := { ty := tyTab, fn := fun | 49 => some kAh.sum | _ => none, G := gNone, pin := [], eq := fun _ => none }
theorem cfgB2t_ok : CfgOK Tryd.prog cfgB2t := ⟨tysOK, (fun f s h => by
  simp only [cfgB2t] at h
  split at h
  · injection h with h; subst h; exact .inl abv_sum
  · cases h), (fun t d h => by cases h)⟩
section
attribute [local go_sem] Tryd.f21 kVld kAh cfgB2t tyTab
theorem vldR_body (p : kVld.Par) (hp : ∀ q ∈ kVld.pre p, q) : BodyOK Tryd.prog cfgB2t Tryd.f21 (Tryd.f21.body.get rfl) kVld p := by
  obtain ⟨⟨(c : List UInt8), (s : List UInt8), (k : List UInt8), (st : Int), (en : Int), (fl : Int), u1⟩, (now : Int), u⟩ := p
  refine ⟨?_, Nat.zero_le _, rfl, rfl⟩
  show Tri _ _ _ (Code.seq _ (Code.seq (Code.seq _ (Code.cond _ (Code.seq _ _) _)) (Code.seq (Code.seq _ (Code.cond _ (Code.seq _ _) _)) (Code.seq _ _)))) _
  cases h1 : ahS st now with
  | true =>
    have e : vlS st en now = 64 := by rw [vlS, if_pos h1]
    refine Tri.at (by first | (simp only [h1, e, Con.start, go_sem]; rfl) | rfl) ?_
    repeat (first | ((first | refine Tri.seq (Tri.regT (cfgB2t_ok.pins _) ?_) | refine Tri.rgnT (cfgB2t_ok.pins _) ?_); (repeat (first | refine RunT.oneA (hp := by simp (maxSteps := 2000000) (disch := first | decide | omega | (simp only [List.length_append, List.length_cons, List.length_nil, List.length_take, List.length_drop]; omega)) only [h1, e, go_sem]; rfl) (h := ?_) | refine RunT.notA (h := ?_))); refine RunT.nil ?_; try simp only [InBlock, Then]) | refine Tri.cF (by first | (simp only [h1, e, go_sem]; done) | fail) ?_ | refine Tri.cT (by first | (simp only [h1, e, go_sem]; done) | fail) ?_ | (refine Tri.skip ?_; try simp only [InBlock, Then]) | (refine Tri.exit ?_; simp only [Then, InBlock, if_true, if_false, ↓reduceIte, Nat.reduceEqDiff]) | refine Tri.seq (Tri.block ?_) | refine Tri.block ?_ | refine Tri.seq ?_ | (refine Tri.ret ?_; refine Con.fin (.inl rfl) (by simp only [Tryd.f21, cfgB2t, resA, resA1, go_sem]; rfl) (by simp only [Obs, and_true, true_and]) (by first | (simp only [kVld, Con.of, Con.ofO, resV, h1, e, go_sem]; done) | fail) trivial rfl rfl))
  | false =>
    cases h2 : ahS now en with
    | true =>
      have e : vlS st en now = 63 := by rw [vlS, if_neg (by rw [h1]; decide), if_pos h2]
      refine Tri.at (by first | (simp only [h1, h2, e, Con.start, go_sem]; rfl) | rfl) ?_
      repeat (first | ((first | refine Tri.seq (Tri.regT (cfgB2t_ok.pins _) ?_) | refine Tri.rgnT (cfgB2t_ok.pins _) ?_); (repeat (first | refine RunT.oneA (hp := by simp (maxSteps := 2000000) (disch := first | decide | omega | (simp only [List.length_append, List.length_cons, List.length_nil, List.length_take, List.length_drop]; omega)) only [h1, h2, e, go_sem]; rfl) (h := ?_) | refine RunT.notA (h := ?_))); refine RunT.nil ?_; try simp only [InBlock, Then]) | refine Tri.cF (by first | (simp only [h1, h2, e, go_sem]; done) | fail) ?_ | refine Tri.cT (by first | (simp only [h1, h2, e, go_sem]; done) | fail) ?_ | (refine Tri.skip ?_; try simp only [InBlock, Then]) | (refine Tri.exit ?_; simp only [Then, InBlock, if_true, if_false, ↓reduceIte, Nat.reduceEqDiff]) | refine Tri.seq (Tri.block ?_) | refine Tri.block ?_ | refine Tri.seq ?_ | (refine Tri.ret ?_; refine Con.fin (.inl rfl) (by simp only [Tryd.f21, cfgB2t, resA, resA1, go_sem]; rfl) (by simp only [Obs, and_true, true_and]) (by first | (simp only [kVld, Con.of, Con.ofO, resV, h1, h2, e, go_sem]; done) | fail) trivial rfl rfl))
    | false =>
      have e : vlS st en now = 0 := by rw [vlS, if_neg (by rw [h1]; decide), if_neg (by rw [h2]; decide)]
      refine Tri.at (by first | (simp only [h1, h2, e, Con.start, go_sem]; rfl) | rfl) ?_
      repeat (first | ((first | refine Tri.seq (Tri.regT (cfgB2t_ok.pins _) ?_) | refine Tri.rgnT (cfgB2t_ok.pins _) ?_); (repeat (first | refine RunT.oneA (hp := by simp (maxSteps := 2000000) (disch := first | decide | omega | (simp only [List.length_append, List.length_cons, List.length_nil, List.length_take, List.length_drop]; omega)) only [h1, h2, e, go_sem]; rfl) (h := ?_) | refine RunT.notA (h := ?_))); refine RunT.nil ?_; try simp only [InBlock, Then]) | refine Tri.cF (by first | (simp only [h1, h2, e, go_sem]; done) | fail) ?_ | refine Tri.cT (by first | (simp only [h1, h2, e, go_sem]; done) | fail) ?_ | (refine Tri.skip ?_; try simp only [InBlock, Then]) | (refine Tri.exit ?_; simp only [Then, InBlock, if_true, if_false, ↓reduceIte, Nat.reduceEqDiff]) | refine Tri.seq (Tri.block ?_) | refine Tri.block ?_ | refine Tri.seq ?_ | (refine Tri.ret ?_; refine Con.fin (.inl rfl) (by simp only [Tryd.f21, cfgB2t, resA, resA1, go_sem]; rfl) (by simp only [Obs, and_true, true_and]) (by first | (simp only [kVld, Con.of, Con.ofO, resV, h1, h2, e, go_sem]; done) | fail) trivial rfl rfl))
theorem vldR_sum : FSumOK Tryd.prog cfgB2t.G 21 kVld.sum := Con.sumOK cfgB2t_ok kVld Tryd.func21 rfl rfl (Con.of_inv _ _ _) vldR_body
end
end Go.Proofs.YtjdeaphfamenaaaDoor

namespace Go.Proofs.YtjdeaphfamenaaaDoor
open Go.Vc Go.Proofs
set_option maxRecDepth 10000
set_option maxHeartbeats 4000000
def kTsp : Con := Con.of [] (fun _ => []) (fun _ => ⟨.bool true, []⟩)
def tk0 : tkK.T := ([97, 64, 82], [98, 64, 82], [0, 0, 0, 0, 0, 0, 0, 0, 0, 0, 0, 0, 0, 0, 0, 0], (100 : Int), (200 : Int), (0 : Int), ())
theorem tw0 : twV tk0 = .tuple [.pure (.slice true (.int .u8)) (jnF (tgF 1 (twL tk0))), .int .i64 (0 : Int)] := by
  rw [twV, if_pos (by decide)]
theorem jn0 : decide ((0 : Int) < (((jnF (tgF 1 (twL tk0))).length : Nat) : Int)) = true := by
  refine decide_eq_true ?_
  show (0 : Int) < (((flB ((1 : Int), [97, 64, 82], ()) ++ jnF _).length : Nat) : Int)
  rw [List.length_append, flB_len]
  omega
def cfgF1t : Cfg2 := { ty := tyTab, fn := fun | 47 => some kTw.sum | 20 => some kVld.sum | _ => none, G := gNone, pin := [], eq := fun _ => none }
theorem cfgF1t_ok : CfgOK Tryd.prog cfgF1t := ⟨tysOK, (fun f s h => by
  simp only [cfgF1t] at h
  split at h
  · injection h with h; subst h; exact .inl twr_sum
  · injection h with h; subst h; exact .inl vld_sum
  · cases h), (fun t d h => by cases h)⟩
section
attribute [local go_sem] Tryd.f19 kTsp kTw kVld cfgF1t tyTab
theorem tsp_body (p : kTsp.Par) (hp : ∀ q ∈ kTsp.pre p, q) : BodyOK Tryd.prog cfgF1t Tryd.f19 (Tryd.f19.body.get rfl) kTsp p := by
  obtain ⟨⟩ := p
  refine ⟨?_, Nat.zero_le _, rfl, rfl⟩
  show Tri _ _ _ (Code.seq _ (Code.seq _ (Code.seq _ (Code.seq _ _)))) _
  have e1 : vlS 100 200 89 = 64 := by decide
  have e2 : vlS 100 200 90 = 0 := by decide
  have e3 : vlS 100 200 210 = 0 := by decide
  have e4 : vlS 100 200 211 = 63 := by decide
  have z1 : decide ((0 : Int) = 0) = true := rfl
  have z2 : decide ((64 : Int) = 64) = true := rfl
  have z3 : decide ((63 : Int) = 63) = true := rfl
  have t1 : twV ([97, 64, 82], [98, 64, 82], [0, 0, 0, 0, 0, 0, 0, 0, 0, 0, 0, 0, 0, 0, 0, 0], (100 : Int), (200 : Int), (0 : Int), ()) = _ := tw0
  have t2 := jn0
  generalize jnF (tgF 1 (twL tk0)) = L at t1 t2
  refine Tri.at (by first | (simp only [t1, t2, e1, e2, e3, e4, z1, z2, z3, Con.start, go_sem]; rfl) | rfl) ?_
  repeat (first | ((first | refine Tri.seq (Tri.regT (cfgF1t_ok.pins _) ?_) | refine Tri.rgnT (cfgF1t_ok.pins _) ?_); (repeat (first | refine RunT.oneA (hp := by simp (maxSteps := 2000000) (disch := first | decide | omega | (simp only [List.length_append, List.length_cons, List.length_nil, List.length_take, List.length_drop]; omega)) only [t1, t2, e1, e2, e3, e4, z1, z2, z3, go_sem]; rfl) (h := ?_) | refine RunT.notA (h := ?_))); refine RunT.nil ?_; try simp only [InBlock, Then]) | refine Tri.cF (by first | (simp only [t1, t2, e1, e2, e3, e4, z1, z2, z3, go_sem]; done) | fail) ?_ | refine Tri.cT (by first | (simp only [t1, t2, e1, e2, e3, e4, z1, z2, z3, go_sem]; done) | fail) ?_ | (refine Tri.skip ?_; try simp only [InBlock, Then]) | (refine Tri.exit ?_; simp only [Then, InBlock, if_true, if_false, ↓reduceIte, Nat.reduceEqDiff]) | refine Tri.seq (Tri.block ?_) | refine Tri.block ?_ | refine Tri.seq ?_ | (refine Tri.ret ?_; refine Con.fin (.inl rfl) (by simp only [Tryd.f19, cfgF1t, resA, resA1, go_sem]; rfl) (by simp only [Obs, and_true, true_and]) (by first | (simp only [kTsp, Con.of, Con.ofO, resV, t1, t2, e1, e2, e3, e4, z1, z2, z3, go_sem]; done) | fail) trivial rfl rfl))
theorem tsp_sum : FSumOK Tryd.prog cfgF1t.G 19 kTsp.sum := Con.sumOK cfgF1t_ok kTsp Tryd.func19 rfl rfl (Con.of_inv _ _ _) tsp_body
end
end Go.Proofs.YtjdeaphfamenaaaDoor
