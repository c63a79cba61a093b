/- Part of a proof: authenticators are written and read as the document says -/
import Derived.Test.YtjdeaphfamenaaaDoorP1
set_option linter.unusedVariables false
set_option linter.unusedSimpArgs false
set_option linter.unusedSectionVars false
namespace Go.Proofs.YtjdeaphfamenaaaDoor
open Go.Vc Go.Proofs
set_option maxRecDepth 10000
set_option maxHeartbeats 4000000
def tgF (n : Int) : List (List UInt8) → List flL.T
  | [] => []
  | v :: r => ((n, v, ()) : flL.T) :: tgF (n + 1) r
theorem tgF_len : ∀ (vs : List (List UInt8)) (n : Int), (tgF n vs).length = vs.length
  | [], _ => rfl
  | v :: r, n => by rw [tgF, List.length_cons, List.length_cons, tgF_len r]
theorem tgF_take : ∀ (vs : List (List UInt8)) (n : Int) (i : Nat), i < vs.length → tgF n (vs.take (i + 1)) = tgF n (vs.take i) ++ [((n + i, vs.getD i [], ()) : flL.T)]
  | [], n, i, h => by simp at h
  | v :: r, n, 0, h => by show [((n, v, ()) : flL.T)] = [((n + ((0 : Nat) : Int), v, ()) : flL.T)]; simp
  | v :: r, n, i + 1, h => by
    have ih := tgF_take r (n + 1) i (by simpa using h)
    rw [List.take_succ_cons, tgF, ih, List.take_succ_cons, tgF, List.cons_append]
    have : n + 1 + (i : Int) = n + ((i + 1 : Nat) : Int) := by omega
    rw [this]
    rfl
theorem tgF_ok : ∀ (vs : List (List UInt8)) (n : Int), 1 ≤ n → n + vs.length ≤ 255 → (∀ v ∈ vs, List.length v ≤ 65535) → ∀ f ∈ tgF n vs, flOK f
  | [], _, _, _, _, f, hf => by simp [tgF] at hf
  | v :: r, n, h1, h2, h3, f, hf => by
    rw [List.length_cons] at h2
    rcases List.mem_cons.1 hf with rfl | hf
    · exact ⟨h1, (by show n ≤ 255; omega), h3 v (by simp)⟩
    · exact tgF_ok r (n + 1) (by omega) (by omega) (fun x hx => h3 x (List.mem_cons_of_mem _ hx)) f hf
def kTj : Con := Con.ofO [.a (.v (.int .i64)), .w (.slice false (.slice false (.int .u8)))] [] (fun x => [List.length (α := List UInt8) x.2.1 ≤ 10, 1 ≤ toI .i64 x.1, toI .i64 x.1 ≤ 200, ∀ v ∈ x.2.1, List.length (α := UInt8) v ≤ 65535])
  (fun x => ⟨.tuple [.pure (.slice true (.int .u8)) (jnF (tgF (toI .i64 x.1) x.2.1)), .int .i64 (0 : Int)], []⟩)
def cfgD1t : Cfg2 := { ty := tyTabT, fn := fun | 56 => some kJn.sum | _ => none, G := gNone, pin := [], eq := fun _ => none }
theorem cfgD1t_ok : CfgOK Tryd.prog cfgD1t := ⟨tyTabT_ok, (fun f s h => by
  simp only [cfgD1t] at h
  split at h
  · injection h with h; subst h; exact .inl tjn_sum
  · cases h), (fun t d h => by cases h)⟩
section
attribute [local go_sem] Tryd.f58 kTj kJn cfgD1t tyTabT tyTab
theorem tkj_body (p : kTj.Par) (hp : ∀ q ∈ kTj.pre p, q) : BodyOK Tryd.prog cfgD1t Tryd.f58 (Tryd.f58.body.get rfl) kTj p := by
  obtain ⟨(n : Int), (vs : List (List UInt8)), u⟩ := p
  obtain ⟨h0, h1, h2, h3, _⟩ := Obs.of hp
  replace h0 : vs.length ≤ 10 := h0
  replace h1 : 1 ≤ n := h1
  replace h2 : n ≤ 200 := h2
  replace h3 : ∀ v ∈ vs, List.length v ≤ 65535 := h3
  have hok := tgF_ok vs n h1 (by omega) h3
  refine ⟨?_, Nat.zero_le _, rfl, rfl⟩
  show Tri _ _ _ (Code.seq _ (Code.seq _ (Code.seq (Code.seq _ (Code.block _ (Code.loop (Code.seq _ (Code.seq (Code.cond _ _ _) (Code.seq (Code.block _ (Code.seq _ _)) _)))))) (Code.seq _ _)))) _
  refine Tri.at (by first | (simp only [go_sem, Con.start, go_sem]; rfl) | rfl) ?_
  repeat (first | ((first | refine Tri.seq (Tri.regT (cfgD1t_ok.pins _) ?_) | refine Tri.rgnT (cfgD1t_ok.pins _) ?_); (repeat (first | refine RunT.oneA (hp := by simp (maxSteps := 2000000) (disch := first | decide | omega | (simp only [List.length_append, List.length_cons, List.length_nil, List.length_take, List.length_drop]; omega)) only [go_sem, go_sem]; rfl) (h := ?_) | refine RunT.notA (h := ?_))); refine RunT.nil ?_; try simp only [InBlock, Then]) | refine Tri.cF (by first | (simp only [go_sem, go_sem]; done) | fail) ?_ | refine Tri.cT (by first | (simp only [go_sem, go_sem]; done) | fail) ?_ | (refine Tri.skip ?_; try simp only [InBlock, Then]) | (refine Tri.exit ?_; simp only [Then, InBlock, if_true, if_false, ↓reduceIte, Nat.reduceEqDiff]) | refine Tri.seq (Tri.block ?_) | refine Tri.block ?_ | refine Tri.seq ?_ | (refine Tri.ret ?_; refine Con.fin (.inl rfl) (by simp only [Tryd.f58, cfgD1t, resA, resA1, go_sem]; rfl) (by simp only [Obs, and_true, true_and]) (by first | (simp only [kTj, Con.of, Con.ofO, resV, go_sem, go_sem]; done) | fail) trivial rfl rfl))
  have hj0 : tgF n (vs.take 0) = [] := rfl
  refine Tri.phT 6 flL 2 rfl rfl ?_
  refine Tri.loop (fun i : Nat => (⟨[some (.int .i64 n), some (.pure (.slice false (.slice false (.int .u8))) vs), none, none, some (.nilsl), some (.int .i64 (0 : Int)), some (.tsl 0 [] 0 0 2 i), none, none, some (.pure (.slice false (.slice false (.int .u8))) vs), some (.int .i64 (vs.length : Int)), some (.int .i64 (i : Int))] ++ List.replicate 17 none, [.live (.pure (.arr i flL) (tgF n (vs.take i)))]⟩ : AS)) (fun i => i ≤ vs.length) (fun i => vs.length - i) 0 ?_ (Nat.zero_le _) ?_
  · refine Wk.of ?_ ?_ rfl rfl
    · simp only [lessTs, List.reduceReplicate, List.cons_append, List.nil_append] <;> ((repeat' apply And.intro) <;> first | with_reducible rfl | exact True.intro | exact congrArg (fun z : Int => some (AV.int IntKind.i64 z)) (show (_ : Int) = _ by omega) | exact congrArg (fun z : Nat => some (AV.tsl _ _ _ _ _ z)) (show (_ : Nat) = _ by omega) | exact arrEq (by omega) (by with_reducible rfl))
    exact ⟨arrEq rfl hj0.symm, trivial⟩
  · intro i hi
    have hil : (tgF n (vs.take i)).length = i := by rw [tgF_len, List.length_take]; omega
    have htk : List.take i (tgF n (vs.take i)) = tgF n (vs.take i) := List.take_of_length_le (by omega)
    by_cases hc : i < vs.length
    · have hc' : decide ((i : Int) < (vs.length : Int)) = true := decide_eq_true (by omega)
      have htt := tgF_take vs n i hc
      refine Tri.at (by first | (simp only [hc', htk, Con.start, go_sem]; rfl) | rfl) ?_
      repeat (first | ((first | refine Tri.seq (Tri.regT (cfgD1t_ok.pins _) ?_) | refine Tri.rgnT (cfgD1t_ok.pins _) ?_); (repeat (first | refine RunT.oneA (hp := by simp (maxSteps := 2000000) (disch := first | decide | omega | (simp only [List.length_append, List.length_cons, List.length_nil, List.length_take, List.length_drop]; omega)) only [hc', htk, go_sem]; rfl) (h := ?_) | refine RunT.notA (h := ?_))); refine RunT.nil ?_; try simp only [InBlock, Then]) | ((first | refine Tri.seq (Tri.drwT (mixed) (cfgD1t_ok.pins _) ?_) | refine Tri.drnT (mixed) (cfgD1t_ok.pins _) ?_); (repeat (first | refine RunD.oneA (hp := by simp (maxSteps := 2000000) (disch := first | decide | omega | (simp only [List.length_append, List.length_cons, List.length_nil, List.length_take, List.length_drop]; omega)) only [hc', htk, go_sem]; rfl) (h := ?_) | refine RunD.notA (h := ?_))); refine RunD.nil ?_; refine ⟨by kernel_rfl, ?_⟩; try simp only [InBlock, Then]) | refine Tri.cF (by first | (simp only [hc', htk, go_sem]; done) | fail) ?_ | refine Tri.cT (by first | (simp only [hc', htk, go_sem]; done) | fail) ?_ | (refine Tri.skip ?_; try simp only [InBlock, Then]) | (refine Tri.exit ?_; simp only [Then, InBlock, if_true, if_false, ↓reduceIte, Nat.reduceEqDiff]) | refine Tri.seq (Tri.block ?_) | refine Tri.block ?_ | refine Tri.seq ?_ | (refine Tri.ret ?_; refine Con.fin (.inl rfl) (by simp only [Tryd.f58, cfgD1t, resA, resA1, go_sem]; rfl) (by simp only [Obs, and_true, true_and]) (by first | (simp only [kTj, Con.of, Con.ofO, resV, hc', htk, go_sem]; done) | fail) trivial rfl rfl))
      refine ⟨i + 1, (by omega), (by omega), Wk.of ?_ ?_ rfl rfl⟩
      · simp only [lessTs, List.reduceReplicate, List.cons_append, List.nil_append] <;> ((repeat' apply And.intro) <;> first | with_reducible rfl | exact True.intro | exact congrArg (fun z : Int => some (AV.int IntKind.i64 z)) (show (_ : Int) = _ by omega) | exact congrArg (fun z : Nat => some (AV.tsl _ _ _ _ _ z)) (show (_ : Nat) = _ by omega) | exact arrEq (by omega) (by with_reducible rfl))
      · exact ⟨arrEq rfl htt.symm, trivial⟩
    · have hc' : decide ((i : Int) < (vs.length : Int)) = false := decide_eq_false (by omega)
      have hiv : i = vs.length := by omega
      subst hiv
      rw [List.take_length] at htk hil ⊢
      refine Tri.at (by first | (simp only [hc', htk, hil, Con.start, go_sem]; rfl) | rfl) ?_
      repeat (first | ((first | refine Tri.seq (Tri.regT (cfgD1t_ok.pins _) ?_) | refine Tri.rgnT (cfgD1t_ok.pins _) ?_); (repeat (first | refine RunT.oneA (hp := by simp (maxSteps := 2000000) (disch := first | decide | omega | (simp only [List.length_append, List.length_cons, List.length_nil, List.length_take, List.length_drop]; omega)) only [hc', htk, hil, go_sem]; rfl) (h := ?_) | refine RunT.notA (h := ?_))); refine RunT.nil ?_; try simp only [InBlock, Then]) | refine Tri.cF (by first | (simp only [hc', htk, hil, go_sem]; done) | fail) ?_ | refine Tri.cT (by first | (simp only [hc', htk, hil, go_sem]; done) | fail) ?_ | (refine Tri.skip ?_; try simp only [InBlock, Then]) | (refine Tri.exit ?_; simp only [Then, InBlock, if_true, if_false, ↓reduceIte, Nat.reduceEqDiff]) | refine Tri.seq (Tri.block ?_) | refine Tri.block ?_ | refine Tri.seq ?_ | (refine Tri.ret ?_; refine Con.fin (.inl rfl) (by simp only [Tryd.f58, cfgD1t, resA, resA1, go_sem]; rfl) (by simp only [Obs, and_true, true_and]) (by first | (simp only [kTj, Con.of, Con.ofO, resV, hc', htk, hil, go_sem]; done) | fail) trivial rfl rfl))
theorem tkj_sum : FSumOK Tryd.prog cfgD1t.G 58 kTj.sum := Con.sumOK cfgD1t_ok kTj Tryd.func58 rfl rfl (Con.ofO_inv _ _ _ _) tkj_body
end
def kNm : Con := Con.of [.v (.int .i64)] (fun _ => []) (fun x => ⟨.tsl 0 [] 0 0 1 (numS (UInt64.ofInt (toI .i64 x.1))).length, [.pure (.arr (numS (UInt64.ofInt (toI .i64 x.1))).length (.int .u8)) (numS (UInt64.ofInt (toI .i64 x.1)))]⟩)
def cfgD2t : Cfg2 := { ty := tyTab, fn := fun | 60 => some kNum.sum | _ => none, G := gNone, pin := [], eq := fun _ => none }
theorem cfgD2t_ok : CfgOK Tryd.prog cfgD2t := ⟨tysOK, (fun f s h => by
  simp only [cfgD2t] at h
  split at h
  · injection h with h; subst h; exact .inl num_sum
  · cases h), (fun t d h => by cases h)⟩
section
attribute [local go_sem] Tryd.f59 kNm kNum cfgD2t tyTab
theorem tnm_body (p : kNm.Par) (hp : ∀ q ∈ kNm.pre p, q) : BodyOK Tryd.prog cfgD2t Tryd.f59 (Tryd.f59.body.get rfl) kNm p := by
  obtain ⟨(n : Int), u⟩ := p
  refine ⟨?_, Nat.zero_le _, rfl, rfl⟩
  show Tri _ _ _ (Code.seq _ (Code.seq _ _)) _
  refine Tri.at (by first | (simp only [go_sem, Con.start, go_sem]; rfl) | rfl) ?_
  repeat (first | ((first | refine Tri.seq (Tri.regT (cfgD2t_ok.pins _) ?_) | refine Tri.rgnT (cfgD2t_ok.pins _) ?_); (repeat (first | refine RunT.oneA (hp := by simp (maxSteps := 2000000) (disch := first | decide | omega | (simp only [List.length_append, List.length_cons, List.length_nil, List.length_take, List.length_drop]; omega)) only [go_sem, go_sem]; rfl) (h := ?_) | refine RunT.notA (h := ?_))); refine RunT.nil ?_; try simp only [InBlock, Then]) | refine Tri.cF (by first | (simp only [go_sem, go_sem]; done) | fail) ?_ | refine Tri.cT (by first | (simp only [go_sem, go_sem]; done) | fail) ?_ | (refine Tri.skip ?_; try simp only [InBlock, Then]) | (refine Tri.exit ?_; simp only [Then, InBlock, if_true, if_false, ↓reduceIte, Nat.reduceEqDiff]) | refine Tri.seq (Tri.block ?_) | refine Tri.block ?_ | refine Tri.seq ?_ | (refine Tri.ret ?_; refine Con.fin (.inl rfl) (by simp only [Tryd.f59, cfgD2t, resA, resA1, go_sem]; rfl) (by simp only [Obs, and_true, true_and]) (by first | (simp only [kNm, Con.of, Con.ofO, resV, go_sem, go_sem]; done) | fail) trivial rfl rfl))
  refine Tri.ret ?_
  refine Con.fin (.inl rfl) (by simp only [Tryd.f59, cfgD2t, resA, resA1, go_sem]; rfl) (by simp only [Obs, and_true, true_and]) ?_ ?_ rfl rfl
  · rfl
  · exact ⟨rfl, trivial⟩
theorem tnm_sum : FSumOK Tryd.prog cfgD2t.G 59 kNm.sum := Con.sumOK cfgD2t_ok kNm Tryd.func59 rfl rfl (Con.of_inv _ _ _) tnm_body
end
def kNmd : Con := Con.of [.v .str] (fun x => [List.length (α := UInt8) x.1 ≤ 1000000000]) (fun x => ⟨.bool (rgS (pwS x.1)), []⟩)
def cfgD3t : Cfg2 := { ty := tyTab, fn := fun | 25 => some kPrs.sum | _ => none, G := gNone, pin := [], eq := fun _ => none }
theorem cfgD3t_ok : CfgOK Tryd.prog cfgD3t := ⟨tysOK, (fun f s h => by
  simp only [cfgD3t] at h
  split at h
  · injection h with h; subst h; exact .inl prs_sum
  · cases h), (fun t d h => by cases h)⟩
section
attribute [local go_sem] Tryd.f57 kNmd kPrs cfgD3t tyTab
theorem nmd_body (p : kNmd.Par) (hp : ∀ q ∈ kNmd.pre p, q) : BodyOK Tryd.prog cfgD3t Tryd.f57 (Tryd.f57.body.get rfl) kNmd p := by
  obtain ⟨(s : List UInt8), u⟩ := p
  obtain ⟨h0, _⟩ := Obs.of hp
  replace h0 : s.length ≤ 1000000000 := h0
  refine ⟨?_, Nat.zero_le _, rfl, rfl⟩
  show Tri _ _ _ (Code.seq _ (Code.seq _ (Code.seq _ _))) _
  have z1 : decide ((0 : Int) = 0) = true := rfl
  have z2 : decide ((30 : Int) = 0) = false := rfl
  cases hr : rgS (pwS s) with
  | false =>
    have e1 : prV s = .pure nmK ([], [], ()) := by rw [prV, hr]; rfl
    have e3 : pcS s = 30 := by
      have : rgS (splS 47 (cutA s 64), cutR s 64, ()) = false := hr
      rw [pcS, ckS, this]; rfl
    refine Tri.at (by first | (simp only [hr, e1, e3, z2, Con.start, go_sem]; rfl) | rfl) ?_
    repeat (first | ((first | refine Tri.seq (Tri.regT (cfgD3t_ok.pins _) ?_) | refine Tri.rgnT (cfgD3t_ok.pins _) ?_); (repeat (first | refine RunT.oneA (hp := by simp (maxSteps := 2000000) (disch := first | decide | omega | (simp only [List.length_append, List.length_cons, List.length_nil, List.length_take, List.length_drop]; omega)) only [hr, e1, e3, z2, go_sem]; rfl) (h := ?_) | refine RunT.notA (h := ?_))); refine RunT.nil ?_; try simp only [InBlock, Then]) | refine Tri.cF (by first | (simp only [hr, e1, e3, z2, go_sem]; done) | fail) ?_ | refine Tri.cT (by first | (simp only [hr, e1, e3, z2, go_sem]; done) | fail) ?_ | (refine Tri.skip ?_; try simp only [InBlock, Then]) | (refine Tri.exit ?_; simp only [Then, InBlock, if_true, if_false, ↓reduceIte, Nat.reduceEqDiff]) | refine Tri.seq (Tri.block ?_) | refine Tri.block ?_ | refine Tri.seq ?_ | (refine Tri.ret ?_; refine Con.fin (.inl rfl) (by simp only [Tryd.f57, cfgD3t, resA, resA1, go_sem]; rfl) (by simp only [Obs, and_true, true_and]) (by first | (simp only [kNmd, Con.of, Con.ofO, resV, hr, e1, e3, z2, go_sem]; done) | fail) trivial rfl rfl))
  | true =>
    have e1 : prV s = .agg [.pure (.slice true .str) (splS 47 (cutA s 64)), .str (cutR s 64)] := by rw [prV, hr]; rfl
    have e3 : pcS s = 0 := by
      have : rgS (splS 47 (cutA s 64), cutR s 64, ()) = true := hr
      rw [pcS, ckS, this]; rfl
    refine Tri.at (by first | (simp only [hr, e1, e3, z1, Con.start, go_sem]; rfl) | rfl) ?_
    repeat (first | ((first | refine Tri.seq (Tri.regT (cfgD3t_ok.pins _) ?_) | refine Tri.rgnT (cfgD3t_ok.pins _) ?_); (repeat (first | refine RunT.oneA (hp := by simp (maxSteps := 2000000) (disch := first | decide | omega | (simp only [List.length_append, List.length_cons, List.length_nil, List.length_take, List.length_drop]; omega)) only [hr, e1, e3, z1, go_sem]; rfl) (h := ?_) | refine RunT.notA (h := ?_))); refine RunT.nil ?_; try simp only [InBlock, Then]) | refine Tri.cF (by first | (simp only [hr, e1, e3, z1, go_sem]; done) | fail) ?_ | refine Tri.cT (by first | (simp only [hr, e1, e3, z1, go_sem]; done) | fail) ?_ | (refine Tri.skip ?_; try simp only [InBlock, Then]) | (refine Tri.exit ?_; simp only [Then, InBlock, if_true, if_false, ↓reduceIte, Nat.reduceEqDiff]) | refine Tri.seq (Tri.block ?_) | refine Tri.block ?_ | refine Tri.seq ?_ | (refine Tri.ret ?_; refine Con.fin (.inl rfl) (by simp only [Tryd.f57, cfgD3t, resA, resA1, go_sem]; rfl) (by simp only [Obs, and_true, true_and]) (by first | (simp only [kNmd, Con.of, Con.ofO, resV, hr, e1, e3, z1, go_sem]; done) | fail) trivial rfl rfl))
theorem nmd_sum : FSumOK Tryd.prog cfgD3t.G 57 kNmd.sum := Con.sumOK cfgD3t_ok kNmd Tryd.func57 rfl rfl (Con.of_inv _ _ _) nmd_body
end
def laS (st en fl : Int) : Bool := !decide (st < 0) && (!decide (en < st) && (!decide ((1099511627776 : Int) < en) && (!decide (fl < 0) && !decide ((3 : Int) < fl))))
def kLa : Con := Con.of [.v (.int .i64), .v (.int .i64), .v (.int .i64)] (fun _ => []) (fun x => ⟨.bool (laS (toI .i64 x.1) (toI .i64 x.2.1) (toI .i64 x.2.2.1)), []⟩)
def cfgD4t : Cfg2 := { ty := tyTab, fn := fun  | _ => none, G := gNone, pin := [], eq := fun _ => none }
theorem cfgD4t_ok : CfgOK Tryd.prog cfgD4t := ⟨tysOK, (fun f s h => by cases h), (fun t d h => by cases h)⟩
section
attribute [local go_sem] Tryd.f81 kLa cfgD4t tyTab
theorem las_body (p : kLa.Par) (hp : ∀ q ∈ kLa.pre p, q) : BodyOK Tryd.prog cfgD4t Tryd.f81 (Tryd.f81.body.get rfl) kLa p := by
  obtain ⟨(st : Int), (en : Int), (fl : Int), u⟩ := p
  refine ⟨?_, Nat.zero_le _, rfl, rfl⟩
  show Tri _ _ _ (Code.seq _ (Code.seq _ _)) _
  cases b1 : decide (st < 0)
  all_goals cases b2 : decide (en < st)
  all_goals cases b3 : decide ((1099511627776 : Int) < en)
  all_goals cases b4 : decide (fl < 0)
  all_goals
    have e : laS st en fl = (!decide (st < 0) && (!decide (en < st) && (!decide ((1099511627776 : Int) < en) && (!decide (fl < 0) && !decide ((3 : Int) < fl))))) := rfl
    rw [b1, b2, b3, b4] at e
    simp only [Bool.not_true, Bool.not_false, Bool.true_and, Bool.false_and] at e
    refine Tri.at (by first | (simp only [b1, b2, b3, b4, e, Con.start, go_sem]; rfl) | rfl) ?_
    repeat (first | ((first | refine Tri.seq (Tri.regT (cfgD4t_ok.pins _) ?_) | refine Tri.rgnT (cfgD4t_ok.pins _) ?_); (repeat (first | refine RunT.oneA (hp := by simp (maxSteps := 2000000) (disch := first | decide | omega | (simp only [List.length_append, List.length_cons, List.length_nil, List.length_take, List.length_drop]; omega)) only [b1, b2, b3, b4, e, go_sem]; rfl) (h := ?_) | refine RunT.notA (h := ?_))); refine RunT.nil ?_; try simp only [InBlock, Then]) | refine Tri.cF (by first | (simp only [b1, b2, b3, b4, e, go_sem]; done) | fail) ?_ | refine Tri.cT (by first | (simp only [b1, b2, b3, b4, e, go_sem]; done) | fail) ?_ | (refine Tri.skip ?_; try simp only [InBlock, Then]) | (refine Tri.exit ?_; simp only [Then, InBlock, if_true, if_false, ↓reduceIte, Nat.reduceEqDiff]) | refine Tri.seq (Tri.block ?_) | refine Tri.block ?_ | refine Tri.seq ?_ | (refine Tri.ret ?_; refine Con.fin (.inl rfl) (by simp only [Tryd.f81, cfgD4t, resA, resA1, go_sem]; rfl) (by simp only [Obs, and_true, true_and]) (by first | (simp only [kLa, Con.of, Con.ofO, resV, b1, b2, b3, b4, e, go_sem]; done) | fail) trivial rfl rfl))
theorem las_sum : FSumOK Tryd.prog cfgD4t.G 81 kLa.sum := Con.sumOK cfgD4t_ok kLa Tryd.func81 rfl rfl (Con.of_inv _ _ _) las_body
end
end Go.Proofs.YtjdeaphfamenaaaDoor

namespace Go.Proofs.YtjdeaphfamenaaaDoor
open Go.Vc Go.Proofs
set_option maxRecDepth 10000
set_option maxHeartbeats 4000000
def twR (t : tkK.T) : Bool := rgS (pwS t.1) && (rgS (pwS t.2.1) && laS t.2.2.2.1 t.2.2.2.2.1 t.2.2.2.2.2.1)
def twL (t : tkK.T) : List (List UInt8) := [t.1, t.2.1, t.2.2.1, numS (UInt64.ofInt t.2.2.2.1), numS (UInt64.ofInt t.2.2.2.2.1), numS (UInt64.ofInt t.2.2.2.2.2.1)]
def twV (t : tkK.T) : AV := if twR t = true then .tuple [.pure (.slice true (.int .u8)) (jnF (tgF 1 (twL t))), .int .i64 (0 : Int)] else .tuple [.nilsl, .int .i64 (1 : Int)]
def kTw : Con := Con.of [.v tkK] (fun x => [List.length (α := UInt8) x.1.1 ≤ 1000000000, List.length (α := UInt8) x.1.2.1 ≤ 1000000000, List.length (α := UInt8) x.1.2.2.1 = 16]) (fun x => ⟨twV x.1, []⟩)
theorem pw_len {s : List UInt8} (h : rgS (pwS s) = true) : s.length ≤ 70 := by
  rw [← tx_pw h]; exact tx_length h
def cfgE1t : Cfg2 := { ty := tyTabT, fn := fun | 57 => some kNmd.sum | 81 => some kLa.sum | 59 => some kNm.sum | 58 => some kTj.sum | _ => none, G := gNone, pin := [], eq := fun _ => none }
theorem cfgE1t_ok : CfgOK Tryd.prog cfgE1t := ⟨tyTabT_ok, (fun f s h => by
  simp only [cfgE1t] at h
  split at h
  · injection h with h; subst h; exact .inl nmd_sum
  · injection h with h; subst h; exact .inl las_sum
  · injection h with h; subst h; exact .inl tnm_sum
  · injection h with h; subst h; exact .inl tkj_sum
  · cases h), (fun t d h => by cases h)⟩
section
attribute [local go_sem] Tryd.f47 kTw kNmd kLa kNm kTj cfgE1t tyTabT tyTab
theorem twr_body (p : kTw.Par) (hp : ∀ q ∈ kTw.pre p, q) : BodyOK Tryd.prog cfgE1t Tryd.f47 (Tryd.f47.body.get rfl) kTw p := by
  obtain ⟨⟨(c : List UInt8), (s : List UInt8), (k : List UInt8), (st : Int), (en : Int), (fl : Int), u1⟩, u⟩ := p
  obtain ⟨h0, h1, h2, _⟩ := Obs.of hp
  replace h0 : c.length ≤ 1000000000 := h0
  replace h1 : s.length ≤ 1000000000 := h1
  replace h2 : k.length = 16 := h2
  refine ⟨?_, Nat.zero_le _, (by show (twV (c, s, k, st, en, fl, u1)).strict = true; unfold twV; split <;> rfl), rfl⟩
  show Tri _ _ _ (Code.seq _ (Code.seq (Code.seq _ (Code.cond _ (Code.seq _ _) _)) (Code.seq _ _))) _
  cases b1 : rgS (pwS c)
  all_goals cases b2 : rgS (pwS s)
  all_goals cases b3 : laS st en fl
  case true.true.true =>
    have e0 : twR (c, s, k, st, en, fl, u1) = true := by
      show (rgS (pwS c) && (rgS (pwS s) && laS st en fl)) = true
      rw [b1, b2, b3]; rfl
    have e : twV (c, s, k, st, en, fl, u1) = .tuple [.pure (.slice true (.int .u8)) (jnF (tgF 1 [c, s, k, numS (UInt64.ofInt st), numS (UInt64.ofInt en), numS (UInt64.ofInt fl)])), .int .i64 (0 : Int)] := by rw [twV, if_pos e0]; rfl
    have g1 := pw_len b1
    have g2 := pw_len b2
    have n1 := numS_len (UInt64.ofInt st)
    have n2 := numS_len (UInt64.ofInt en)
    have n3 := numS_len (UInt64.ofInt fl)
    have tk : ∀ l : List UInt8, List.take l.length l = l := fun l => List.take_length
    have tk16 : List.take 16 k = k := List.take_of_length_le (by omega)
    have hall : ∀ v ∈ [c, s, k, numS (UInt64.ofInt st), numS (UInt64.ofInt en), numS (UInt64.ofInt fl)], List.length v ≤ 65535 := by
      intro v hv
      simp only [List.mem_cons, List.not_mem_nil, or_false] at hv
      rcases hv with rfl | rfl | rfl | rfl | rfl | rfl <;> omega
    refine Tri.at (by first | (simp only [b1, b2, b3, tk, tk16, h2, Con.start, go_sem]; rfl) | rfl) ?_
    repeat (first | ((first | refine Tri.seq (Tri.regT (cfgE1t_ok.pins _) ?_) | refine Tri.rgnT (cfgE1t_ok.pins _) ?_); (repeat (first | refine RunT.oneA (hp := by simp (maxSteps := 2000000) (disch := first | decide | omega | (simp only [List.length_append, List.length_cons, List.length_nil, List.length_take, List.length_drop]; omega)) only [b1, b2, b3, tk, tk16, h2, go_sem]; rfl) (h := ?_) | refine RunT.notA (h := ?_))); refine RunT.nil ?_; try simp only [InBlock, Then]) | ((first | refine Tri.seq (Tri.drwT (mixed) (cfgE1t_ok.pins _) ?_) | refine Tri.drnT (mixed) (cfgE1t_ok.pins _) ?_); (repeat (first | refine RunD.oneA (hp := by simp (maxSteps := 2000000) (disch := first | decide | omega | (simp only [List.length_append, List.length_cons, List.length_nil, List.length_take, List.length_drop]; omega)) only [b1, b2, b3, tk, tk16, h2, go_sem]; rfl) (h := ?_) | refine RunD.notA (h := ?_))); refine RunD.nil ?_; refine ⟨by kernel_rfl, ?_⟩; try simp only [InBlock, Then]) | refine Tri.cF (by first | (simp only [b1, b2, b3, tk, tk16, h2, go_sem]; done) | fail) ?_ | refine Tri.cT (by first | (simp only [b1, b2, b3, tk, tk16, h2, go_sem]; done) | fail) ?_ | (refine Tri.skip ?_; try simp only [InBlock, Then]) | (refine Tri.exit ?_; simp only [Then, InBlock, if_true, if_false, ↓reduceIte, Nat.reduceEqDiff]) | refine Tri.seq (Tri.block ?_) | refine Tri.block ?_ | refine Tri.seq ?_ | (refine Tri.ret ?_; refine Con.fin (.inl rfl) (by simp only [Tryd.f47, cfgE1t, resA, resA1, go_sem]; rfl) (by simp only [Obs, and_true, true_and]) (by first | (simp only [kTw, Con.of, Con.ofO, resV, b1, b2, b3, tk, tk16, h2, go_sem]; done) | fail) trivial rfl rfl))
    refine Tri.ret ?_
    refine Con.fin (.inl rfl) (by simp only [Tryd.f47, cfgE1t, resA, resA1, go_sem]; rfl) (by simp only [Obs, and_true, true_and]) ?_ ?_ ?_ rfl
    · exact e.symm
    · exact True.intro
    · show (AS.mk [some (twV (c, s, k, st, en, fl, u1))] []).closed = true
      rw [e]; rfl
  all_goals
    have e0 : twR (c, s, k, st, en, fl, u1) = false := by
      show (rgS (pwS c) && (rgS (pwS s) && laS st en fl)) = false
      rw [b1, b2, b3]; rfl
    have e : twV (c, s, k, st, en, fl, u1) = .tuple [.nilsl, .int .i64 (1 : Int)] := by rw [twV, e0]; rfl
    refine Tri.at (by first | (simp only [b1, b2, b3, e, Con.start, go_sem]; rfl) | rfl) ?_
    repeat (first | ((first | refine Tri.seq (Tri.regT (cfgE1t_ok.pins _) ?_) | refine Tri.rgnT (cfgE1t_ok.pins _) ?_); (repeat (first | refine RunT.oneA (hp := by simp (maxSteps := 2000000) (disch := first | decide | omega | (simp only [List.length_append, List.length_cons, List.length_nil, List.length_take, List.length_drop]; omega)) only [b1, b2, b3, e, go_sem]; rfl) (h := ?_) | refine RunT.notA (h := ?_))); refine RunT.nil ?_; try simp only [InBlock, Then]) | ((first | refine Tri.seq (Tri.drwT (mixed) (cfgE1t_ok.pins _) ?_) | refine Tri.drnT (mixed) (cfgE1t_ok.pins _) ?_); (repeat (first | refine RunD.oneA (hp := by simp (maxSteps := 2000000) (disch := first | decide | omega | (simp only [List.length_append, List.length_cons, List.length_nil, List.length_take, List.length_drop]; omega)) only [b1, b2, b3, e, go_sem]; rfl) (h := ?_) | refine RunD.notA (h := ?_))); refine RunD.nil ?_; refine ⟨by kernel_rfl, ?_⟩; try simp only [InBlock, Then]) | refine Tri.cF (by first | (simp only [b1, b2, b3, e, go_sem]; done) | fail) ?_ | refine Tri.cT (by first | (simp only [b1, b2, b3, e, go_sem]; done) | fail) ?_ | (refine Tri.skip ?_; try simp only [InBlock, Then]) | (refine Tri.exit ?_; simp only [Then, InBlock, if_true, if_false, ↓reduceIte, Nat.reduceEqDiff]) | refine Tri.seq (Tri.block ?_) | refine Tri.block ?_ | refine Tri.seq ?_ | (refine Tri.ret ?_; refine Con.fin (.inl rfl) (by simp only [Tryd.f47, cfgE1t, resA, resA1, go_sem]; rfl) (by simp only [Obs, and_true, true_and]) (by first | (simp only [kTw, Con.of, Con.ofO, resV, b1, b2, b3, e, go_sem]; done) | fail) trivial rfl rfl))
    refine Tri.ret ?_
    refine Con.fin (.inl rfl) (by simp only [Tryd.f47, cfgE1t, resA, resA1, go_sem]; rfl) (by simp only [Obs, and_true, true_and]) ?_ ?_ ?_ rfl
    · exact e.symm
    · exact True.intro
    · show (AS.mk [some (twV (c, s, k, st, en, fl, u1))] []).closed = true
      rw [e]; rfl
theorem twr_sum : FSumOK Tryd.prog cfgE1t.G 47 kTw.sum := Con.sumOK cfgE1t_ok kTw Tryd.func47 rfl rfl (Con.of_inv _ _ _) twr_body
end
end Go.Proofs.YtjdeaphfamenaaaDoor

namespace Go.Proofs.YtjdeaphfamenaaaDoor
open Go.Vc Go.Proofs
set_option maxRecDepth 10000
set_option maxHeartbeats 4000000
abbrev auK : Kd := .st (.pair .str (.pair (.int .i64) (.pair (.int .u64) (.pair k16 .unit))))
abbrev auTD : TD := .st [(9, 0, 1), (2, 1, 1), (46, 2, 1), (30, 3, 16)]
def tyTabA : TypeId → Option TyI := fun t => if t = 57 then some (.kd1 auTD auK 48) else tyTabT t
theorem tyTabA_ok : TysOK Tryd.prog tyTabA := by
  intro t i h
  unfold tyTabA at h
  split at h
  · rename_i e
    injection h with h
    subst h e
    exact TyOK.kd1 (td := auTD) ⟨_, Tryd.underlying57, by kernel_rfl, by kernel_rfl⟩ (by kernel_rfl)
  · exact tyTabT_ok t i h
def waR (a : auK.T) : Bool := rgS (pwS a.1) && (!decide ((a.2.1 : Int) < 0) && !decide ((1099511627776 : Int) < a.2.1))
def waL (a : auK.T) : List (List UInt8) := [a.1, numS (UInt64.ofInt a.2.1), numS a.2.2.1, a.2.2.2.1]
def waV (a : auK.T) : AV := if waR a = true then .tuple [.pure (.slice true (.int .u8)) (jnF (tgF 11 (waL a))), .int .i64 (0 : Int)] else .tuple [.nilsl, .int .i64 (1 : Int)]
def kWa : Con := Con.of [.v auK] (fun x => [List.length (α := UInt8) x.1.1 ≤ 1000000000, List.length (α := UInt8) x.1.2.2.2.1 = 16]) (fun x => ⟨waV x.1, []⟩)
def cfgTA1 : Cfg2 := { ty := tyTabA, fn := fun | 57 => some kNmd.sum | 59 => some kNm.sum | 60 => some kNum.sum | 58 => some kTj.sum | _ => none, G := gNone, pin := [], eq := fun _ => none }
theorem cfgTA1_ok : CfgOK Tryd.prog cfgTA1 := ⟨tyTabA_ok, (fun f s h => by
  simp only [cfgTA1] at h
  split at h
  · injection h with h; subst h; exact .inl nmd_sum
  · injection h with h; subst h; exact .inl tnm_sum
  · injection h with h; subst h; exact .inl num_sum
  · injection h with h; subst h; exact .inl tkj_sum
  · cases h), (fun t d h => by cases h)⟩
section
attribute [local go_sem] Tryd.f37 kWa kNmd kNm kNum kTj cfgTA1 tyTabA tyTabT tyTab
theorem wau_body (p : kWa.Par) (hp : ∀ q ∈ kWa.pre p, q) : BodyOK Tryd.prog cfgTA1 Tryd.f37 (Tryd.f37.body.get rfl) kWa p := by
  obtain ⟨⟨(c : List UInt8), (ti : Int), (no : UInt64), (k : List UInt8), u1⟩, u⟩ := p
  obtain ⟨h0, h2, _⟩ := Obs.of hp
  replace h0 : c.length ≤ 1000000000 := h0
  replace h2 : k.length = 16 := h2
  refine ⟨?_, Nat.zero_le _, (by show (waV (c, ti, no, k, u1)).strict = true; unfold waV; split <;> rfl), rfl⟩
  show Tri _ _ _ (Code.seq _ (Code.seq (Code.seq _ (Code.cond _ (Code.seq _ _) _)) (Code.seq _ _))) _
  cases b1 : rgS (pwS c)
  all_goals cases b2 : decide (ti < 0)
  all_goals cases b3 : decide ((1099511627776 : Int) < ti)
  case true.false.false =>
    have e0 : waR (c, ti, no, k, u1) = true := by
      show (rgS (pwS c) && (!decide (ti < 0) && !decide ((1099511627776 : Int) < ti))) = true
      rw [b1, b2, b3]; rfl
    have e : waV (c, ti, no, k, u1) = .tuple [.pure (.slice true (.int .u8)) (jnF (tgF 11 [c, numS (UInt64.ofInt ti), numS no, k])), .int .i64 (0 : Int)] := by rw [waV, if_pos e0]; rfl
    have g1 := pw_len b1
    have n1 := numS_len (UInt64.ofInt ti)
    have n2 := numS_len no
    have tk : ∀ l : List UInt8, List.take l.length l = l := fun l => List.take_length
    have tk16 : List.take 16 k = k := List.take_of_length_le (by omega)
    have hall : ∀ v ∈ [c, numS (UInt64.ofInt ti), numS no, k], List.length v ≤ 65535 := by
      intro v hv
      simp only [List.mem_cons, List.not_mem_nil, or_false] at hv
      rcases hv with rfl | rfl | rfl | rfl <;> omega
    refine Tri.at (by first | (simp only [b1, b2, b3, tk, tk16, h2, Con.start, go_sem]; rfl) | rfl) ?_
    repeat (first | ((first | refine Tri.seq (Tri.regT (cfgTA1_ok.pins _) ?_) | refine Tri.rgnT (cfgTA1_ok.pins _) ?_); (repeat (first | refine RunT.oneA (hp := by simp (maxSteps := 2000000) (disch := first | decide | omega | (simp only [List.length_append, List.length_cons, List.length_nil, List.length_take, List.length_drop]; omega)) only [b1, b2, b3, tk, tk16, h2, go_sem]; rfl) (h := ?_) | refine RunT.notA (h := ?_))); refine RunT.nil ?_; try simp only [InBlock, Then]) | ((first | refine Tri.seq (Tri.drwT (mixed) (cfgTA1_ok.pins _) ?_) | refine Tri.drnT (mixed) (cfgTA1_ok.pins _) ?_); (repeat (first | refine RunD.oneA (hp := by simp (maxSteps := 2000000) (disch := first | decide | omega | (simp only [List.length_append, List.length_cons, List.length_nil, List.length_take, List.length_drop]; omega)) only [b1, b2, b3, tk, tk16, h2, go_sem]; rfl) (h := ?_) | refine RunD.notA (h := ?_))); refine RunD.nil ?_; refine ⟨by kernel_rfl, ?_⟩; try simp only [InBlock, Then]) | refine Tri.cF (by first | (simp only [b1, b2, b3, tk, tk16, h2, go_sem]; done) | fail) ?_ | refine Tri.cT (by first | (simp only [b1, b2, b3, tk, tk16, h2, go_sem]; done) | fail) ?_ | (refine Tri.skip ?_; try simp only [InBlock, Then]) | (refine Tri.exit ?_; simp only [Then, InBlock, if_true, if_false, ↓reduceIte, Nat.reduceEqDiff]) | refine Tri.seq (Tri.block ?_) | refine Tri.block ?_ | refine Tri.seq ?_ | (refine Tri.ret ?_; refine Con.fin (.inl rfl) (by simp only [Tryd.f37, cfgTA1, resA, resA1, go_sem]; rfl) (by simp only [Obs, and_true, true_and]) (by first | (simp only [kWa, Con.of, Con.ofO, resV, b1, b2, b3, tk, tk16, h2, go_sem]; done) | fail) trivial rfl rfl))
    refine Tri.ret ?_
    refine Con.fin (.inl rfl) (by simp only [Tryd.f37, cfgTA1, resA, resA1, go_sem]; rfl) (by simp only [Obs, and_true, true_and]) ?_ ?_ ?_ rfl
    · exact e.symm
    · exact True.intro
    · show (AS.mk [some (waV (c, ti, no, k, u1))] []).closed = true
      rw [e]; rfl
  all_goals
    have e0 : waR (c, ti, no, k, u1) = false := by
      show (rgS (pwS c) && (!decide (ti < 0) && !decide ((1099511627776 : Int) < ti))) = false
      rw [b1, b2, b3]; rfl
    have e : waV (c, ti, no, k, u1) = .tuple [.nilsl, .int .i64 (1 : Int)] := by rw [waV, e0]; rfl
    refine Tri.at (by first | (simp only [b1, b2, b3, e, Con.start, go_sem]; rfl) | rfl) ?_
    repeat (first | ((first | refine Tri.seq (Tri.regT (cfgTA1_ok.pins _) ?_) | refine Tri.rgnT (cfgTA1_ok.pins _) ?_); (repeat (first | refine RunT.oneA (hp := by simp (maxSteps := 2000000) (disch := first | decide | omega | (simp only [List.length_append, List.length_cons, List.length_nil, List.length_take, List.length_drop]; omega)) only [b1, b2, b3, e, go_sem]; rfl) (h := ?_) | refine RunT.notA (h := ?_))); refine RunT.nil ?_; try simp only [InBlock, Then]) | ((first | refine Tri.seq (Tri.drwT (mixed) (cfgTA1_ok.pins _) ?_) | refine Tri.drnT (mixed) (cfgTA1_ok.pins _) ?_); (repeat (first | refine RunD.oneA (hp := by simp (maxSteps := 2000000) (disch := first | decide | omega | (simp only [List.length_append, List.length_cons, List.length_nil, List.length_take, List.length_drop]; omega)) only [b1, b2, b3, e, go_sem]; rfl) (h := ?_) | refine RunD.notA (h := ?_))); refine RunD.nil ?_; refine ⟨by kernel_rfl, ?_⟩; try simp only [InBlock, Then]) | refine Tri.cF (by first | (simp only [b1, b2, b3, e, go_sem]; done) | fail) ?_ | refine Tri.cT (by first | (simp only [b1, b2, b3, e, go_sem]; done) | fail) ?_ | (refine Tri.skip ?_; try simp only [InBlock, Then]) | (refine Tri.exit ?_; simp only [Then, InBlock, if_true, if_false, ↓reduceIte, Nat.reduceEqDiff]) | refine Tri.seq (Tri.block ?_) | refine Tri.block ?_ | refine Tri.seq ?_ | (refine Tri.ret ?_; refine Con.fin (.inl rfl) (by simp only [Tryd.f37, cfgTA1, resA, resA1, go_sem]; rfl) (by simp only [Obs, and_true, true_and]) (by first | (simp only [kWa, Con.of, Con.ofO, resV, b1, b2, b3, e, go_sem]; done) | fail) trivial rfl rfl))
    refine Tri.ret ?_
    refine Con.fin (.inl rfl) (by simp only [Tryd.f37, cfgTA1, resA, resA1, go_sem]; rfl) (by simp only [Obs, and_true, true_and]) ?_ ?_ ?_ rfl
    · exact e.symm
    · exact True.intro
    · show (AS.mk [some (waV (c, ti, no, k, u1))] []).closed = true
      rw [e]; rfl
theorem wau_sum : FSumOK Tryd.prog cfgTA1.G 37 kWa.sum := Con.sumOK cfgTA1_ok kWa Tryd.func37 rfl rfl (Con.of_inv _ _ _) wau_body
end
end Go.Proofs.YtjdeaphfamenaaaDoor
