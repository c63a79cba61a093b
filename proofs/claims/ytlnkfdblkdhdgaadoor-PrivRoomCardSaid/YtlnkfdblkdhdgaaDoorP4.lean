/- Part of a proof: No more boxes are open than there is room for; what is acknowledged makes room for as many -/
import Derived.Test.YtlnkfdblkdhdgaaDoorP3
import Derived.Test.YtlnkfdblkdhdgaaDoorVc5
set_option linter.unusedVariables false
set_option linter.unusedSimpArgs false
set_option linter.unusedSectionVars false
namespace Go.Proofs.YtlnkfdblkdhdgaaDoor
open Go.Vc Go.Proofs
set_option maxRecDepth 10000
set_option maxHeartbeats 4000000
def tgF (n : Int) : List (List UInt8) → List flL.T
  | [] => []
  | v :: r => ((n, v, ()) : flL.T) :: tgF (n + 1) r
theorem tgF_len : ∀ (vs : List (List UInt8)) (n : Int), (tgF n vs).length = vs.length
  | [], _ => rfl
  | v :: r, n => by rw [tgF, List.length_cons, List.length_cons, tgF_len r]
theorem tgF_take : ∀ (vs : List (List UInt8)) (n : Int) (i : Nat), i < vs.length → tgF n (vs.take (i + 1)) = tgF n (vs.take i) ++ [((n + i, vs.getD i [], ()) : flL.T)]
  | [], n, i, h => by simp at h
  | v :: r, n, 0, h => by show [((n, v, ()) : flL.T)] = [((n + ((0 : Nat) : Int), v, ()) : flL.T)]; simp
  | v :: r, n, i + 1, h => by
    have ih := tgF_take r (n + 1) i (by simpa using h)
    rw [List.take_succ_cons, tgF, ih, List.take_succ_cons, tgF, List.cons_append]
    have : n + 1 + (i : Int) = n + ((i + 1 : Nat) : Int) := by omega
    rw [this]
    rfl
theorem tgF_ok : ∀ (vs : List (List UInt8)) (n : Int), 1 ≤ n → n + vs.length ≤ 255 → (∀ v ∈ vs, List.length v ≤ 65535) → ∀ f ∈ tgF n vs, flOK f
  | [], _, _, _, _, f, hf => by simp [tgF] at hf
  | v :: r, n, h1, h2, h3, f, hf => by
    rw [List.length_cons] at h2
    rcases List.mem_cons.1 hf with rfl | hf
    · exact ⟨h1, (by show n ≤ 255; omega), h3 v (by simp)⟩
    · exact tgF_ok r (n + 1) (by omega) (by omega) (fun x hx => h3 x (List.mem_cons_of_mem _ hx)) f hf
def kJoin : Con := Con.ofO [.a (.v (.int .i64)), .w (.slice false (.slice false (.int .u8)))] [] (fun x => [List.length (α := List UInt8) x.2.1 ≤ 10, 1 ≤ toI .i64 x.1, toI .i64 x.1 ≤ 200, ∀ v ∈ x.2.1, List.length (α := UInt8) v ≤ 65535])
  (fun x => ⟨.pure (.slice true (.int .u8)) (jnF (tgF (toI .i64 x.1) x.2.1)), []⟩)
def cfgPA : Cfg2 := { ty := tyTabJ, fn := fun | 74 => some kJn.sum | _ => none, G := shaG, pin := [], eq := fun _ => none }
theorem cfgPA_ok : CfgOK Tryd.prog cfgPA := ⟨tyTabJ_ok, (fun f s h => by
  simp only [cfgPA] at h
  split at h
  · injection h with h; subst h; exact .inl tjn_sum
  · cases h), (fun t d h => by cases h)⟩
section
attribute [local go_sem] Tryd.f44 kJoin kJn cfgPA tyTabJ tyTabS
theorem pjn_body (p : kJoin.Par) (hp : ∀ q ∈ kJoin.pre p, q) : BodyOK Tryd.prog cfgPA Tryd.f44 (Tryd.f44.body.get rfl) kJoin p := by
  obtain ⟨(n : Int), (vs : List (List UInt8)), u⟩ := p
  obtain ⟨h0, h1, h2, h3, _⟩ := Obs.of hp
  replace h0 : vs.length ≤ 10 := h0
  replace h1 : 1 ≤ n := h1
  replace h2 : n ≤ 200 := h2
  replace h3 : ∀ v ∈ vs, List.length v ≤ 65535 := h3
  have hok := tgF_ok vs n h1 (by omega) h3
  refine ⟨?_, Nat.zero_le _, rfl, rfl⟩
  show Tri _ _ _ (Code.seq _ (Code.seq _ (Code.seq (Code.seq _ (Code.block _ (Code.loop (Code.seq _ (Code.seq (Code.cond _ _ _) (Code.seq (Code.block _ (Code.seq _ _)) _)))))) (Code.seq _ (Code.seq _ _))))) _
  refine Tri.at (by first | (simp only [go_sem, Con.start, go_sem]; rfl) | rfl) ?_
  repeat (first | ((first | refine Tri.seq (Tri.regT (cfgPA_ok.pins _) ?_) | refine Tri.rgnT (cfgPA_ok.pins _) ?_); (repeat (first | refine RunT.oneA (hp := by simp (maxSteps := 2000000) (disch := first | decide | omega | (simp only [List.length_append, List.length_cons, List.length_nil, List.length_take, List.length_drop]; omega)) only [go_sem, go_sem]; rfl) (h := ?_) | refine RunT.notA (h := ?_))); refine RunT.nil ?_; try simp only [InBlock, Then]) | refine Tri.cF (by first | (simp only [go_sem, go_sem]; done) | fail) ?_ | refine Tri.cT (by first | (simp only [go_sem, go_sem]; done) | fail) ?_ | (refine Tri.skip ?_; try simp only [InBlock, Then]) | (refine Tri.exit ?_; simp only [Then, InBlock, if_true, if_false, ↓reduceIte, Nat.reduceEqDiff]) | refine Tri.seq (Tri.block ?_) | refine Tri.block ?_ | refine Tri.seq ?_ | (refine Tri.ret ?_; refine Con.fin (.inl rfl) (by simp only [Tryd.f44, cfgPA, resA, resA1, go_sem]; rfl) (by simp only [Obs, and_true, true_and]) (by first | (simp only [kJoin, Con.of, Con.ofO, resV, go_sem, go_sem]; done) | fail) trivial rfl rfl))
  have hj0 : tgF n (vs.take 0) = [] := rfl
  refine Tri.phT 5 flL 2 rfl rfl ?_
  refine Tri.loop (fun i : Nat => (⟨[some (.int .i64 n), none, none, none, none, some (.tsl 0 [] 0 0 2 i), none, none, none, none, some (.pure (.slice false (.slice false (.int .u8))) vs), some (.int .i64 (vs.length : Int)), some (.int .i64 (i : Int))] ++ List.replicate 19 none, [.live (.pure (.arr i flL) (tgF n (vs.take i)))]⟩ : AS)) (fun i => i ≤ vs.length) (fun i => vs.length - i) 0 ?_ (Nat.zero_le _) ?_
  · refine Wk.of ?_ ?_ rfl rfl
    · simp only [lessTs, List.reduceReplicate, List.cons_append, List.nil_append] <;> ((repeat' apply And.intro) <;> first | with_reducible rfl | exact True.intro | exact congrArg (fun z : Int => some (AV.int IntKind.i64 z)) (show (_ : Int) = _ by omega) | exact congrArg (fun z : Nat => some (AV.tsl _ _ _ _ _ z)) (show (_ : Nat) = _ by omega) | exact arrEq (by omega) (by with_reducible rfl))
    exact ⟨arrEq rfl hj0.symm, trivial⟩
  · intro i hi
    have hil : (tgF n (vs.take i)).length = i := by rw [tgF_len, List.length_take]; omega
    have htk : List.take i (tgF n (vs.take i)) = tgF n (vs.take i) := List.take_of_length_le (by omega)
    by_cases hc : i < vs.length
    · have hc' : decide ((i : Int) < (vs.length : Int)) = true := decide_eq_true (by omega)
      have htt := tgF_take vs n i hc
      refine Tri.at (by first | (simp only [hc', htk, Con.start, go_sem]; rfl) | rfl) ?_
      repeat (first | ((first | refine Tri.seq (Tri.regT (cfgPA_ok.pins _) ?_) | refine Tri.rgnT (cfgPA_ok.pins _) ?_); (repeat (first | refine RunT.oneA (hp := by simp (maxSteps := 2000000) (disch := first | decide | omega | (simp only [List.length_append, List.length_cons, List.length_nil, List.length_take, List.length_drop]; omega)) only [hc', htk, go_sem]; rfl) (h := ?_) | refine RunT.notA (h := ?_))); refine RunT.nil ?_; try simp only [InBlock, Then]) | ((first | refine Tri.seq (Tri.drwT (mixed) (cfgPA_ok.pins _) ?_) | refine Tri.drnT (mixed) (cfgPA_ok.pins _) ?_); (repeat (first | refine RunD.oneA (hp := by simp (maxSteps := 2000000) (disch := first | decide | omega | (simp only [List.length_append, List.length_cons, List.length_nil, List.length_take, List.length_drop]; omega)) only [hc', htk, go_sem]; rfl) (h := ?_) | refine RunD.notA (h := ?_))); refine RunD.nil ?_; refine ⟨by kernel_rfl, ?_⟩; try simp only [InBlock, Then]) | refine Tri.cF (by first | (simp only [hc', htk, go_sem]; done) | fail) ?_ | refine Tri.cT (by first | (simp only [hc', htk, go_sem]; done) | fail) ?_ | (refine Tri.skip ?_; try simp only [InBlock, Then]) | (refine Tri.exit ?_; simp only [Then, InBlock, if_true, if_false, ↓reduceIte, Nat.reduceEqDiff]) | refine Tri.seq (Tri.block ?_) | refine Tri.block ?_ | refine Tri.seq ?_ | (refine Tri.ret ?_; refine Con.fin (.inl rfl) (by simp only [Tryd.f44, cfgPA, resA, resA1, go_sem]; rfl) (by simp only [Obs, and_true, true_and]) (by first | (simp only [kJoin, Con.of, Con.ofO, resV, hc', htk, go_sem]; done) | fail) trivial rfl rfl))
      refine ⟨i + 1, (by omega), (by omega), Wk.of ?_ ?_ rfl rfl⟩
      · simp only [lessTs, List.reduceReplicate, List.cons_append, List.nil_append] <;> ((repeat' apply And.intro) <;> first | with_reducible rfl | exact True.intro | exact congrArg (fun z : Int => some (AV.int IntKind.i64 z)) (show (_ : Int) = _ by omega) | exact congrArg (fun z : Nat => some (AV.tsl _ _ _ _ _ z)) (show (_ : Nat) = _ by omega) | exact arrEq (by omega) (by with_reducible rfl))
      · exact ⟨arrEq rfl htt.symm, trivial⟩
    · have hc' : decide ((i : Int) < (vs.length : Int)) = false := decide_eq_false (by omega)
      have hiv : i = vs.length := by omega
      subst hiv
      rw [List.take_length] at htk hil ⊢
      refine Tri.at (by first | (simp only [hc', htk, hil, Con.start, go_sem]; rfl) | rfl) ?_
      repeat (first | ((first | refine Tri.seq (Tri.regT (cfgPA_ok.pins _) ?_) | refine Tri.rgnT (cfgPA_ok.pins _) ?_); (repeat (first | refine RunT.oneA (hp := by simp (maxSteps := 2000000) (disch := first | decide | omega | (simp only [List.length_append, List.length_cons, List.length_nil, List.length_take, List.length_drop]; omega)) only [hc', htk, hil, go_sem]; rfl) (h := ?_) | refine RunT.notA (h := ?_))); refine RunT.nil ?_; try simp only [InBlock, Then]) | refine Tri.cF (by first | (simp only [hc', htk, hil, go_sem]; done) | fail) ?_ | refine Tri.cT (by first | (simp only [hc', htk, hil, go_sem]; done) | fail) ?_ | (refine Tri.skip ?_; try simp only [InBlock, Then]) | (refine Tri.exit ?_; simp only [Then, InBlock, if_true, if_false, ↓reduceIte, Nat.reduceEqDiff]) | refine Tri.seq (Tri.block ?_) | refine Tri.block ?_ | refine Tri.seq ?_ | (refine Tri.ret ?_; refine Con.fin (.inl rfl) (by simp only [Tryd.f44, cfgPA, resA, resA1, go_sem]; rfl) (by simp only [Obs, and_true, true_and]) (by first | (simp only [kJoin, Con.of, Con.ofO, resV, hc', htk, hil, go_sem]; done) | fail) trivial rfl rfl))
theorem pjn_sum : FSumOK Tryd.prog cfgPA.G 44 kJoin.sum := Con.sumOK cfgPA_ok kJoin Tryd.func44 rfl rfl (Con.ofO_inv _ _ _ _) pjn_body
end
def tgI (f : Int) : Nat → List Int
  | 0 => []
  | i + 1 => tgI f i ++ [f + i]
theorem tgI_len (f : Int) : ∀ i, (tgI f i).length = i
  | 0 => rfl
  | i + 1 => by rw [tgI, List.length_append, tgI_len f i]; rfl
def splS (d : List UInt8) (f : Int) (n : Nat) : Option (List (List UInt8)) := match (spF d.length d []).1 with
  | none => none
  | some fs => if eqF fs (tgI f n) = true then some (vlL fs) else none
def splV (o : Option (List (List UInt8))) : AV := match o with
  | some l => .tuple [.pure (.slice true (.slice true (.int .u8))) l, .int .i64 (0 : Int)]
  | none => .tuple [.nilsl, .int .i64 (21 : Int)]
def kSplit : Con := Con.of [.v (.slice false (.int .u8)), .v (.int .i64), .v (.int .i64)] (fun x => [List.length (α := UInt8) x.1 ≤ 1000000, 0 ≤ toI .i64 x.2.1, toI .i64 x.2.1 ≤ 1000, 0 ≤ toI .i64 x.2.2.1, toI .i64 x.2.2.1 ≤ 1000]) (fun x => ⟨splV (splS x.1 (toI .i64 x.2.1) (toI .i64 x.2.2.1).toNat), []⟩)
def cfgPB : Cfg2 := { ty := tyTabV, fn := fun | 81 => some kVls.sum | _ => none, G := shaG, pin := [], eq := fun _ => none }
theorem cfgPB_ok : CfgOK Tryd.prog cfgPB := ⟨tyTabV_ok, (fun f s h => by
  simp only [cfgPB] at h
  split at h
  · injection h with h; subst h; exact .inl vls_sum
  · cases h), (fun t d h => by cases h)⟩
section
attribute [local go_sem] Tryd.f48 kSplit kVls cfgPB tyTabV tyTabM tyTabS
theorem psp_body (p : kSplit.Par) (hp : ∀ q ∈ kSplit.pre p, q) : BodyOK Tryd.prog cfgPB Tryd.f48 (Tryd.f48.body.get rfl) kSplit p := by
  obtain ⟨(d : List UInt8), (f : Int), (c : Int), u⟩ := p
  obtain ⟨h4, h0, h1, h2, h3, _⟩ := Obs.of hp
  replace h4 : d.length ≤ 1000000 := h4
  replace h0 : 0 ≤ f := h0
  replace h1 : f ≤ 1000 := h1
  replace h2 : 0 ≤ c := h2
  replace h3 : c ≤ 1000 := h3
  obtain ⟨n, rfl⟩ : ∃ n : Nat, c = (n : Int) := ⟨c.toNat, by omega⟩
  obtain ⟨g, rfl⟩ : ∃ g : Nat, f = (g : Int) := ⟨f.toNat, by omega⟩
  refine ⟨?_, Nat.zero_le _, (by show (splV (splS d g n)).strict = true; cases splS d g n <;> rfl), rfl⟩
  show Tri _ _ _ (Code.seq _ (Code.seq _ (Code.seq (Code.seq _ (Code.block _ (Code.loop (Code.seq _ (Code.seq (Code.cond _ _ _) (Code.seq (Code.block _ (Code.seq _ _)) _)))))) (Code.seq _ (Code.seq (Code.seq _ (Code.cond _ (Code.seq _ _) _)) (Code.seq _ _)))))) _
  refine Tri.at (by first | (simp only [go_sem, Con.start, go_sem]; rfl) | rfl) ?_
  repeat (first | ((first | refine Tri.seq (Tri.regT (cfgPB_ok.pins _) ?_) | refine Tri.rgnT (cfgPB_ok.pins _) ?_); (repeat (first | refine RunT.oneA (hp := by simp (maxSteps := 2000000) (disch := first | decide | omega | (simp only [List.length_append, List.length_cons, List.length_nil, List.length_take, List.length_drop]; omega)) only [go_sem, go_sem]; rfl) (h := ?_) | refine RunT.notA (h := ?_))); refine RunT.nil ?_; try simp only [InBlock, Then]) | refine Tri.cF (by first | (simp only [go_sem, go_sem]; done) | fail) ?_ | refine Tri.cT (by first | (simp only [go_sem, go_sem]; done) | fail) ?_ | (refine Tri.skip ?_; try simp only [InBlock, Then]) | (refine Tri.exit ?_; simp only [Then, InBlock, if_true, if_false, ↓reduceIte, Nat.reduceEqDiff]) | refine Tri.seq (Tri.block ?_) | refine Tri.block ?_ | refine Tri.seq ?_ | (refine Tri.ret ?_; refine Con.fin (.inl rfl) (by simp only [Tryd.f48, cfgPB, resA, resA1, go_sem]; rfl) (by simp only [Obs, and_true, true_and]) (by first | (simp only [kSplit, Con.of, Con.ofO, resV, go_sem, go_sem]; done) | fail) trivial rfl rfl))
  refine Tri.phT 8 (.int .i64) 1 rfl rfl ?_
  refine Tri.loop (fun i : Nat => (⟨[some (.pure (.slice false (.int .u8)) d), some (.int .i64 (g : Int)), none, none, none, none, none, none, some (.tsl 0 [] 0 0 1 (tgI g i).length), none, none, none, some (.int .i64 (n : Int)), some (.int .i64 (i : Int))] ++ List.replicate 18 none, [.live (.pure (.arr (tgI g i).length (.int .i64)) (tgI g i))]⟩ : AS)) (fun i => i ≤ n) (fun i => n - i) 0 ?_ (Nat.zero_le _) ?_
  · refine Wk.of ?_ ?_ rfl rfl
    · simp only [lessTs, List.reduceReplicate, List.cons_append, List.nil_append, tgI, List.length_nil] <;> ((repeat' apply And.intro) <;> first | with_reducible rfl | exact True.intro | exact congrArg (fun z : Int => some (AV.int IntKind.i64 z)) (show (_ : Int) = _ by omega) | exact congrArg (fun z : Nat => some (AV.tsl _ _ _ _ _ z)) (show (_ : Nat) = _ by omega) | exact arrEq (by omega) (by with_reducible rfl))
    · simp only [lessHs, tgI, List.length_nil] <;> ((repeat' apply And.intro) <;> first | with_reducible rfl | exact True.intro | exact congrArg (fun z : Int => some (AV.int IntKind.i64 z)) (show (_ : Int) = _ by omega) | exact congrArg (fun z : Nat => some (AV.tsl _ _ _ _ _ z)) (show (_ : Nat) = _ by omega) | exact arrEq (by omega) (by with_reducible rfl))
  · intro i hi
    have hl := tgI_len g i
    by_cases hc : i < n
    · have hc' : decide ((i : Int) < (n : Int)) = true := decide_eq_true (by omega)
      have hn : tgI (g : Int) (i + 1) = tgI g i ++ [((g + i : Nat) : Int)] := by rw [tgI]; rfl
      have htk : ∀ l : List Int, List.take l.length l = l := fun l => List.take_length
      generalize hJ : tgI (g : Int) i = J at *
      refine Tri.at (by first | (simp only [hc', htk, Con.start, go_sem]; rfl) | rfl) ?_
      repeat (first | ((first | refine Tri.seq (Tri.regT (cfgPB_ok.pins _) ?_) | refine Tri.rgnT (cfgPB_ok.pins _) ?_); (repeat (first | refine RunT.oneA (hp := by simp (maxSteps := 2000000) (disch := first | decide | omega | (simp only [List.length_append, List.length_cons, List.length_nil, List.length_take, List.length_drop]; omega)) only [hc', htk, go_sem]; rfl) (h := ?_) | refine RunT.notA (h := ?_))); refine RunT.nil ?_; try simp only [InBlock, Then]) | refine Tri.cF (by first | (simp only [hc', htk, go_sem]; done) | fail) ?_ | refine Tri.cT (by first | (simp only [hc', htk, go_sem]; done) | fail) ?_ | (refine Tri.skip ?_; try simp only [InBlock, Then]) | (refine Tri.exit ?_; simp only [Then, InBlock, if_true, if_false, ↓reduceIte, Nat.reduceEqDiff]) | refine Tri.seq (Tri.block ?_) | refine Tri.block ?_ | refine Tri.seq ?_ | (refine Tri.ret ?_; refine Con.fin (.inl rfl) (by simp only [Tryd.f48, cfgPB, resA, resA1, go_sem]; rfl) (by simp only [Obs, and_true, true_and]) (by first | (simp only [kSplit, Con.of, Con.ofO, resV, hc', htk, go_sem]; done) | fail) trivial rfl rfl))
      refine ⟨i + 1, (by omega), (by omega), Wk.of ?_ ?_ rfl rfl⟩
      · simp only [lessTs, List.reduceReplicate, List.cons_append, List.nil_append, hn, List.length_append, List.length_cons, List.length_nil] <;> ((repeat' apply And.intro) <;> first | with_reducible rfl | exact True.intro | exact congrArg (fun z : Int => some (AV.int IntKind.i64 z)) (show (_ : Int) = _ by omega) | exact congrArg (fun z : Nat => some (AV.tsl _ _ _ _ _ z)) (show (_ : Nat) = _ by omega) | exact arrEq (by omega) (by with_reducible rfl))
      · rw [hn]
        exact ⟨arrEq (by rw [List.length_append]; rfl) rfl, trivial⟩
    · have hc' : decide ((i : Int) < (n : Int)) = false := decide_eq_false (by omega)
      have hin : i = n := by omega
      subst hin
      have htk : List.take (tgI g i).length (tgI g i) = tgI g i := List.take_length
      have hlen : (tgI (g : Int) i).length ≤ 1000 := by omega
      have z0 : decide ((0 : Int) = 0) = true := rfl
      cases hq : spF d.length d [] with
      | mk q e =>
      cases q with
      | none =>
        have v1 : vlV d (tgI g i) = .tuple [.nilsl, .int .i64 e] := by rw [vlV, hq]
        have s1 : splS d g i = none := by rw [splS, hq]
        have he : decide (e = 0) = false := by
          rcases spF_err _ _ _ _ hq with h | h <;> (rw [h]; rfl)
        generalize hJ : tgI (g : Int) i = J at *
        refine Tri.at (by first | (simp only [hc', htk, v1, he, Con.start, go_sem]; rfl) | rfl) ?_
        repeat (first | ((first | refine Tri.seq (Tri.regT (cfgPB_ok.pins _) ?_) | refine Tri.rgnT (cfgPB_ok.pins _) ?_); (repeat (first | refine RunT.oneA (hp := by simp (maxSteps := 2000000) (disch := first | decide | omega | (simp only [List.length_append, List.length_cons, List.length_nil, List.length_take, List.length_drop]; omega)) only [hc', htk, v1, he, go_sem]; rfl) (h := ?_) | refine RunT.notA (h := ?_))); refine RunT.nil ?_; try simp only [InBlock, Then]) | refine Tri.cF (by first | (simp only [hc', htk, v1, he, go_sem]; done) | fail) ?_ | refine Tri.cT (by first | (simp only [hc', htk, v1, he, go_sem]; done) | fail) ?_ | (refine Tri.skip ?_; try simp only [InBlock, Then]) | (refine Tri.exit ?_; simp only [Then, InBlock, if_true, if_false, ↓reduceIte, Nat.reduceEqDiff]) | refine Tri.seq (Tri.block ?_) | refine Tri.block ?_ | refine Tri.seq ?_ | (refine Tri.ret ?_; refine Con.fin (.inl rfl) (by simp only [Tryd.f48, cfgPB, resA, resA1, go_sem]; rfl) (by simp only [Obs, and_true, true_and]) (by first | (simp only [kSplit, Con.of, Con.ofO, resV, hc', htk, v1, he, go_sem]; done) | fail) trivial rfl rfl))
        refine Tri.ret ?_
        refine Con.fin (.inl rfl) (by simp only [Tryd.f48, cfgPB, resA, resA1, go_sem]; rfl) (by simp only [Obs, and_true, true_and]) ?_ ?_ ?_ rfl
        · show AV.tuple [.nilsl, .int .i64 (21 : Int)] = splV (splS d g i)
          rw [s1]; rfl
        · exact True.intro
        · show (AS.mk [some (splV (splS d g i))] []).closed = true
          rw [s1]; rfl
      | some fs =>
        cases hx : eqF fs (tgI g i) with
        | false =>
          have v1 : vlV d (tgI g i) = .tuple [.nilsl, .int .i64 (21 : Int)] := by rw [vlV, hq]; show (if eqF fs (tgI g i) = true then _ else _) = _; rw [hx]; rfl
          have s1 : splS d g i = none := by rw [splS, hq]; show (if eqF fs (tgI g i) = true then _ else _) = _; rw [hx]; rfl
          generalize hJ : tgI (g : Int) i = J at *
          refine Tri.at (by first | (simp only [hc', htk, v1, Con.start, go_sem]; rfl) | rfl) ?_
          repeat (first | ((first | refine Tri.seq (Tri.regT (cfgPB_ok.pins _) ?_) | refine Tri.rgnT (cfgPB_ok.pins _) ?_); (repeat (first | refine RunT.oneA (hp := by simp (maxSteps := 2000000) (disch := first | decide | omega | (simp only [List.length_append, List.length_cons, List.length_nil, List.length_take, List.length_drop]; omega)) only [hc', htk, v1, go_sem]; rfl) (h := ?_) | refine RunT.notA (h := ?_))); refine RunT.nil ?_; try simp only [InBlock, Then]) | refine Tri.cF (by first | (simp only [hc', htk, v1, go_sem]; done) | fail) ?_ | refine Tri.cT (by first | (simp only [hc', htk, v1, go_sem]; done) | fail) ?_ | (refine Tri.skip ?_; try simp only [InBlock, Then]) | (refine Tri.exit ?_; simp only [Then, InBlock, if_true, if_false, ↓reduceIte, Nat.reduceEqDiff]) | refine Tri.seq (Tri.block ?_) | refine Tri.block ?_ | refine Tri.seq ?_ | (refine Tri.ret ?_; refine Con.fin (.inl rfl) (by simp only [Tryd.f48, cfgPB, resA, resA1, go_sem]; rfl) (by simp only [Obs, and_true, true_and]) (by first | (simp only [kSplit, Con.of, Con.ofO, resV, hc', htk, v1, go_sem]; done) | fail) trivial rfl rfl))
          refine Tri.ret ?_
          refine Con.fin (.inl rfl) (by simp only [Tryd.f48, cfgPB, resA, resA1, go_sem]; rfl) (by simp only [Obs, and_true, true_and]) ?_ ?_ ?_ rfl
          · show AV.tuple [.nilsl, .int .i64 (21 : Int)] = splV (splS d g i)
            rw [s1]; rfl
          · exact True.intro
          · show (AS.mk [some (splV (splS d g i))] []).closed = true
            rw [s1]; rfl
        | true =>
          have v1 : vlV d (tgI g i) = .tuple [.pure (.slice true (.slice true (.int .u8))) (vlL fs), .int .i64 (0 : Int)] := by rw [vlV, hq]; show (if eqF fs (tgI g i) = true then _ else _) = _; rw [hx]; rfl
          have s1 : splS d g i = some (vlL fs) := by rw [splS, hq]; show (if eqF fs (tgI g i) = true then _ else _) = _; rw [hx]; rfl
          generalize hJ : tgI (g : Int) i = J at *
          refine Tri.at (by first | (simp only [hc', htk, v1, z0, Con.start, go_sem]; rfl) | rfl) ?_
          repeat (first | ((first | refine Tri.seq (Tri.regT (cfgPB_ok.pins _) ?_) | refine Tri.rgnT (cfgPB_ok.pins _) ?_); (repeat (first | refine RunT.oneA (hp := by simp (maxSteps := 2000000) (disch := first | decide | omega | (simp only [List.length_append, List.length_cons, List.length_nil, List.length_take, List.length_drop]; omega)) only [hc', htk, v1, z0, go_sem]; rfl) (h := ?_) | refine RunT.notA (h := ?_))); refine RunT.nil ?_; try simp only [InBlock, Then]) | refine Tri.cF (by first | (simp only [hc', htk, v1, z0, go_sem]; done) | fail) ?_ | refine Tri.cT (by first | (simp only [hc', htk, v1, z0, go_sem]; done) | fail) ?_ | (refine Tri.skip ?_; try simp only [InBlock, Then]) | (refine Tri.exit ?_; simp only [Then, InBlock, if_true, if_false, ↓reduceIte, Nat.reduceEqDiff]) | refine Tri.seq (Tri.block ?_) | refine Tri.block ?_ | refine Tri.seq ?_ | (refine Tri.ret ?_; refine Con.fin (.inl rfl) (by simp only [Tryd.f48, cfgPB, resA, resA1, go_sem]; rfl) (by simp only [Obs, and_true, true_and]) (by first | (simp only [kSplit, Con.of, Con.ofO, resV, hc', htk, v1, z0, go_sem]; done) | fail) trivial rfl rfl))
          refine Tri.ret ?_
          refine Con.fin (.inl rfl) (by simp only [Tryd.f48, cfgPB, resA, resA1, go_sem]; rfl) (by simp only [Obs, and_true, true_and]) ?_ ?_ ?_ rfl
          · show AV.tuple [.pure (.slice true (.slice true (.int .u8))) (vlL fs), .int .i64 (0 : Int)] = splV (splS d g i)
            rw [s1]; rfl
          · exact True.intro
          · show (AS.mk [some (splV (splS d g i))] []).closed = true
            rw [s1]; rfl
theorem psp_sum : FSumOK Tryd.prog cfgPB.G 48 kSplit.sum := Con.sumOK cfgPB_ok kSplit Tryd.func48 rfl rfl (Con.of_inv _ _ _) psp_body
end
end Go.Proofs.YtlnkfdblkdhdgaaDoor
