/- Part of a proof: Keys that are drawn by symbols are all unlike -/
import Derived.Test.YticgfjalikmniaaDoorP4
import Derived.Test.YticgfjalikmniaaDoorVc5
set_option linter.unusedVariables false
set_option linter.unusedSimpArgs false
set_option linter.unusedSectionVars false
namespace Go.Proofs.YticgfjalikmniaaDoor
open Go.Vc Go.Proofs
set_option maxRecDepth 10000
set_option maxHeartbeats 4000000
def frS (n : UInt64) : List UInt8 := [245, 0, 0, 0, 0, 0, 0, 0] ++ wd n
theorem frS_inj {a b : UInt64} (h : frS a = frS b) : a = b := wd_inj (List.append_cancel_left h)
theorem frS_len (n : UInt64) : (frS n).length = 16 := by rw [frS, List.length_append, wd_len]; rfl
def SS.nxt (s : SS) : SS := ⟨s.sy, s.seed, s.dr + 1, s.cn, s.ts⟩
def kFr : Con := Con.ofO [.o slF] []
  (fun x => [x.1.2.2.2.2.1.i = 0, x.1.2.2.2.2.1.len = x.1.2.2.2.2.1.N, List.length (α := tmK.T) x.1.2.2.2.2.1.xs = x.1.2.2.2.2.1.N, x.1.1 = true])
  (fun x => ⟨.pure k16 (frS (slM x.1).dr), [.agg [.bool (slM x.1).nxt.sy, .pure k16 (slM x.1).nxt.seed, .int .u64 (slM x.1).nxt.dr, .int .u64 (slM x.1).nxt.cn, .tsl 1 [] 0 0 18 (List.length (α := tmK.T) (slM x.1).nxt.ts)], .pure (.arr (List.length (α := tmK.T) (slM x.1).nxt.ts) tmK) (slM x.1).nxt.ts]⟩)
def kDrn : Con := Con.ofO [.o slF] []
  (fun x => [x.1.2.2.2.2.1.i = 0, x.1.2.2.2.2.1.len = x.1.2.2.2.2.1.N, List.length (α := tmK.T) x.1.2.2.2.2.1.xs = x.1.2.2.2.2.1.N])
  (fun x => ⟨.int .i64 (convT .i64 .u64 (slM x.1).dr), [.agg [.bool (slM x.1).sy, .pure k16 (slM x.1).seed, .int .u64 (slM x.1).dr, .int .u64 (slM x.1).cn, .tsl 1 [] 0 0 18 (List.length (α := tmK.T) (slM x.1).ts)], .pure (.arr (List.length (α := tmK.T) (slM x.1).ts) tmK) (slM x.1).ts]⟩)
def cfgSJ : Cfg2 := { ty := tyTabS, fn := fun | 48 => some kWide.sum | _ => none, G := shaG, pin := [], eq := eqS }
theorem cfgSJ_ok : CfgOK Tryd.prog cfgSJ := ⟨tyTabS_ok, (fun f s h => by
  simp only [cfgSJ] at h
  split at h
  · injection h with h; subst h; exact .inl wide_sum
  · cases h), eqS_ok⟩
section
attribute [local go_sem] Tryd.f36 kFr kWide cfgSJ tyTabS ssM_eta
theorem fresh_body (p : kFr.Par) (hp : ∀ q ∈ kFr.pre p, q) : BodyOK Tryd.prog cfgSJ Tryd.f36 (Tryd.f36.body.get rfl) kFr p := by
  obtain ⟨⟨(sy : Bool), (seed : List UInt8), (dr : UInt64), (cn : UInt64), ⟨N, i0, len, (ts : List tmK.T)⟩, u1⟩, u⟩ := p
  obtain ⟨h0, h1, h2, h3, _⟩ := Obs.of hp
  replace h0 : i0 = 0 := h0
  replace h1 : len = N := h1
  replace h2 : ts.length = N := h2
  replace h3 : sy = true := h3
  subst h0 h1 h2 h3
  refine ⟨?_, Nat.le_refl _, rfl, rfl⟩
  show Tri _ _ _ (Code.seq _ (Code.seq _ (Code.seq _ (Code.seq (Code.seq _ (Code.cond _ (Code.seq _ _) _)) (Code.seq _ (Code.seq _ (Code.seq _ _))))))) _
  have w1 := wd_len dr
  have w2 : List.take 8 (wd dr) = wd dr := List.take_of_length_le (by omega)
  have w3 : List.drop 8 (wd dr) = [] := List.drop_of_length_le (by omega)
  have hfr : List.take 8 [245, 0, 0, 0, 0, 0, 0, 0, 0, 0, 0, 0, 0, 0, 0, 0] ++ List.take (min 8 8) (wd dr) ++ List.drop (8 + (List.take (min 8 8) (wd dr)).length) [245, 0, 0, 0, 0, 0, 0, 0, 0, 0, 0, 0, 0, 0, 0, 0] = frS dr := by
    rw [show min 8 8 = 8 from rfl, w2, w1]
    show ([245, 0, 0, 0, 0, 0, 0, 0] ++ wd dr) ++ [] = _
    rw [List.append_nil]
    rfl
  refine Tri.at (by first | (simp only [w1, w2, w3, Con.start, go_sem]; rfl) | rfl) ?_
  repeat (first | ((first | refine Tri.seq (Tri.regT (cfgSJ_ok.pins _) ?_) | refine Tri.rgnT (cfgSJ_ok.pins _) ?_); (repeat (first | refine RunT.oneA (hp := by simp (maxSteps := 2000000) (disch := first | decide | omega | (simp only [List.length_append, List.length_cons, List.length_nil, List.length_take, List.length_drop]; omega)) only [w1, w2, w3, go_sem]; rfl) (h := ?_) | refine RunT.notA (h := ?_))); refine RunT.nil ?_; try simp only [InBlock, Then]) | ((first | refine Tri.seq (Tri.drwT (mixed) (cfgSJ_ok.pins _) ?_) | refine Tri.drnT (mixed) (cfgSJ_ok.pins _) ?_); (repeat (first | refine RunD.oneA (hp := by simp (maxSteps := 2000000) (disch := first | decide | omega | (simp only [List.length_append, List.length_cons, List.length_nil, List.length_take, List.length_drop]; omega)) only [w1, w2, w3, go_sem]; rfl) (h := ?_) | refine RunD.notA (h := ?_))); refine RunD.nil ?_; refine ⟨by kernel_rfl, ?_⟩; try simp only [InBlock, Then]) | refine Tri.cF (by first | (simp only [w1, w2, w3, go_sem]; done) | fail) ?_ | refine Tri.cT (by first | (simp only [w1, w2, w3, go_sem]; done) | fail) ?_ | (refine Tri.skip ?_; try simp only [InBlock, Then]) | (refine Tri.exit ?_; simp only [Then, InBlock, if_true, if_false, ↓reduceIte, Nat.reduceEqDiff]) | refine Tri.seq (Tri.block ?_) | refine Tri.block ?_ | refine Tri.seq ?_ | (refine Tri.ret ?_; refine Con.fin (.inl rfl) (by simp only [Tryd.f36, cfgSJ, resA, resA1, go_sem]; rfl) (by simp only [Obs, and_true, true_and]) (by first | (simp only [kFr, Con.of, Con.ofO, resV, w1, w2, w3, go_sem]; done) | fail) trivial rfl rfl))
  refine Tri.ret ?_
  refine Con.fin (.inl rfl) (by simp only [Tryd.f36, cfgSJ, resA, resA1, go_sem]; rfl) (by simp only [Obs, and_true, true_and]) ?_ ?_ rfl rfl
  · exact congrArg (AV.pure k16) hfr
  · exact ⟨rfl, rfl, trivial⟩
theorem fresh_sum : FSumOK Tryd.prog cfgSJ.G 36 kFr.sum := Con.sumOK cfgSJ_ok kFr Tryd.func36 rfl rfl (Con.ofO_inv _ _ _ _) fresh_body
end
section
attribute [local go_sem] Tryd.f37 kDrn cfgSJ tyTabS ssM_eta
theorem drawn_body (p : kDrn.Par) (hp : ∀ q ∈ kDrn.pre p, q) : BodyOK Tryd.prog cfgSJ Tryd.f37 (Tryd.f37.body.get rfl) kDrn p := by
  obtain ⟨⟨(sy : Bool), (seed : List UInt8), (dr : UInt64), (cn : UInt64), ⟨N, i0, len, (ts : List tmK.T)⟩, u1⟩, u⟩ := p
  obtain ⟨h0, h1, h2, _⟩ := Obs.of hp
  replace h0 : i0 = 0 := h0
  replace h1 : len = N := h1
  replace h2 : ts.length = N := h2
  subst h0 h1 h2
  refine ⟨?_, Nat.le_refl _, rfl, rfl⟩
  show Tri _ _ _ (Code.seq _ (Code.seq _ _)) _
  refine Tri.at (by first | (simp only [go_sem, Con.start, go_sem]; rfl) | rfl) ?_
  repeat (first | ((first | refine Tri.seq (Tri.regT (cfgSJ_ok.pins _) ?_) | refine Tri.rgnT (cfgSJ_ok.pins _) ?_); (repeat (first | refine RunT.oneA (hp := by simp (maxSteps := 2000000) (disch := first | decide | omega | (simp only [List.length_append, List.length_cons, List.length_nil, List.length_take, List.length_drop]; omega)) only [go_sem, go_sem]; rfl) (h := ?_) | refine RunT.notA (h := ?_))); refine RunT.nil ?_; try simp only [InBlock, Then]) | refine Tri.cF (by first | (simp only [go_sem, go_sem]; done) | fail) ?_ | refine Tri.cT (by first | (simp only [go_sem, go_sem]; done) | fail) ?_ | (refine Tri.skip ?_; try simp only [InBlock, Then]) | (refine Tri.exit ?_; simp only [Then, InBlock, if_true, if_false, ↓reduceIte, Nat.reduceEqDiff]) | refine Tri.seq (Tri.block ?_) | refine Tri.block ?_ | refine Tri.seq ?_ | (refine Tri.ret ?_; refine Con.fin (.inl rfl) (by simp only [Tryd.f37, cfgSJ, resA, resA1, go_sem]; rfl) (by simp only [Obs, and_true, true_and]) (by first | (simp only [kDrn, Con.of, Con.ofO, resV, go_sem, go_sem]; done) | fail) trivial rfl rfl))
  refine Tri.ret ?_
  refine Con.fin (.inl rfl) (by simp only [Tryd.f37, cfgSJ, resA, resA1, go_sem]; rfl) (by simp only [Obs, and_true, true_and]) ?_ ?_ rfl rfl
  · rfl
  · exact ⟨rfl, rfl, trivial⟩
theorem drawn_sum : FSumOK Tryd.prog cfgSJ.G 37 kDrn.sum := Con.sumOK cfgSJ_ok kDrn Tryd.func37 rfl rfl (Con.ofO_inv _ _ _ _) drawn_body
end
theorem mapK : MapLaw Tryd.prog 59 38 4 k16 :=
  MapLaw.arr (b := 5) Tryd.underlying59 ⟨Tryd.underlying38, by kernel_rfl, by kernel_rfl, by kernel_rfl⟩ Tryd.underlying5 ⟨116, by kernel_rfl⟩ (fun w => zero_bool (by kernel_rfl) w)
def tyTabF : TypeId → Option TyI := fun t => if t = 59 then some (TyI.mapT 38 4 k16) else tyTabS t
theorem tyTabF_ok : TysOK Tryd.prog tyTabF := by
  intro t i h
  unfold tyTabF at h
  split at h
  · injection h with h
    subst h
    rename_i e
    subst e
    exact TyOK.mapT mapK (by kernel_rfl)
  · exact tysSOK t i h
def fsI (o : List UInt8) : Nat → SS
  | 0 => ssM true o 0 0 []
  | i + 1 => (fsI o i).nxt
def fkI (o : List UInt8) : Nat → List (List UInt8)
  | 0 => []
  | i + 1 => fkI o i ++ [frS (fsI o i).dr]
theorem fsI_sy (o : List UInt8) : ∀ i, (fsI o i).sy = true
  | 0 => rfl
  | i + 1 => fsI_sy o i
theorem fsI_ts (o : List UInt8) : ∀ i, (fsI o i).ts = []
  | 0 => rfl
  | i + 1 => fsI_ts o i
theorem fsI_dr (o : List UInt8) : ∀ i, (fsI o i).dr = UInt64.ofNat i
  | 0 => rfl
  | i + 1 => by
    show (fsI o i).dr + 1 = _
    rw [fsI_dr o i, UInt64.ofNat_add]
    rfl
theorem fkI_mem {o : List UInt8} : ∀ {i : Nat} {b : List UInt8}, b ∈ fkI o i → ∃ j, j < i ∧ b = frS (fsI o j).dr
  | 0, b, h => by cases h
  | i + 1, b, h => by
    rcases List.mem_append.1 h with h | h
    · obtain ⟨j, h1, h2⟩ := fkI_mem h; exact ⟨j, by omega, h2⟩
    · exact ⟨i, by omega, List.mem_singleton.1 h⟩
theorem fk_new {o : List UInt8} {i : Nat} (hi : i ≤ 100) : memK k16 (fkI o i) (frS (fsI o i).dr) = false := by
  cases hm : memK k16 (fkI o i) (frS (fsI o i).dr) with
  | false => rfl
  | true =>
    exfalso
    obtain ⟨b, hb, hq⟩ := List.any_eq_true.1 hm
    have hq' : frS (fsI o i).dr = b := of_decide_eq_true hq
    obtain ⟨j, hj, e⟩ := fkI_mem hb
    rw [e] at hq'
    have h2 := frS_inj hq'
    rw [fsI_dr, fsI_dr] at h2
    have h3 := congrArg UInt64.toNat h2
    rw [UInt64.toNat_ofNat_of_lt' (by show i < 2 ^ 64; omega), UInt64.toNat_ofNat_of_lt' (by show j < 2 ^ 64; omega)] at h3
    omega
theorem drn_nat : ∀ i, i ≤ 100 → convT .i64 .u64 (UInt64.ofNat i) = (i : Int) := by
  have h : ∀ i : Fin 101, convT .i64 .u64 (UInt64.ofNat i.val) = (i.val : Int) := by decide
  intro i hi
  exact h ⟨i, by omega⟩
theorem and63 (n : Int) : ∃ m : Nat, andT .i64 n 63 = (m : Int) ∧ m < 64 := by
  refine ⟨((BitVec.ofInt 64 n) &&& BitVec.ofNat 64 63).toNat, ?_, ?_⟩
  · show bits .and .i64 n 63 = _
    show IntKind.i64.wrap ((BitVec.ofInt 64 n &&& BitVec.ofInt 64 63).toNat : Int) = _
    have h : (BitVec.ofInt 64 n &&& BitVec.ofNat 64 63).toNat < 64 := by
      rw [BitVec.toNat_and]
      exact Nat.lt_of_le_of_lt Nat.and_le_right (by decide)
    exact wrapN _ (by
      have : BitVec.ofInt 64 63 = BitVec.ofNat 64 63 := by decide
      rw [this]; omega)
  · rw [BitVec.toNat_and]
    exact Nat.lt_of_le_of_lt Nat.and_le_right (by decide)
def kFresh : Con := Con.of [.v (.int .i64), .v k16] (fun x => [List.length (α := UInt8) x.2.1 = 16]) (fun _ => ⟨.bool true, []⟩)
def cfgSK : Cfg2 := { ty := tyTabF, fn := fun | 31 => some kSpk6.sum | 32 => some kNewS.sum | 36 => some kFr.sum | 37 => some kDrn.sum | _ => none, G := shaG, pin := [], eq := eqS }
theorem cfgSK_ok : CfgOK Tryd.prog cfgSK := ⟨tyTabF_ok, (fun f s h => by
  simp only [cfgSK] at h
  split at h
  · injection h with h; subst h; exact .inl spk6_sum
  · injection h with h; subst h; exact .inl newS_sum
  · injection h with h; subst h; exact .inl fresh_sum
  · injection h with h; subst h; exact .inl drawn_sum
  · cases h), eqS_ok⟩
section
attribute [local go_sem] Tryd.f16 kFresh kSpk6 kNewS kFr kDrn cfgSK tyTabF tyTabS eqS ssM_eta slM eqT_k strEq_id
theorem lfr_body (p : kFresh.Par) (hp : ∀ q ∈ kFresh.pre p, q) : BodyOK Tryd.prog cfgSK Tryd.f16 (Tryd.f16.body.get rfl) kFresh p := by
  obtain ⟨(n : Int), (o : List UInt8), u⟩ := p
  obtain ⟨h1, _⟩ := Obs.of hp
  replace h1 : o.length = 16 := h1
  refine ⟨?_, Nat.zero_le _, rfl, rfl⟩
  show Tri _ _ _ (Code.seq _ (Code.seq (Code.seq _ (Code.cond _ (Code.seq _ _) _)) (Code.seq _ (Code.seq (Code.seq _ (Code.cond _ (Code.seq _ _) _)) (Code.seq _ (Code.seq (Code.seq _ (Code.block _ (Code.loop (Code.seq (Code.seq _ (Code.cond _ _ _)) (Code.seq (Code.block _ (Code.seq _ (Code.seq (Code.seq _ (Code.cond _ (Code.seq _ _) _)) _))) _))))) (Code.seq _ _))))))) _
  obtain ⟨m, hm, hm2⟩ := and63 n
  refine Tri.at (by first | (simp only [go_sem, Con.start, go_sem]; rfl) | rfl) ?_
  repeat (first | ((first | refine Tri.seq (Tri.regT (cfgSK_ok.pins _) ?_) | refine Tri.rgnT (cfgSK_ok.pins _) ?_); (repeat (first | refine RunT.oneA (hp := by simp (maxSteps := 2000000) (disch := first | decide | omega | (simp only [List.length_append, List.length_cons, List.length_nil, List.length_take, List.length_drop]; omega)) only [go_sem, go_sem]; rfl) (h := ?_) | refine RunT.notA (h := ?_))); refine RunT.nil ?_; try simp only [InBlock, Then]) | refine Tri.cF (by first | (simp only [go_sem, go_sem]; done) | fail) ?_ | refine Tri.cT (by first | (simp only [go_sem, go_sem]; done) | fail) ?_ | (refine Tri.skip ?_; try simp only [InBlock, Then]) | (refine Tri.exit ?_; simp only [Then, InBlock, if_true, if_false, ↓reduceIte, Nat.reduceEqDiff]) | refine Tri.seq (Tri.block ?_) | refine Tri.block ?_ | refine Tri.seq ?_ | (refine Tri.ret ?_; refine Con.fin (.inl rfl) (by simp only [Tryd.f16, cfgSK, resA, resA1, go_sem]; rfl) (by simp only [Obs, and_true, true_and]) (by first | (simp only [kFresh, Con.of, Con.ofO, resV, go_sem, go_sem]; done) | fail) trivial rfl rfl))
  refine Tri.loop (fun i : Nat => (⟨[some (.int .i64 n), none, none, some (.ptr 0 [] 0), none, some (.ptr 1 [] 0), some (.map 3), some (.int .i64 (i : Int))] ++ List.replicate 44 none, [.live (.pure k16 o), .live (.agg [.bool (fsI o i).sy, .pure k16 (fsI o i).seed, .int .u64 (fsI o i).dr, .int .u64 (fsI o i).cn, .tsl 2 [] 0 0 18 (List.length (α := tmK.T) (fsI o i).ts)]), .live (.pure (.arr (List.length (α := tmK.T) (fsI o i).ts) tmK) (fsI o i).ts), .live (.tuple [.pure (.arr 0 k16) (fkI o i)])]⟩ : AS)) (fun i => i ≤ 1 + m) (fun i => 1 + m - i) 0 ?_ (Nat.zero_le _) ?_
  · refine Wk.of ?_ ?_ rfl rfl
    · simp only [lessTs, List.reduceReplicate, List.cons_append, List.nil_append] <;> ((repeat' apply And.intro) <;> first | with_reducible rfl | exact True.intro | exact congrArg (fun z : Int => some (AV.int IntKind.i64 z)) (show (_ : Int) = _ by omega) | exact congrArg (fun z : Nat => some (AV.tsl _ _ _ _ _ z)) (show (_ : Nat) = _ by omega) | exact arrEq (by omega) (by with_reducible rfl))
    exact ⟨rfl, rfl, rfl, rfl, trivial⟩
  · intro i hi
    by_cases h3 : i < 1 + m
    · have h3' : decide ((i : Int) < ((1 + m : Nat) : Int)) = true := decide_eq_true (by omega)
      have hn := fk_new (o := o) (i := i) (by omega)
      have hsy := fsI_sy o i
      have hd0 : decide (List.getD (frS (fsI o i).dr) 0 0 = 245) = true := rfl
      have hdr : convT .i64 .u64 (fsI o i).nxt.dr = ((i + 1 : Nat) : Int) := by
        rw [show (fsI o i).nxt.dr = (fsI o (i + 1)).dr from rfl, fsI_dr]
        exact drn_nat (i + 1) (by omega)
      by_cases h4 : frS (fsI o i).dr = o
      · have h4' : eqT k16 (frS (fsI o i).dr) o = true := decide_eq_true h4
        have h5 : decide (List.getD o 0 0 = 245) = true := by rw [← h4]; exact hd0
        refine Tri.at (by first | (simp only [h3', hm, hn, hd0, hdr, h4', h5, Con.start, go_sem]; rfl) | rfl) ?_
        repeat (first | ((first | refine Tri.seq (Tri.regT (cfgSK_ok.pins _) ?_) | refine Tri.rgnT (cfgSK_ok.pins _) ?_); (repeat (first | refine RunT.oneA (hp := by simp (maxSteps := 2000000) (disch := first | decide | omega | (simp only [List.length_append, List.length_cons, List.length_nil, List.length_take, List.length_drop]; omega)) only [h3', hm, hn, hd0, hdr, h4', h5, go_sem]; rfl) (h := ?_) | refine RunT.notA (h := ?_))); refine RunT.nil ?_; try simp only [InBlock, Then]) | refine Tri.cF (by first | (simp only [h3', hm, hn, hd0, hdr, h4', h5, go_sem]; done) | fail) ?_ | refine Tri.cT (by first | (simp only [h3', hm, hn, hd0, hdr, h4', h5, go_sem]; done) | fail) ?_ | (refine Tri.skip ?_; try simp only [InBlock, Then]) | (refine Tri.exit ?_; simp only [Then, InBlock, if_true, if_false, ↓reduceIte, Nat.reduceEqDiff]) | refine Tri.seq (Tri.block ?_) | refine Tri.block ?_ | refine Tri.seq ?_ | (refine Tri.ret ?_; refine Con.fin (.inl rfl) (by simp only [Tryd.f16, cfgSK, resA, resA1, go_sem]; rfl) (by simp only [Obs, and_true, true_and]) (by first | (simp only [kFresh, Con.of, Con.ofO, resV, h3', hm, hn, hd0, hdr, h4', h5, go_sem]; done) | fail) trivial rfl rfl))
        refine ⟨i+1, (by omega), (by omega), Wk.of ?_ ?_ rfl rfl⟩
        · simp only [lessTs, List.reduceReplicate, List.cons_append, List.nil_append, fsI, fkI] <;> ((repeat' apply And.intro) <;> first | with_reducible rfl | exact True.intro | exact congrArg (fun z : Int => some (AV.int IntKind.i64 z)) (show (_ : Int) = _ by omega) | exact congrArg (fun z : Nat => some (AV.tsl _ _ _ _ _ z)) (show (_ : Nat) = _ by omega) | exact arrEq (by omega) (by with_reducible rfl))
        · simp only [lessHs, fsI, fkI] <;> ((repeat' apply And.intro) <;> first | with_reducible rfl | exact True.intro | exact congrArg (fun z : Int => some (AV.int IntKind.i64 z)) (show (_ : Int) = _ by omega) | exact congrArg (fun z : Nat => some (AV.tsl _ _ _ _ _ z)) (show (_ : Nat) = _ by omega) | exact arrEq (by omega) (by with_reducible rfl))
      · have h4' : eqT k16 (frS (fsI o i).dr) o = false := decide_eq_false h4
        refine Tri.at (by first | (simp only [h3', hm, hn, hd0, hdr, h4', Con.start, go_sem]; rfl) | rfl) ?_
        repeat (first | ((first | refine Tri.seq (Tri.regT (cfgSK_ok.pins _) ?_) | refine Tri.rgnT (cfgSK_ok.pins _) ?_); (repeat (first | refine RunT.oneA (hp := by simp (maxSteps := 2000000) (disch := first | decide | omega | (simp only [List.length_append, List.length_cons, List.length_nil, List.length_take, List.length_drop]; omega)) only [h3', hm, hn, hd0, hdr, h4', go_sem]; rfl) (h := ?_) | refine RunT.notA (h := ?_))); refine RunT.nil ?_; try simp only [InBlock, Then]) | refine Tri.cF (by first | (simp only [h3', hm, hn, hd0, hdr, h4', go_sem]; done) | fail) ?_ | refine Tri.cT (by first | (simp only [h3', hm, hn, hd0, hdr, h4', go_sem]; done) | fail) ?_ | (refine Tri.skip ?_; try simp only [InBlock, Then]) | (refine Tri.exit ?_; simp only [Then, InBlock, if_true, if_false, ↓reduceIte, Nat.reduceEqDiff]) | refine Tri.seq (Tri.block ?_) | refine Tri.block ?_ | refine Tri.seq ?_ | (refine Tri.ret ?_; refine Con.fin (.inl rfl) (by simp only [Tryd.f16, cfgSK, resA, resA1, go_sem]; rfl) (by simp only [Obs, and_true, true_and]) (by first | (simp only [kFresh, Con.of, Con.ofO, resV, h3', hm, hn, hd0, hdr, h4', go_sem]; done) | fail) trivial rfl rfl))
        refine ⟨i+1, (by omega), (by omega), Wk.of ?_ ?_ rfl rfl⟩
        · simp only [lessTs, List.reduceReplicate, List.cons_append, List.nil_append, fsI, fkI] <;> ((repeat' apply And.intro) <;> first | with_reducible rfl | exact True.intro | exact congrArg (fun z : Int => some (AV.int IntKind.i64 z)) (show (_ : Int) = _ by omega) | exact congrArg (fun z : Nat => some (AV.tsl _ _ _ _ _ z)) (show (_ : Nat) = _ by omega) | exact arrEq (by omega) (by with_reducible rfl))
        · simp only [lessHs, fsI, fkI] <;> ((repeat' apply And.intro) <;> first | with_reducible rfl | exact True.intro | exact congrArg (fun z : Int => some (AV.int IntKind.i64 z)) (show (_ : Int) = _ by omega) | exact congrArg (fun z : Nat => some (AV.tsl _ _ _ _ _ z)) (show (_ : Nat) = _ by omega) | exact arrEq (by omega) (by with_reducible rfl))
    · have h3' : decide ((i : Int) < ((1 + m : Nat) : Int)) = false := decide_eq_false (by omega)
      refine Tri.at (by first | (simp only [h3', hm, Con.start, go_sem]; rfl) | rfl) ?_
      repeat (first | ((first | refine Tri.seq (Tri.regT (cfgSK_ok.pins _) ?_) | refine Tri.rgnT (cfgSK_ok.pins _) ?_); (repeat (first | refine RunT.oneA (hp := by simp (maxSteps := 2000000) (disch := first | decide | omega | (simp only [List.length_append, List.length_cons, List.length_nil, List.length_take, List.length_drop]; omega)) only [h3', hm, go_sem]; rfl) (h := ?_) | refine RunT.notA (h := ?_))); refine RunT.nil ?_; try simp only [InBlock, Then]) | refine Tri.cF (by first | (simp only [h3', hm, go_sem]; done) | fail) ?_ | refine Tri.cT (by first | (simp only [h3', hm, go_sem]; done) | fail) ?_ | (refine Tri.skip ?_; try simp only [InBlock, Then]) | (refine Tri.exit ?_; simp only [Then, InBlock, if_true, if_false, ↓reduceIte, Nat.reduceEqDiff]) | refine Tri.seq (Tri.block ?_) | refine Tri.block ?_ | refine Tri.seq ?_ | (refine Tri.ret ?_; refine Con.fin (.inl rfl) (by simp only [Tryd.f16, cfgSK, resA, resA1, go_sem]; rfl) (by simp only [Obs, and_true, true_and]) (by first | (simp only [kFresh, Con.of, Con.ofO, resV, h3', hm, go_sem]; done) | fail) trivial rfl rfl))
theorem lfr_sum : FSumOK Tryd.prog cfgSK.G 16 kFresh.sum := Con.sumOK cfgSK_ok kFresh Tryd.func16 rfl rfl (Con.of_inv _ _ _) lfr_body
end
end Go.Proofs.YticgfjalikmniaaDoor
