/- Part of a proof: authenticators are written and read as the document says -/
import Derived.Test.YtjdeaphfamenaaaDoorP4
set_option linter.unusedVariables false
set_option linter.unusedSimpArgs false
set_option linter.unusedSectionVars false
namespace Go.Proofs.YtjdeaphfamenaaaDoor
open Go.Vc Go.Proofs
set_option maxRecDepth 10000
set_option maxHeartbeats 4000000
def lgS (l : List (List UInt8)) : Bool := l.any fun s => decide ((300 : Int) < ((s.length : Nat) : Int))
theorem lgS_take (l : List (List UInt8)) (i : Nat) (h : i < l.length) : lgS (l.take (i + 1)) = (lgS (l.take i) || decide ((300 : Int) < (((l.getD i []).length : Nat) : Int))) := by
  rw [lgS, List.take_add_one, List.getElem?_eq_getElem h, List.any_append, List.getD_eq_getElem?_getD, List.getElem?_eq_getElem h]
  simp [lgS]
theorem lgS_true {l : List (List UInt8)} {i : Nat} (h : lgS (l.take i) = true) : lgS l = true := by
  rw [← List.take_append_drop i l, lgS, List.any_append]
  rw [lgS] at h
  rw [h]; rfl
def kLong : Con := Con.of [.v (.slice false .str)] (fun x => [List.length (α := List UInt8) x.1 ≤ 1000]) (fun x => ⟨.bool (lgS x.1), []⟩)
def cfgTJ1 : Cfg2 := { ty := tyTab, fn := fun  | _ => none, G := gNone, pin := [], eq := fun _ => none }
theorem cfgTJ1_ok : CfgOK Tryd.prog cfgTJ1 := ⟨tysOK, (fun f s h => by cases h), (fun t d h => by cases h)⟩
section
attribute [local go_sem] Tryd.f36 kLong cfgTJ1 tyTab
theorem lg_body (p : kLong.Par) (hp : ∀ q ∈ kLong.pre p, q) : BodyOK Tryd.prog cfgTJ1 Tryd.f36 (Tryd.f36.body.get rfl) kLong p := by
  obtain ⟨(l : List (List UInt8)), u⟩ := p
  obtain ⟨h0, _⟩ := Obs.of hp
  replace h0 : l.length ≤ 1000 := h0
  refine ⟨?_, Nat.zero_le _, rfl, rfl⟩
  show Tri _ _ _ (Code.seq _ (Code.seq (Code.seq _ (Code.block _ (Code.loop (Code.seq _ (Code.seq (Code.cond _ _ _) (Code.seq (Code.block _ (Code.seq _ (Code.seq _ (Code.cond _ (Code.seq _ _) _)))) _)))))) (Code.seq _ _))) _
  refine Tri.at (by first | (simp only [go_sem, Con.start, go_sem]; rfl) | rfl) ?_
  repeat (first | ((first | refine Tri.seq (Tri.regT (cfgTJ1_ok.pins _) ?_) | refine Tri.rgnT (cfgTJ1_ok.pins _) ?_); (repeat (first | refine RunT.oneA (hp := by simp (maxSteps := 2000000) (disch := first | decide | omega | (simp only [List.length_append, List.length_cons, List.length_nil, List.length_take, List.length_drop]; omega)) only [go_sem, go_sem]; rfl) (h := ?_) | refine RunT.notA (h := ?_))); refine RunT.nil ?_; try simp only [InBlock, Then]) | refine Tri.cF (by first | (simp only [go_sem, go_sem]; done) | fail) ?_ | refine Tri.cT (by first | (simp only [go_sem, go_sem]; done) | fail) ?_ | (refine Tri.skip ?_; try simp only [InBlock, Then]) | (refine Tri.exit ?_; simp only [Then, InBlock, if_true, if_false, ↓reduceIte, Nat.reduceEqDiff]) | refine Tri.seq (Tri.block ?_) | refine Tri.block ?_ | refine Tri.seq ?_ | (refine Tri.ret ?_; refine Con.fin (.inl rfl) (by simp only [Tryd.f36, cfgTJ1, resA, resA1, go_sem]; rfl) (by simp only [Obs, and_true, true_and]) (by first | (simp only [kLong, Con.of, Con.ofO, resV, go_sem, go_sem]; done) | fail) trivial rfl rfl))
  refine Tri.loop (fun i : Nat => (⟨[none, none, some (.bool false), none, none, some (.pure (.slice false .str) l), some (.int .i64 (l.length : Int)), some (.int .i64 (i : Int))] ++ List.replicate 7 none, []⟩ : AS)) (fun i => i ≤ l.length ∧ lgS (l.take i) = false) (fun i => l.length - i) 0 ?_ ⟨Nat.zero_le _, rfl⟩ ?_
  · refine Wk.of ?_ ?_ rfl rfl
    · simp only [lessTs, List.reduceReplicate, List.cons_append, List.nil_append] <;> ((repeat' apply And.intro) <;> first | with_reducible rfl | exact True.intro | exact congrArg (fun z : Int => some (AV.int IntKind.i64 z)) (show (_ : Int) = _ by omega) | exact congrArg (fun z : Nat => some (AV.tsl _ _ _ _ _ z)) (show (_ : Nat) = _ by omega) | exact arrEq (by omega) (by with_reducible rfl))
    · simp only [lessHs] <;> ((repeat' apply And.intro) <;> first | with_reducible rfl | exact True.intro | exact congrArg (fun z : Int => some (AV.int IntKind.i64 z)) (show (_ : Int) = _ by omega) | exact congrArg (fun z : Nat => some (AV.tsl _ _ _ _ _ z)) (show (_ : Nat) = _ by omega) | exact arrEq (by omega) (by with_reducible rfl))
  · intro i ⟨hi, ha⟩
    by_cases hc : i < l.length
    · have hc' : decide ((i : Int) < (l.length : Int)) = true := decide_eq_true (by omega)
      have hst := lgS_take l i hc
      rw [ha, Bool.false_or] at hst
      have htr := lgS_true (l := l) (i := i + 1)
      generalize hs : l.getD i [] = s at *
      cases hd : decide ((300 : Int) < ((s.length : Nat) : Int)) with
      | true =>
        have e : lgS l = true := htr (by rw [hst, hd])
        refine Tri.at (by first | (simp only [hc', hs, hd, e, Con.start, go_sem]; rfl) | rfl) ?_
        repeat (first | ((first | refine Tri.seq (Tri.regT (cfgTJ1_ok.pins _) ?_) | refine Tri.rgnT (cfgTJ1_ok.pins _) ?_); (repeat (first | refine RunT.oneA (hp := by simp (maxSteps := 2000000) (disch := first | decide | omega | (simp only [List.length_append, List.length_cons, List.length_nil, List.length_take, List.length_drop]; omega)) only [hc', hs, hd, e, go_sem]; rfl) (h := ?_) | refine RunT.notA (h := ?_))); refine RunT.nil ?_; try simp only [InBlock, Then]) | refine Tri.cF (by first | (simp only [hc', hs, hd, e, go_sem]; done) | fail) ?_ | refine Tri.cT (by first | (simp only [hc', hs, hd, e, go_sem]; done) | fail) ?_ | (refine Tri.skip ?_; try simp only [InBlock, Then]) | (refine Tri.exit ?_; simp only [Then, InBlock, if_true, if_false, ↓reduceIte, Nat.reduceEqDiff]) | refine Tri.seq (Tri.block ?_) | refine Tri.block ?_ | refine Tri.seq ?_ | (refine Tri.ret ?_; refine Con.fin (.inl rfl) (by simp only [Tryd.f36, cfgTJ1, resA, resA1, go_sem]; rfl) (by simp only [Obs, and_true, true_and]) (by first | (simp only [kLong, Con.of, Con.ofO, resV, hc', hs, hd, e, go_sem]; done) | fail) trivial rfl rfl))
      | false =>
        refine Tri.at (by first | (simp only [hc', hs, hd, Con.start, go_sem]; rfl) | rfl) ?_
        repeat (first | ((first | refine Tri.seq (Tri.regT (cfgTJ1_ok.pins _) ?_) | refine Tri.rgnT (cfgTJ1_ok.pins _) ?_); (repeat (first | refine RunT.oneA (hp := by simp (maxSteps := 2000000) (disch := first | decide | omega | (simp only [List.length_append, List.length_cons, List.length_nil, List.length_take, List.length_drop]; omega)) only [hc', hs, hd, go_sem]; rfl) (h := ?_) | refine RunT.notA (h := ?_))); refine RunT.nil ?_; try simp only [InBlock, Then]) | refine Tri.cF (by first | (simp only [hc', hs, hd, go_sem]; done) | fail) ?_ | refine Tri.cT (by first | (simp only [hc', hs, hd, go_sem]; done) | fail) ?_ | (refine Tri.skip ?_; try simp only [InBlock, Then]) | (refine Tri.exit ?_; simp only [Then, InBlock, if_true, if_false, ↓reduceIte, Nat.reduceEqDiff]) | refine Tri.seq (Tri.block ?_) | refine Tri.block ?_ | refine Tri.seq ?_ | (refine Tri.ret ?_; refine Con.fin (.inl rfl) (by simp only [Tryd.f36, cfgTJ1, resA, resA1, go_sem]; rfl) (by simp only [Obs, and_true, true_and]) (by first | (simp only [kLong, Con.of, Con.ofO, resV, hc', hs, hd, go_sem]; done) | fail) trivial rfl rfl))
        refine ⟨i + 1, ⟨(by omega), (by rw [hst, hd])⟩, (by omega), Wk.of ?_ ?_ rfl rfl⟩
        · simp only [lessTs, List.reduceReplicate, List.cons_append, List.nil_append] <;> ((repeat' apply And.intro) <;> first | with_reducible rfl | exact True.intro | exact congrArg (fun z : Int => some (AV.int IntKind.i64 z)) (show (_ : Int) = _ by omega) | exact congrArg (fun z : Nat => some (AV.tsl _ _ _ _ _ z)) (show (_ : Nat) = _ by omega) | exact arrEq (by omega) (by with_reducible rfl))
        · trivial
    · have hc' : decide ((i : Int) < (l.length : Int)) = false := decide_eq_false (by omega)
      rw [List.take_of_length_le (by omega)] at ha
      refine Tri.at (by first | (simp only [hc', ha, Con.start, go_sem]; rfl) | rfl) ?_
      repeat (first | ((first | refine Tri.seq (Tri.regT (cfgTJ1_ok.pins _) ?_) | refine Tri.rgnT (cfgTJ1_ok.pins _) ?_); (repeat (first | refine RunT.oneA (hp := by simp (maxSteps := 2000000) (disch := first | decide | omega | (simp only [List.length_append, List.length_cons, List.length_nil, List.length_take, List.length_drop]; omega)) only [hc', ha, go_sem]; rfl) (h := ?_) | refine RunT.notA (h := ?_))); refine RunT.nil ?_; try simp only [InBlock, Then]) | refine Tri.cF (by first | (simp only [hc', ha, go_sem]; done) | fail) ?_ | refine Tri.cT (by first | (simp only [hc', ha, go_sem]; done) | fail) ?_ | (refine Tri.skip ?_; try simp only [InBlock, Then]) | (refine Tri.exit ?_; simp only [Then, InBlock, if_true, if_false, ↓reduceIte, Nat.reduceEqDiff]) | refine Tri.seq (Tri.block ?_) | refine Tri.block ?_ | refine Tri.seq ?_ | (refine Tri.ret ?_; refine Con.fin (.inl rfl) (by simp only [Tryd.f36, cfgTJ1, resA, resA1, go_sem]; rfl) (by simp only [Obs, and_true, true_and]) (by first | (simp only [kLong, Con.of, Con.ofO, resV, hc', ha, go_sem]; done) | fail) trivial rfl rfl))
theorem lg_sum : FSumOK Tryd.prog cfgTJ1.G 36 kLong.sum := Con.sumOK cfgTJ1_ok kLong Tryd.func36 rfl rfl (Con.of_inv _ _ _) lg_body
end
theorem au_pair (v : vsK.T) : ∃ (x : auK.T) (c : Int), auV v = .tuple [.pure auK x, .int .i64 c] := by
  unfold auV
  split
  · exact ⟨_, _, rfl⟩
  · exact ⟨_, _, rfl⟩
def eqA : TypeId → Option Kd
  | 57 => some auK
  | _ => none
theorem eqA_ok : ∀ t d, eqA t = some d → TyEq Tryd.prog d t ∧ Tryd.prog.eqGuardType Tryd.prog.depth t = false ∧ d.ht ≤ 10000 ∧ d.isAgg = true := fun t d h => by
  simp only [eqA] at h
  split at h
  · injection h with h
    subst h
    refine ⟨⟨_, Tryd.underlying57, by kernel_rfl, ?_⟩, by kernel_rfl, by decide, rfl⟩
    exact ⟨by decide, rfl, ⟨_, rfl, by kernel_rfl⟩, Tryd.underlying9, by decide, rfl, ⟨_, rfl, by kernel_rfl⟩, Tryd.underlying2, by decide, rfl, ⟨_, rfl, by kernel_rfl⟩, Tryd.underlying46, by decide, rfl, ⟨_, rfl, by kernel_rfl⟩, ⟨5, Tryd.underlying30, Tryd.underlying5, _, rfl, by kernel_rfl⟩, trivial⟩
  · cases h
theorem eqT_a (x : auK.T) : eqT auK x x = true := by
  obtain ⟨(c : List UInt8), (ti : Int), (no : UInt64), (k : List UInt8), u1⟩ := x
  show (strEq c c && (eqI .i64 ti ti && (eqI .u64 no no && (eqL .u8 k k && true)))) = true
  simp [strEq, eqI_i64, eqI_u64, eqL]
theorem wa_len {a : auK.T} (h : waR a = true) (hk : List.length (α := UInt8) a.2.2.2.1 = 16) : (jnF (tgF 11 (waL a))).length ≤ 1000000 := by
  obtain ⟨(c : List UInt8), (ti : Int), (no : UInt64), (k : List UInt8), u1⟩ := a
  replace hk : k.length = 16 := hk
  have h1 : rgS (pwS c) = true := by
    have h' : (rgS (pwS c) && (!decide (ti < 0) && !decide ((1099511627776 : Int) < ti))) = true := h
    rw [Bool.and_eq_true] at h'
    exact h'.1
  have g1 := pw_len h1
  have n1 := numS_len (UInt64.ofInt ti)
  have n2 := numS_len no
  have hall : ∀ v ∈ [c, numS (UInt64.ofInt ti), numS no, k], List.length v ≤ 65535 := by
    intro v hv
    simp only [List.mem_cons, List.not_mem_nil, or_false] at hv
    rcases hv with rfl | rfl | rfl | rfl <;> omega
  exact Nat.le_trans (jnF_len (tgF 11 [c, numS (UInt64.ofInt ti), numS no, k]) (tgF_ok _ 11 (by decide) (by show (11 : Int) + 4 ≤ 255; decide) hall)) (by show 4 * 65538 ≤ 1000000; decide)
def kLAu : Con := Con.of [.v auK, .v (.slice true (.int .u8))] (fun x => [List.length (α := UInt8) x.1.2.2.2.1 = 16]) (fun _ => ⟨.bool true, []⟩)
def cfgTJ2 : Cfg2 := { ty := tyTabS, fn := fun | 19 => some kTsp.sum | 36 => some kLong.sum | 37 => some kWa.sum | 38 => some kRwa.sum | 39 => some kRau.sum | 40 => some kRra.sum | _ => none, G := gNone, pin := [], eq := eqA }
theorem cfgTJ2_ok : CfgOK Tryd.prog cfgTJ2 := ⟨tyTabS_ok, (fun f s h => by
  simp only [cfgTJ2] at h
  split at h
  · injection h with h; subst h; exact .inl tsp_sum
  · injection h with h; subst h; exact .inl lg_sum
  · injection h with h; subst h; exact .inl wau_sum
  · injection h with h; subst h; exact .inl rwa_sum
  · injection h with h; subst h; exact .inl rda_sum
  · injection h with h; subst h; exact .inl rra_sum
  · cases h), eqA_ok⟩
section
attribute [local go_sem] Tryd.f13 kLAu kTsp kLong kWa kRwa kRau kRra cfgTJ2 tyTabS tyTabR tyTabV tyTabM tyTabK tyTab eqA eqT_a
theorem lau_body (p : kLAu.Par) (hp : ∀ q ∈ kLAu.pre p, q) : BodyOK Tryd.prog cfgTJ2 Tryd.f13 (Tryd.f13.body.get rfl) kLAu p := by
  obtain ⟨⟨(c : List UInt8), (ti : Int), (no : UInt64), (k : List UInt8), u1⟩, (raw : List UInt8), u⟩ := p
  obtain ⟨hk, _⟩ := Obs.of hp
  replace hk : k.length = 16 := hk
  refine ⟨?_, Nat.zero_le _, rfl, rfl⟩
  show Tri _ _ _ (Code.seq _ (Code.seq (Code.seq _ (Code.cond _ (Code.seq _ _) _)) (Code.seq (Code.seq _ (Code.cond _ (Code.seq _ _) _)) (Code.seq _ (Code.seq _ (Code.seq _ (Code.seq _ (Code.seq (Code.seq _ (Code.cond _ (Code.seq _ _) _)) (Code.seq (Code.seq _ (Code.cond _ (Code.seq _ _) _)) (Code.seq _ (Code.seq _ _))))))))))) _
  have hlg : lgS [c] = decide ((300 : Int) < ((c.length : Nat) : Int)) := by simp [lgS]
  have z0 : decide ((0 : Int) = 0) = true := rfl
  have z1 : decide ((1 : Int) = 0) = false := rfl
  have z2 : decide ((1 : Int) = 1) = true := rfl
  have z4 : strEq [] [] = true := rfl
  by_cases h1 : 300 < c.length
  · have h1' : decide ((300 : Int) < ((c.length : Nat) : Int)) = true := decide_eq_true (by omega)
    refine Tri.at (by first | (simp only [hlg, h1', Con.start, go_sem]; rfl) | rfl) ?_
    repeat (first | ((first | refine Tri.seq (Tri.regT (cfgTJ2_ok.pins _) ?_) | refine Tri.rgnT (cfgTJ2_ok.pins _) ?_); (repeat (first | refine RunT.oneA (hp := by simp (maxSteps := 2000000) (disch := first | decide | omega | (simp only [List.length_append, List.length_cons, List.length_nil, List.length_take, List.length_drop]; omega)) only [hlg, h1', go_sem]; rfl) (h := ?_) | refine RunT.notA (h := ?_))); refine RunT.nil ?_; try simp only [InBlock, Then]) | refine Tri.cF (by first | (simp only [hlg, h1', go_sem]; done) | fail) ?_ | refine Tri.cT (by first | (simp only [hlg, h1', go_sem]; done) | fail) ?_ | (refine Tri.skip ?_; try simp only [InBlock, Then]) | (refine Tri.exit ?_; simp only [Then, InBlock, if_true, if_false, ↓reduceIte, Nat.reduceEqDiff]) | refine Tri.seq (Tri.block ?_) | refine Tri.block ?_ | refine Tri.seq ?_ | (refine Tri.ret ?_; refine Con.fin (.inl rfl) (by simp only [Tryd.f13, cfgTJ2, resA, resA1, go_sem]; rfl) (by simp only [Obs, and_true, true_and]) (by first | (simp only [kLAu, Con.of, Con.ofO, resV, hlg, h1', go_sem]; done) | fail) trivial rfl rfl))
  have h1' : decide ((300 : Int) < ((c.length : Nat) : Int)) = false := decide_eq_false (by omega)
  by_cases h2 : 3000 < raw.length
  · have h2' : decide ((3000 : Int) < ((raw.length : Nat) : Int)) = true := decide_eq_true (by omega)
    refine Tri.at (by first | (simp only [hlg, h1', h2', Con.start, go_sem]; rfl) | rfl) ?_
    repeat (first | ((first | refine Tri.seq (Tri.regT (cfgTJ2_ok.pins _) ?_) | refine Tri.rgnT (cfgTJ2_ok.pins _) ?_); (repeat (first | refine RunT.oneA (hp := by simp (maxSteps := 2000000) (disch := first | decide | omega | (simp only [List.length_append, List.length_cons, List.length_nil, List.length_take, List.length_drop]; omega)) only [hlg, h1', h2', go_sem]; rfl) (h := ?_) | refine RunT.notA (h := ?_))); refine RunT.nil ?_; try simp only [InBlock, Then]) | refine Tri.cF (by first | (simp only [hlg, h1', h2', go_sem]; done) | fail) ?_ | refine Tri.cT (by first | (simp only [hlg, h1', h2', go_sem]; done) | fail) ?_ | (refine Tri.skip ?_; try simp only [InBlock, Then]) | (refine Tri.exit ?_; simp only [Then, InBlock, if_true, if_false, ↓reduceIte, Nat.reduceEqDiff]) | refine Tri.seq (Tri.block ?_) | refine Tri.block ?_ | refine Tri.seq ?_ | (refine Tri.ret ?_; refine Con.fin (.inl rfl) (by simp only [Tryd.f13, cfgTJ2, resA, resA1, go_sem]; rfl) (by simp only [Obs, and_true, true_and]) (by first | (simp only [kLAu, Con.of, Con.ofO, resV, hlg, h1', h2', go_sem]; done) | fail) trivial rfl rfl))
  have h2' : decide ((3000 : Int) < ((raw.length : Nat) : Int)) = false := decide_eq_false (by omega)
  have hv := vsF_ok (d := raw) (ts := tgI 11 4) (by omega)
  replace hv : okL 4 (vsF raw (tgI 11 4)) := hv
  have hrr := au_rr hv
  obtain ⟨x, cd, e5⟩ := au_pair (vsF raw (tgI 11 4))
  have e6 : rrV (vsF raw (tgI 11 4)) = .tuple [.pure auK x, .int .i64 cd] := by rw [← hrr]; exact e5
  have e7 : decide (cd = cd) = true := decide_eq_true rfl
  have htk : ∀ l : List UInt8, List.take l.length l = l := fun l => List.take_length
  cases hw : waR (c, ti, no, k, u1) with
  | false =>
    have e1 : waV (c, ti, no, k, u1) = .tuple [.nilsl, .int .i64 (1 : Int)] := by rw [waV, hw]; rfl
    have e2 : raV (c, ti, no, k, u1) = .tuple [.pure (.slice true (.int .u8)) [], .int .i64 (1 : Int)] := by rw [raV, hw]; rfl
    refine Tri.at (by first | (simp only [hlg, h1', h2', e1, e2, e5, e6, e7, z1, z2, z4, htk, Con.start, go_sem]; rfl) | rfl) ?_
    repeat (first | ((first | refine Tri.seq (Tri.regT (cfgTJ2_ok.pins _) ?_) | refine Tri.rgnT (cfgTJ2_ok.pins _) ?_); (repeat (first | refine RunT.oneA (hp := by simp (maxSteps := 2000000) (disch := first | decide | omega | (simp only [List.length_append, List.length_cons, List.length_nil, List.length_take, List.length_drop]; omega)) only [hlg, h1', h2', e1, e2, e5, e6, e7, z1, z2, z4, htk, go_sem]; rfl) (h := ?_) | refine RunT.notA (h := ?_))); refine RunT.nil ?_; try simp only [InBlock, Then]) | refine Tri.cF (by first | (simp only [hlg, h1', h2', e1, e2, e5, e6, e7, z1, z2, z4, htk, go_sem]; done) | fail) ?_ | refine Tri.cT (by first | (simp only [hlg, h1', h2', e1, e2, e5, e6, e7, z1, z2, z4, htk, go_sem]; done) | fail) ?_ | (refine Tri.skip ?_; try simp only [InBlock, Then]) | (refine Tri.exit ?_; simp only [Then, InBlock, if_true, if_false, ↓reduceIte, Nat.reduceEqDiff]) | refine Tri.seq (Tri.block ?_) | refine Tri.block ?_ | refine Tri.seq ?_ | (refine Tri.ret ?_; refine Con.fin (.inl rfl) (by simp only [Tryd.f13, cfgTJ2, resA, resA1, go_sem]; rfl) (by simp only [Obs, and_true, true_and]) (by first | (simp only [kLAu, Con.of, Con.ofO, resV, hlg, h1', h2', e1, e2, e5, e6, e7, z1, z2, z4, htk, go_sem]; done) | fail) trivial rfl rfl))
    skip
  | true =>
    have hra := ra_eq hw hk
    have hrd := wa_rd hw hk
    have e1 : waV (c, ti, no, k, u1) = .tuple [.pure (.slice true (.int .u8)) (jnF (tgF 11 (waL (c, ti, no, k, u1)))), .int .i64 (0 : Int)] := by rw [waV, hw]; rfl
    have e2 : raV (c, ti, no, k, u1) = .tuple [.pure (.slice true (.int .u8)) (jnF (tgF 11 (waL (c, ti, no, k, u1)))), .int .i64 (0 : Int)] := by rw [raV, hw, ← hra]; rfl
    have hjl : (jnF (tgF 11 (waL (c, ti, no, k, u1)))).length ≤ 1000000 := wa_len hw hk
    generalize jnF (tgF 11 (waL (c, ti, no, k, u1))) = J at *
    have e4 : strEq J J = true := decide_eq_true rfl
    refine Tri.at (by first | (simp only [hlg, h1', h2', e1, e2, e4, e5, e6, e7, z0, hrd, htk, Con.start, go_sem]; rfl) | rfl) ?_
    repeat (first | ((first | refine Tri.seq (Tri.regT (cfgTJ2_ok.pins _) ?_) | refine Tri.rgnT (cfgTJ2_ok.pins _) ?_); (repeat (first | refine RunT.oneA (hp := by simp (maxSteps := 2000000) (disch := first | decide | omega | (simp only [List.length_append, List.length_cons, List.length_nil, List.length_take, List.length_drop]; omega)) only [hlg, h1', h2', e1, e2, e4, e5, e6, e7, z0, hrd, htk, go_sem]; rfl) (h := ?_) | refine RunT.notA (h := ?_))); refine RunT.nil ?_; try simp only [InBlock, Then]) | refine Tri.cF (by first | (simp only [hlg, h1', h2', e1, e2, e4, e5, e6, e7, z0, hrd, htk, go_sem]; done) | fail) ?_ | refine Tri.cT (by first | (simp only [hlg, h1', h2', e1, e2, e4, e5, e6, e7, z0, hrd, htk, go_sem]; done) | fail) ?_ | (refine Tri.skip ?_; try simp only [InBlock, Then]) | (refine Tri.exit ?_; simp only [Then, InBlock, if_true, if_false, ↓reduceIte, Nat.reduceEqDiff]) | refine Tri.seq (Tri.block ?_) | refine Tri.block ?_ | refine Tri.seq ?_ | (refine Tri.ret ?_; refine Con.fin (.inl rfl) (by simp only [Tryd.f13, cfgTJ2, resA, resA1, go_sem]; rfl) (by simp only [Obs, and_true, true_and]) (by first | (simp only [kLAu, Con.of, Con.ofO, resV, hlg, h1', h2', e1, e2, e4, e5, e6, e7, z0, hrd, htk, go_sem]; done) | fail) trivial rfl rfl))
    skip
theorem lau_sum : FSumOK Tryd.prog cfgTJ2.G 13 kLAu.sum := Con.sumOK cfgTJ2_ok kLAu Tryd.func13 rfl rfl (Con.of_inv _ _ _) lau_body
end
end Go.Proofs.YtjdeaphfamenaaaDoor
