/- Part of a proof: authenticators are written and read as the document says -/
import Derived.Test.YtjdeaphfamenaaaDoorVc3
import Derived.Test.YtjdeaphfamenaaaDoorProg
import Derived.Lib.Join
import Derived.Shelf.Strings.OnBuilder
set_option linter.unusedVariables false
set_option linter.unusedSimpArgs false
set_option linter.unusedSectionVars false
namespace Go.Proofs.YtjdeaphfamenaaaDoor
open Go.Vc Go.Proofs
abbrev nmK : Kd := .st (.pair (.slice true .str) (.pair .str .unit))
abbrev nmL : Kd := .st (.pair (.slice false .str) (.pair .str .unit))
abbrev k16 : Kd := .arr 16 (.int .u8)
abbrev tkK : Kd := .st (.pair .str (.pair .str (.pair k16 (.pair (.int .i64) (.pair (.int .i64) (.pair (.int .i64) .unit))))))
def tyTab : TypeId → Option TyI
  | 2 => some (.kd1 (.int .i64) (.int .i64) 8)
  | 3 => some (.kd1 (.int .i64) (.int .i64) 8)
  | 4 => some (.kd1 .bool .bool 1)
  | 5 => some (.kd1 (.int .u8) (.int .u8) 1)
  | 9 => some (.kd1 .str .str 16)
  | 23 => some (.slice1 9)
  | 25 => some (.kd1 (.st [(23, 0, 1), (9, 1, 1)]) nmK 40)
  | 26 => some (.kd1 (.int .i64) (.int .i64) 8)
  | 30 => some (.kd1 (.arr 16 5) k16 16)
  | 32 => some (.kd1 (.st [(9, 0, 1), (9, 1, 1), (30, 2, 16), (2, 18, 1), (2, 19, 1), (3, 20, 1)]) tkK 72)
  | 46 => some (.kd1 (.int .u64) (.int .u64) 8)
  | 47 => some (.slice1 5)
  | 138 => some (.kd1 (.int .u64) (.int .u64) 8)
  | _ => none
theorem tysOK : TysOK Tryd.prog tyTab := by
  intro t i h
  unfold tyTab at h
  split at h <;> (try cases h)
  · exact TyOK.kd1 (td := .int .i64) Tryd.underlying2 (by kernel_rfl)
  · exact TyOK.kd1 (td := .int .i64) Tryd.underlying3 (by kernel_rfl)
  · exact TyOK.kd1 (td := .bool) Tryd.underlying4 (by kernel_rfl)
  · exact TyOK.kd1 (td := .int .u8) Tryd.underlying5 (by kernel_rfl)
  · exact TyOK.kd1 (td := .str) Tryd.underlying9 (by kernel_rfl)
  · exact TyOK.slice1 Tryd.underlying23 (by kernel_rfl)
  · exact TyOK.kd1 (td := .st [(23, 0, 1), (9, 1, 1)]) ⟨_, Tryd.underlying25, by kernel_rfl, by kernel_rfl⟩ (by kernel_rfl)
  · exact TyOK.kd1 (td := .int .i64) Tryd.underlying26 (by kernel_rfl)
  · exact TyOK.kd1 (td := .arr 16 5) Tryd.underlying30 (by kernel_rfl)
  · exact TyOK.kd1 (td := .st [(9, 0, 1), (9, 1, 1), (30, 2, 16), (2, 18, 1), (2, 19, 1), (3, 20, 1)]) ⟨_, Tryd.underlying32, by kernel_rfl, by kernel_rfl⟩ (by kernel_rfl)
  · exact TyOK.kd1 (td := .int .u64) Tryd.underlying46 (by kernel_rfl)
  · exact TyOK.slice1 Tryd.underlying47 (by kernel_rfl)
  · exact TyOK.kd1 (td := .int .u64) Tryd.underlying138 (by kernel_rfl)
theorem mixed : Tryd.prog.follows .mixedOrders = true := by kernel_rfl
def gNone : Nat → Option PD := fun _ => none
def tyTabZ : TypeId → Option TyI := fun t => if t = 25 then some (TyI.kdz (.st [(23, 0, 1), (9, 1, 1)]) (.pair (.slice true .str) (.pair .str .unit)) 40) else tyTab t
theorem tyTabZ_ok : TysOK Tryd.prog tyTabZ := by
  intro t i h
  unfold tyTabZ at h
  split at h
  · injection h with h
    subst h
    rename_i e
    subst e
    exact TyOK.kdz (td := .st [(23, 0, 1), (9, 1, 1)]) ⟨_, Tryd.underlying25, by kernel_rfl, by kernel_rfl⟩ rfl (by kernel_rfl)
  · exact tysOK t i h
theorem castK_LK (x : nmK.T) : castK nmL nmK x = none := by unfold castK; exact dif_neg (by decide)
theorem rdWk_LK (x : nmK.T) : rdWk nmL (.pure nmK x) = .ret (x, [], []) := by
  unfold rdWk
  rw [show Kd.of nmL (.pure nmK x) = some x from rfl]
  rfl
attribute [go_sem] castK_LK rdWk_LK Con.ofO argO argO1 heapO heapO1 fldF blkF OK.cnt OK.cnt1 FK.cnt rdO rdO1 rdOb rdF rdT castK_self Nat.mul_one take1 List.take_nil
end Go.Proofs.YtjdeaphfamenaaaDoor

namespace Go.Proofs.YtjdeaphfamenaaaDoor
open Go.Vc Go.Proofs
set_option maxRecDepth 10000
set_option maxHeartbeats 4000000
def rvS (xs : List UInt8) : Nat → List UInt8
  | 0 => xs
  | i + 1 => ((rvS xs i).set i ((rvS xs i).getD (xs.length - 1 - i) 0)).set (xs.length - 1 - i) ((rvS xs i).getD i 0)
theorem rvS_len (xs : List UInt8) : ∀ i, (rvS xs i).length = xs.length
  | 0 => rfl
  | i + 1 => by simp only [rvS, List.length_set, rvS_len xs i]
theorem getD_set' (l : List UInt8) (i k : Nat) (x : UInt8) (hk : k < l.length) : (l.set i x).getD k 0 = if i = k then x else l.getD k 0 := by
  simp only [List.getD_eq_getElem?_getD, List.getElem?_set]
  split
  · rename_i e; subst e; rw [if_pos hk]; rfl
  · rfl
theorem rvS_get (xs : List UInt8) : ∀ i, 2 * i ≤ xs.length + 1 → ∀ k, k < xs.length → (rvS xs i).getD k 0 = if k < i ∨ xs.length - 1 - k < i then xs.getD (xs.length - 1 - k) 0 else xs.getD k 0
  | 0, _, k, _ => by simp [rvS]
  | i + 1, hi, k, hk => by
    have h1 := rvS_get xs i (by omega) k hk
    have h2 := rvS_get xs i (by omega) (xs.length - 1 - i) (by omega)
    have h3 := rvS_get xs i (by omega) i (by omega)
    rw [rvS, getD_set' _ _ _ _ (by rw [List.length_set, rvS_len]; exact hk), getD_set' _ _ _ _ (by rw [rvS_len]; exact hk), h1, h2, h3]
    by_cases e1 : xs.length - 1 - i = k
    · rw [if_pos e1]
      subst e1
      rw [show xs.length - 1 - (xs.length - 1 - i) = i by omega]
      rw [if_pos (by omega : xs.length - 1 - i < i + 1 ∨ i < i + 1)]
      split
      · rename_i h; rw [show xs.length - 1 - i = i by omega]
      · rfl
    · rw [if_neg e1]
      by_cases e2 : i = k
      · subst e2
        rw [if_pos rfl, if_pos (by omega : i < i + 1 ∨ xs.length - 1 - i < i + 1), if_neg (by omega)]
      · rw [if_neg e2]
        by_cases h : k < i ∨ xs.length - 1 - k < i
        · rw [if_pos h, if_pos (by omega)]
        · rw [if_neg h, if_neg (by omega)]
theorem rvS_rev (xs : List UInt8) (i : Nat) (h1 : 2 * i ≤ xs.length + 1) (h2 : xs.length ≤ 2 * i + 1) : rvS xs i = xs.reverse := by
  apply List.ext_getElem
  · rw [rvS_len, List.length_reverse]
  · intro k hk hk'
    have hk0 : k < xs.length := by rw [rvS_len] at hk; exact hk
    have h := rvS_get xs i h1 k hk0
    rw [List.getD_eq_getElem?_getD, List.getElem?_eq_getElem hk, Option.getD_some] at h
    rw [h, List.getElem_reverse]
    split
    · rw [List.getD_eq_getElem?_getD, List.getElem?_eq_getElem (by omega), Option.getD_some]
    · rename_i hn
      have e : xs.length - 1 - k = k := by omega
      simp only [e]
      rw [List.getD_eq_getElem?_getD, List.getElem?_eq_getElem hk0, Option.getD_some]
def cfgR1 : Cfg2 := { ty := tyTab, fn := fun  | _ => none, G := gNone, pin := [], eq := fun _ => none }
theorem cfgR1_ok : CfgOK Tryd.prog cfgR1 := ⟨tysOK, (fun f s h => by cases h), (fun t d h => by cases h)⟩
def kRev : Con := Con.ofO [.t (.int .u8)] [] (fun x => [x.1.i = 0, x.1.len = x.1.N, List.length (α := UInt8) x.1.xs = x.1.N, x.1.N ≤ 1000000]) (fun x => ⟨.tuple [], [.pure (.arr x.1.N (.int .u8)) (List.reverse (α := UInt8) x.1.xs)]⟩)
section
attribute [local go_sem] Tryd.f90 kRev cfgR1 tyTab
theorem rev_body (p : kRev.Par) (hp : ∀ q ∈ kRev.pre p, q) : BodyOK Tryd.prog cfgR1 Tryd.f90 (Tryd.f90.body.get rfl) kRev p := by
  obtain ⟨⟨N, i0, len, (xs : List UInt8)⟩, u⟩ := p
  obtain ⟨h0, h1, h2, h3, _⟩ := Obs.of hp
  replace h0 : i0 = 0 := h0
  replace h1 : len = N := h1
  replace h2 : xs.length = N := h2
  replace h3 : N ≤ 1000000 := h3
  subst h0 h1 h2
  refine ⟨?_, Nat.le_refl _, rfl, rfl⟩
  show Tri _ _ _ (Code.seq _ (Code.block _ (Code.loop (Code.seq (Code.seq _ (Code.cond _ _ _)) (Code.seq (Code.block _ _) _))))) _
  refine Tri.at (by first | (simp only [go_sem, Con.start, go_sem]; rfl) | rfl) ?_
  repeat (first | ((first | refine Tri.seq (Tri.regT (cfgR1_ok.pins _) ?_) | refine Tri.rgnT (cfgR1_ok.pins _) ?_); (repeat (first | refine RunT.oneA (hp := by simp (maxSteps := 2000000) (disch := first | decide | omega | (simp only [List.length_append, List.length_cons, List.length_nil, List.length_take, List.length_drop]; omega)) only [go_sem, go_sem]; rfl) (h := ?_) | refine RunT.notA (h := ?_))); refine RunT.nil ?_; try simp only [InBlock, Then]) | ((first | refine Tri.seq (Tri.drwT (mixed) (cfgR1_ok.pins _) ?_) | refine Tri.drnT (mixed) (cfgR1_ok.pins _) ?_); (repeat (first | refine RunD.oneA (hp := by simp (maxSteps := 2000000) (disch := first | decide | omega | (simp only [List.length_append, List.length_cons, List.length_nil, List.length_take, List.length_drop]; omega)) only [go_sem, go_sem]; rfl) (h := ?_) | refine RunD.notA (h := ?_))); refine RunD.nil ?_; refine ⟨by kernel_rfl, ?_⟩; try simp only [InBlock, Then]) | refine Tri.cF (by first | (simp only [go_sem, go_sem]; done) | fail) ?_ | refine Tri.cT (by first | (simp only [go_sem, go_sem]; done) | fail) ?_ | (refine Tri.skip ?_; try simp only [InBlock, Then]) | (refine Tri.exit ?_; simp only [Then, InBlock, if_true, if_false, ↓reduceIte, Nat.reduceEqDiff]) | refine Tri.seq (Tri.block ?_) | refine Tri.block ?_ | refine Tri.seq ?_ | (refine Tri.ret ?_; refine Con.fin (.inl rfl) (by simp only [Tryd.f90, cfgR1, resA, resA1, go_sem]; rfl) (by simp only [Obs, and_true, true_and]) (by first | (simp only [kRev, Con.of, Con.ofO, resV, go_sem, go_sem]; done) | fail) trivial rfl rfl))
  refine Tri.loop (fun i : Nat => (⟨[some (.tsl 0 [] 0 0 1 xs.length), none, some (.int .i64 (i : Int)), some (.int .i64 ((xs.length : Int) - 1 - (i : Int)))] ++ List.replicate 24 none, [.live (.pure (.arr xs.length (.int .u8)) (rvS xs i))]⟩ : AS)) (fun i => 2 * i ≤ xs.length + 1) (fun i => xs.length + 1 - i) 0 ?_ (Nat.zero_le _) ?_
  · refine Wk.of ?_ ?_ rfl rfl
    · simp only [lessTs, List.reduceReplicate, List.cons_append, List.nil_append] <;> ((repeat' apply And.intro) <;> first | with_reducible rfl | exact True.intro | exact congrArg (fun z : Int => some (AV.int IntKind.i64 z)) (show (_ : Int) = _ by omega) | exact congrArg (fun z : Nat => some (AV.tsl _ _ _ _ _ z)) (show (_ : Nat) = _ by omega) | exact arrEq (by omega) (by with_reducible rfl))
    · simp only [lessHs, rvS] <;> ((repeat' apply And.intro) <;> first | with_reducible rfl | exact True.intro | exact congrArg (fun z : Int => some (AV.int IntKind.i64 z)) (show (_ : Int) = _ by omega) | exact congrArg (fun z : Nat => some (AV.tsl _ _ _ _ _ z)) (show (_ : Nat) = _ by omega) | exact arrEq (by omega) (by with_reducible rfl))
  · intro i hi
    generalize hY : rvS xs i = Y
    by_cases hc : (i : Int) < (xs.length : Int) - 1 - (i : Int)
    · have hc' : decide ((i : Int) < (xs.length : Int) - 1 - (i : Int)) = true := decide_eq_true hc
      obtain ⟨m, hm⟩ : ∃ m : Nat, (xs.length : Int) - 1 - (i : Int) = (m : Int) := ⟨xs.length - 1 - i, by omega⟩
      have hm1 : m = xs.length - 1 - i := by omega
      rw [hm] at hc'
      refine Tri.at (by first | (simp only [hm, go_sem]; rfl) | rfl) ?_
      repeat (first | ((first | refine Tri.seq (Tri.regT (cfgR1_ok.pins _) ?_) | refine Tri.rgnT (cfgR1_ok.pins _) ?_); (repeat (first | refine RunT.oneA (hp := by simp (maxSteps := 2000000) (disch := first | decide | omega | (simp only [List.length_append, List.length_cons, List.length_nil, List.length_take, List.length_drop]; omega)) only [hc', go_sem]; rfl) (h := ?_) | refine RunT.notA (h := ?_))); refine RunT.nil ?_; try simp only [Then]) | ((first | refine Tri.seq (Tri.drwT (mixed) (cfgR1_ok.pins _) ?_) | refine Tri.drnT (mixed) (cfgR1_ok.pins _) ?_); (repeat (first | refine RunD.oneA (hp := by simp (maxSteps := 2000000) (disch := first | decide | omega | (simp only [List.length_append, List.length_cons, List.length_nil, List.length_take, List.length_drop]; omega)) only [go_sem]; rfl) (h := ?_) | refine RunD.notA (h := ?_))); refine RunD.nil ?_; refine ⟨by kernel_rfl, ?_⟩; try simp only [InBlock, Then]) | refine Tri.cF (by first | (simp only [go_sem]; done) | fail) ?_ | refine Tri.cT (by first | (simp only [go_sem]; done) | fail) ?_ | (refine Tri.skip ?_; try simp only [Then]) | (refine Tri.exit ?_; simp only [Then, InBlock, if_true, if_false, ↓reduceIte, Nat.reduceEqDiff]) | refine Tri.seq (Tri.block ?_) | refine Tri.block ?_ | refine Tri.seq ?_ | (refine Tri.ret ?_; refine Con.fin (.inl rfl) (by simp only [Tryd.f90, cfgR1, resA, resA1, go_sem]; rfl) (by simp only [Obs, and_true, true_and]) (by first | (simp only [kRev, Con.of, Con.ofO, resV, hc', hm, go_sem]; done) | fail) trivial rfl rfl))
      refine ⟨i + 1, (by omega), (by omega), Wk.of ?_ ?_ rfl rfl⟩
      · simp only [lessTs, List.reduceReplicate, List.cons_append, List.nil_append, show (m : Int) - 1 = (xs.length : Int) - 1 - ((i + 1 : Nat) : Int) by omega] <;> ((repeat' apply And.intro) <;> first | with_reducible rfl | exact True.intro | exact congrArg (fun z : Int => some (AV.int IntKind.i64 z)) (show (_ : Int) = _ by omega) | exact congrArg (fun z : Nat => some (AV.tsl _ _ _ _ _ z)) (show (_ : Nat) = _ by omega) | exact arrEq (by omega) (by with_reducible rfl))
      · simp only [lessHs, rvS, hY, hm1] <;> ((repeat' apply And.intro) <;> first | with_reducible rfl | exact True.intro | exact congrArg (fun z : Int => some (AV.int IntKind.i64 z)) (show (_ : Int) = _ by omega) | exact congrArg (fun z : Nat => some (AV.tsl _ _ _ _ _ z)) (show (_ : Nat) = _ by omega) | exact arrEq (by omega) (by with_reducible rfl))
    · have hc' : decide ((i : Int) < (xs.length : Int) - 1 - (i : Int)) = false := decide_eq_false hc
      refine Tri.at (by first | (simp only [go_sem]; rfl) | rfl) ?_
      repeat (first | ((first | refine Tri.seq (Tri.regT (cfgR1_ok.pins _) ?_) | refine Tri.rgnT (cfgR1_ok.pins _) ?_); (repeat (first | refine RunT.oneA (hp := by simp (maxSteps := 2000000) (disch := first | decide | omega | (simp only [List.length_append, List.length_cons, List.length_nil, List.length_take, List.length_drop]; omega)) only [hc', go_sem]; rfl) (h := ?_) | refine RunT.notA (h := ?_))); refine RunT.nil ?_; try simp only [InBlock, Then]) | ((first | refine Tri.seq (Tri.drwT (mixed) (cfgR1_ok.pins _) ?_) | refine Tri.drnT (mixed) (cfgR1_ok.pins _) ?_); (repeat (first | refine RunD.oneA (hp := by simp (maxSteps := 2000000) (disch := first | decide | omega | (simp only [List.length_append, List.length_cons, List.length_nil, List.length_take, List.length_drop]; omega)) only [hc', go_sem]; rfl) (h := ?_) | refine RunD.notA (h := ?_))); refine RunD.nil ?_; refine ⟨by kernel_rfl, ?_⟩; try simp only [InBlock, Then]) | refine Tri.cF (by first | (simp only [go_sem]; done) | fail) ?_ | refine Tri.cT (by first | (simp only [go_sem]; done) | fail) ?_ | (refine Tri.skip ?_; try simp only [InBlock, Then]) | (refine Tri.exit ?_; simp only [Then, InBlock, ↓reduceIte]) | refine Tri.seq (Tri.block ?_) | refine Tri.block ?_ | refine Tri.seq ?_ | (refine Tri.ret ?_; refine Con.fin (.inl rfl) (by simp only [Tryd.f90, cfgR1, resA, resA1, go_sem]; rfl) (by simp only [Obs, and_true, true_and]) (by first | (simp only [kRev, Con.of, Con.ofO, resV, hc', go_sem]; done) | fail) trivial rfl rfl))
      refine Con.fin (.inr rfl) (by simp only [Tryd.f90, cfgR1, resA, go_sem]; rfl) (by simp only [Obs]) rfl ?_ rfl rfl
      exact ⟨arrEq rfl (by rw [← hY]; exact rvS_rev xs i (by omega) (by omega)), trivial⟩
theorem rev_sum : FSumOK Tryd.prog cfgR1.G 90 kRev.sum := Con.sumOK cfgR1_ok kRev Tryd.func90 rfl rfl (Con.ofO_inv _ _ _ _) rev_body
end
def leN : Nat → UInt64 → List UInt8
  | 0, _ => []
  | k + 1, n => if n = 0 then [] else n.toUInt8 :: leN k (n >>> 8)
def numS (n : UInt64) : List UInt8 := (leN 8 n).reverse
theorem leN_len : ∀ k n, (leN k n).length ≤ k
  | 0, _ => Nat.le_refl _
  | k + 1, n => by unfold leN; split; exact Nat.zero_le _; rw [List.length_cons]; have := leN_len k (n >>> 8); omega
theorem numS_len (n : UInt64) : (numS n).length ≤ 8 := by rw [numS, List.length_reverse]; exact leN_len 8 n
theorem shr8_lt {n : UInt64} {k : Nat} (h : n.toNat < 256 ^ (k + 1)) : (n >>> 8).toNat < 256 ^ k := by
  have : (n >>> 8).toNat = n.toNat / 256 := by rw [UInt64.toNat_shiftRight]; simp [Nat.shiftRight_eq_div_pow]
  rw [this]
  rw [Nat.pow_succ] at h
  omega
def kNum : Con := Con.of [.v (.int .u64)] (fun _ => []) (fun x => ⟨.tsl 0 [] 0 0 1 (numS x.1).length, [.pure (.arr (numS x.1).length (.int .u8)) (numS x.1)]⟩)
def cfgR2 : Cfg2 := { ty := tyTab, fn := fun | 90 => some kRev.sum | _ => none, G := gNone, pin := [], eq := fun _ => none }
theorem cfgR2_ok : CfgOK Tryd.prog cfgR2 := ⟨tysOK, (fun f s h => by
  simp only [cfgR2] at h
  split at h
  · injection h with h; subst h; exact .inl rev_sum
  · cases h), (fun t d h => by cases h)⟩
section
attribute [local go_sem] Tryd.f60 kNum kRev cfgR2 tyTab
theorem num_body (p : kNum.Par) (hp : ∀ q ∈ kNum.pre p, q) : BodyOK Tryd.prog cfgR2 Tryd.f60 (Tryd.f60.body.get rfl) kNum p := by
  obtain ⟨(n0 : UInt64), u⟩ := p
  refine ⟨?_, Nat.zero_le _, rfl, rfl⟩
  show Tri _ _ _ (Code.seq _ (Code.seq (Code.block _ (Code.loop (Code.seq (Code.seq _ (Code.cond _ _ _)) (Code.seq (Code.block _ _) _)))) (Code.seq _ (Code.seq _ _)))) _
  refine Tri.at (by first | (simp only [Con.start, go_sem]; rfl) | rfl) ?_
  repeat (first | ((first | refine Tri.seq (Tri.regT (cfgR2_ok.pins _) ?_) | refine Tri.rgnT (cfgR2_ok.pins _) ?_); (repeat (first | refine RunT.oneA (hp := by simp (maxSteps := 2000000) (disch := first | decide | omega | (simp only [List.length_append, List.length_cons, List.length_nil, List.length_take, List.length_drop]; omega)) only [go_sem]; rfl) (h := ?_) | refine RunT.notA (h := ?_))); refine RunT.nil ?_; try simp only [InBlock, Then]) | ((first | refine Tri.seq (Tri.drwT (mixed) (cfgR2_ok.pins _) ?_) | refine Tri.drnT (mixed) (cfgR2_ok.pins _) ?_); (repeat (first | refine RunD.oneA (hp := by simp (maxSteps := 2000000) (disch := first | decide | omega | (simp only [List.length_append, List.length_cons, List.length_nil, List.length_take, List.length_drop]; omega)) only [List.take_of_length_le, go_sem]; rfl) (h := ?_) | refine RunD.notA (h := ?_))); refine RunD.nil ?_; refine ⟨by kernel_rfl, ?_⟩; try simp only [InBlock, Then]) | refine Tri.cF (by first | (simp only [go_sem]; done) | fail) ?_ | refine Tri.cT (by first | (simp only [go_sem]; done) | fail) ?_ | (refine Tri.skip ?_; try simp only [InBlock, Then]) | (refine Tri.exit ?_; simp only [Then, InBlock, if_true, if_false, ↓reduceIte, Nat.reduceEqDiff]) | refine Tri.seq (Tri.block ?_) | refine Tri.block ?_ | refine Tri.seq ?_ | (refine Tri.ret ?_; refine Con.fin (.inl rfl) (by simp only [Tryd.f60, cfgR2, resA, resA1, go_sem]; rfl) (by simp only [Obs, and_true, true_and]) (by first | (simp only [kNum, Con.of, Con.ofO, resV, List.take_of_length_le, go_sem]; done) | fail) trivial rfl rfl))
  refine Tri.phT 2 (.int .u8) 1 rfl rfl ?_
  refine Tri.loop (fun s : UInt64 × List UInt8 => (⟨[some (.int .u64 s.1), none, some (.tsl 0 [] 0 0 1 s.2.length)] ++ List.replicate 12 none, [.live (.pure (.arr s.2.length (.int .u8)) s.2)]⟩ : AS)) (fun s => s.2.length ≤ 8 ∧ s.1.toNat < 256 ^ (8 - s.2.length) ∧ s.2 ++ leN (8 - s.2.length) s.1 = leN 8 n0) (fun s => 8 - s.2.length) (n0, []) ?_ ⟨Nat.zero_le _, UInt64.toNat_lt n0, rfl⟩ ?_
  · refine Wk.of ?_ ?_ rfl rfl
    · simp only [List.reduceReplicate, List.cons_append, List.nil_append, List.length_nil] <;> ((repeat' apply And.intro) <;> first | with_reducible rfl | exact True.intro | exact congrArg (fun z : Int => some (AV.int IntKind.i64 z)) (show (_ : Int) = _ by omega) | exact congrArg (fun z : Nat => some (AV.tsl _ _ _ _ _ z)) (show (_ : Nat) = _ by omega) | exact arrEq (by omega) (by with_reducible rfl))
    · simp only [List.length_nil] <;> ((repeat' apply And.intro) <;> first | with_reducible rfl | exact True.intro | exact congrArg (fun z : Int => some (AV.int IntKind.i64 z)) (show (_ : Int) = _ by omega) | exact congrArg (fun z : Nat => some (AV.tsl _ _ _ _ _ z)) (show (_ : Nat) = _ by omega) | exact arrEq (by omega) (by with_reducible rfl))
  · intro ⟨n, acc⟩ ⟨ha, hn, he⟩
    replace ha : acc.length ≤ 8 := ha
    replace hn : n.toNat < 256 ^ (8 - acc.length) := hn
    replace he : acc ++ leN (8 - acc.length) n = leN 8 n0 := he
    have htk : List.take acc.length acc = acc := List.take_length
    by_cases hz : n = 0
    · have hz' : decide ((0 : UInt64) < n) = false := by rw [hz]; rfl
      have hl : leN (8 - acc.length) n = [] := by
        subst hz
        cases 8 - acc.length <;> rfl
      rw [hl, List.append_nil] at he
      subst he
      refine Tri.at (by first | (simp only [go_sem]; rfl) | rfl) ?_
      repeat (first | ((first | refine Tri.seq (Tri.regT (cfgR2_ok.pins _) ?_) | refine Tri.rgnT (cfgR2_ok.pins _) ?_); (repeat (first | refine RunT.oneA (hp := by simp (maxSteps := 2000000) (disch := first | decide | omega | (simp only [List.length_append, List.length_cons, List.length_nil, List.length_take, List.length_drop]; omega)) only [hz', go_sem]; rfl) (h := ?_) | refine RunT.notA (h := ?_))); refine RunT.nil ?_; try simp only []) | ((first | refine Tri.seq (Tri.drwT (mixed) (cfgR2_ok.pins _) ?_) | refine Tri.drnT (mixed) (cfgR2_ok.pins _) ?_); (repeat (first | refine RunD.oneA (hp := by simp (maxSteps := 2000000) (disch := first | decide | omega | (simp only [List.length_append, List.length_cons, List.length_nil, List.length_take, List.length_drop]; omega)) only [hz', htk, go_sem]; rfl) (h := ?_) | refine RunD.notA (h := ?_))); refine RunD.nil ?_; refine ⟨by kernel_rfl, ?_⟩; try simp only [InBlock, Then]) | refine Tri.cF (by first | (simp only [go_sem]; done) | fail) ?_ | refine Tri.cT (by first | (simp only [go_sem]; done) | fail) ?_ | (refine Tri.skip ?_; try simp only [InBlock, Then]) | (refine Tri.exit ?_; simp only [Then, InBlock, ↓reduceIte]) | refine Tri.seq (Tri.block ?_) | refine Tri.block ?_ | refine Tri.seq ?_ | (refine Tri.ret ?_; refine Con.fin (.inl rfl) (by simp only [Tryd.f60, cfgR2, resA, resA1, go_sem]; rfl) (by simp only [Obs, and_true, true_and]) (by first | (simp only [kNum, Con.of, Con.ofO, resV, hz', htk, go_sem]; done) | fail) trivial rfl rfl))
      have e1 : numS n0 = (leN 8 n0).reverse := rfl
      refine Tri.ret ?_
      refine Con.fin (.inl rfl) (by simp only [Tryd.f60, cfgR2, resA, resA1, go_sem]; rfl) (by simp only [Obs]) ?_ ?_ rfl rfl
      · show AV.tsl 0 [] 0 0 1 (leN 8 n0).length = AV.tsl 0 [] 0 0 1 (numS n0).length
        rw [e1, List.length_reverse]
      · exact ⟨arrEq (by show (leN 8 n0).length = (numS n0).length; rw [e1, List.length_reverse]) rfl, trivial⟩
    · have hz' : decide ((0 : UInt64) < n) = true := by
        refine decide_eq_true ?_
        rw [UInt64.lt_iff_toNat_lt]
        have : n.toNat ≠ 0 := fun e => hz (UInt64.toNat_inj.1 e)
        show 0 < n.toNat
        omega
      obtain ⟨k, hk⟩ : ∃ k, 8 - acc.length = k + 1 := by
        cases h8 : 8 - acc.length with
        | zero => rw [h8] at hn; have : n.toNat = 0 := by simpa using hn
                  exact absurd (UInt64.toNat_inj.1 this) hz
        | succ k => exact ⟨k, rfl⟩
      refine Tri.at (by first | (simp only [go_sem]; rfl) | rfl) ?_
      repeat (first | ((first | refine Tri.seq (Tri.regT (cfgR2_ok.pins _) ?_) | refine Tri.rgnT (cfgR2_ok.pins _) ?_); (repeat (first | refine RunT.oneA (hp := by simp (maxSteps := 2000000) (disch := first | decide | omega | (simp only [List.length_append, List.length_cons, List.length_nil, List.length_take, List.length_drop]; omega)) only [hz', htk, go_sem]; rfl) (h := ?_) | refine RunT.notA (h := ?_))); refine RunT.nil ?_; try simp only [InBlock, Then]) | ((first | refine Tri.seq (Tri.drwT (mixed) (cfgR2_ok.pins _) ?_) | refine Tri.drnT (mixed) (cfgR2_ok.pins _) ?_); (repeat (first | refine RunD.oneA (hp := by simp (maxSteps := 2000000) (disch := first | decide | omega | (simp only [List.length_append, List.length_cons, List.length_nil, List.length_take, List.length_drop]; omega)) only [hz', htk, go_sem]; rfl) (h := ?_) | refine RunD.notA (h := ?_))); refine RunD.nil ?_; refine ⟨by kernel_rfl, ?_⟩; try simp only [InBlock, Then]) | refine Tri.cF (by first | (simp only [go_sem]; done) | fail) ?_ | refine Tri.cT (by first | (simp only [go_sem]; done) | fail) ?_ | (refine Tri.skip ?_; try simp only [Then]) | (refine Tri.exit ?_; simp only [Then, InBlock, if_true, if_false, ↓reduceIte, Nat.reduceEqDiff]) | refine Tri.seq (Tri.block ?_) | refine Tri.block ?_ | refine Tri.seq ?_ | (refine Tri.ret ?_; refine Con.fin (.inl rfl) (by simp only [Tryd.f60, cfgR2, resA, resA1, go_sem]; rfl) (by simp only [Obs, and_true, true_and]) (by first | (simp only [kNum, Con.of, Con.ofO, resV, hz', htk, go_sem]; done) | fail) trivial rfl rfl))
      have h8 : 8 - (acc ++ [n.toUInt8]).length = k := by rw [List.length_append]; simp; omega
      refine ⟨(n >>> 8, acc ++ [n.toUInt8]), ⟨?_, ?_, ?_⟩, ?_, Wk.of ?_ ?_ rfl rfl⟩
      · rw [List.length_append]; simp; omega
      · show (n >>> 8).toNat < 256 ^ (8 - (acc ++ [n.toUInt8]).length)
        rw [h8]
        rw [hk] at hn
        exact shr8_lt hn
      · show (acc ++ [n.toUInt8]) ++ leN (8 - (acc ++ [n.toUInt8]).length) (n >>> 8) = _
        rw [h8, ← he, hk]
        conv => rhs; unfold leN
        rw [if_neg hz]
        simp
      · show 8 - (acc ++ [n.toUInt8]).length < 8 - acc.length
        omega
      · simp only [lessTs, List.reduceReplicate, List.cons_append, List.nil_append, List.length_append, List.length_cons, List.length_nil] <;> ((repeat' apply And.intro) <;> first | with_reducible rfl | exact True.intro | exact congrArg (fun z : Int => some (AV.int IntKind.i64 z)) (show (_ : Int) = _ by omega) | exact congrArg (fun z : Nat => some (AV.tsl _ _ _ _ _ z)) (show (_ : Nat) = _ by omega) | exact arrEq (by omega) (by with_reducible rfl))
      · exact ⟨arrEq (by simp) rfl, trivial⟩
theorem num_sum : FSumOK Tryd.prog cfgR2.G 60 kNum.sum := Con.sumOK cfgR2_ok kNum Tryd.func60 rfl rfl (Con.of_inv _ _ _) num_body
end
end Go.Proofs.YtjdeaphfamenaaaDoor

namespace Go.Proofs.YtjdeaphfamenaaaDoor
open Go.Vc Go.Proofs
set_option maxRecDepth 10000
set_option maxHeartbeats 4000000
abbrev flL : Kd := .st (.pair (.int .i64) (.pair (.slice false (.int .u8)) .unit))
def tyTabT : TypeId → Option TyI := fun t => if t = 82 then some (.slice1 112) else if t = 112 then some (.kd1 (.st [(3, 0, 1), (47, 1, 1)]) flL 32) else if t = 100 then some (.slice1 47) else tyTab t
theorem tyTabT_ok : TysOK Tryd.prog tyTabT := by
  intro t i h
  unfold tyTabT at h
  split at h
  · rename_i e
    injection h with h
    subst h e
    exact TyOK.slice1 Tryd.underlying82 (by kernel_rfl)
  · split at h
    · rename_i e
      injection h with h
      subst h e
      exact TyOK.kd1 (td := .st [(3, 0, 1), (47, 1, 1)]) ⟨_, Tryd.underlying112, by kernel_rfl, by kernel_rfl⟩ (by kernel_rfl)
    · split at h
      · rename_i e
        injection h with h
        subst h e
        exact TyOK.slice1 Tryd.underlying100 (by kernel_rfl)
      · exact tysOK t i h
def flB (f : flL.T) : List UInt8 := [UInt8.ofInt (f.1 : Int), UInt8.ofInt (shrT .i64 ((List.length (α := UInt8) f.2.1 : Nat) : Int) 8), UInt8.ofInt ((List.length (α := UInt8) f.2.1 : Nat) : Int)] ++ f.2.1
def jnF (fs : List flL.T) : List UInt8 := (fs.map flB).flatten
def flOK (f : flL.T) : Prop := 1 ≤ (f.1 : Int) ∧ (f.1 : Int) ≤ 255 ∧ List.length (α := UInt8) f.2.1 ≤ 65535
theorem jnF_nil : jnF [] = [] := rfl
theorem flB_len (f : flL.T) : (flB f).length = List.length (α := UInt8) f.2.1 + 3 := by rw [flB, List.length_append]; show 3 + _ = _; omega
theorem jnF_len : ∀ fs : List flL.T, (∀ f ∈ fs, flOK f) → (jnF fs).length ≤ fs.length * 65538
  | [], _ => Nat.zero_le _
  | f :: r, h => by
    have h1 := jnF_len r fun x hx => h x (List.mem_cons_of_mem _ hx)
    have h2 := (h f (List.mem_cons_self ..)).2.2
    have h3 := flB_len f
    show (flB f ++ jnF r).length ≤ (r.length + 1) * 65538
    rw [List.length_append, Nat.add_mul]
    omega
theorem jnF_take (fs : List flL.T) (i : Nat) (d : flL.T) (h : i < fs.length) : jnF (fs.take (i + 1)) = jnF (fs.take i) ++ flB (fs.getD i d) := by
  rw [List.take_add_one, List.getElem?_eq_getElem h, Option.toList_some, jnF, List.map_append, List.flatten_append, List.getD_eq_getElem?_getD, List.getElem?_eq_getElem h]
  simp [jnF]
def kJn : Con := Con.of [.v (.slice false flL)] (fun x => [List.length (α := flL.T) x.1 ≤ 1000, ∀ f ∈ x.1, flOK f]) (fun x => ⟨.tuple [.pure (.slice true (.int .u8)) (jnF x.1), .int .i64 (0 : Int)], []⟩)
def cfgC1t : Cfg2 := { ty := tyTabT, fn := fun  | _ => none, G := gNone, pin := [], eq := fun _ => none }
theorem cfgC1t_ok : CfgOK Tryd.prog cfgC1t := ⟨tyTabT_ok, (fun f s h => by cases h), (fun t d h => by cases h)⟩
section
attribute [local go_sem] Tryd.f56 kJn cfgC1t tyTabT tyTab
theorem tjn_body (p : kJn.Par) (hp : ∀ q ∈ kJn.pre p, q) : BodyOK Tryd.prog cfgC1t Tryd.f56 (Tryd.f56.body.get rfl) kJn p := by
  obtain ⟨(fs : List flL.T), u⟩ := p
  obtain ⟨h0, h1, _⟩ := Obs.of hp
  replace h0 : fs.length ≤ 1000 := h0
  replace h1 : ∀ f ∈ fs, flOK f := h1
  refine ⟨?_, Nat.zero_le _, rfl, rfl⟩
  show Tri _ _ _ (Code.seq _ (Code.seq (Code.seq _ (Code.block _ (Code.loop (Code.seq _ (Code.seq (Code.cond _ _ _) (Code.seq (Code.block _ (Code.seq _ (Code.seq _ (Code.block _ (Code.seq _ (Code.cond _ (Code.seq _ _) (Code.seq _ (Code.cond _ (Code.seq _ _) _)))))))) _)))))) (Code.seq _ _))) _
  refine Tri.at (by first | (simp only [go_sem, Con.start, go_sem]; rfl) | rfl) ?_
  repeat (first | ((first | refine Tri.seq (Tri.regT (cfgC1t_ok.pins _) ?_) | refine Tri.rgnT (cfgC1t_ok.pins _) ?_); (repeat (first | refine RunT.oneA (hp := by simp (maxSteps := 2000000) (disch := first | decide | omega | (simp only [List.length_append, List.length_cons, List.length_nil, List.length_take, List.length_drop]; omega)) only [go_sem, go_sem]; rfl) (h := ?_) | refine RunT.notA (h := ?_))); refine RunT.nil ?_; try simp only [InBlock, Then]) | refine Tri.cF (by first | (simp only [go_sem, go_sem]; done) | fail) ?_ | refine Tri.cT (by first | (simp only [go_sem, go_sem]; done) | fail) ?_ | (refine Tri.skip ?_; try simp only [InBlock, Then]) | (refine Tri.exit ?_; simp only [Then, InBlock, if_true, if_false, ↓reduceIte, Nat.reduceEqDiff]) | refine Tri.seq (Tri.block ?_) | refine Tri.block ?_ | refine Tri.seq ?_ | (refine Tri.ret ?_; refine Con.fin (.inl rfl) (by simp only [Tryd.f56, cfgC1t, resA, resA1, go_sem]; rfl) (by simp only [Obs, and_true, true_and]) (by first | (simp only [kJn, Con.of, Con.ofO, resV, go_sem, go_sem]; done) | fail) trivial rfl rfl))
  have hj0 : jnF (fs.take 0) = [] := rfl
  refine Tri.phT 2 (.int .u8) 1 rfl rfl ?_
  refine Tri.loop (fun i : Nat => (⟨[some (.pure (.slice false flL) fs), none, some (.tsl 0 [] 0 0 1 (jnF (fs.take i)).length), some (.int .i64 (0 : Int)), none, none, none, some (.pure (.slice false flL) fs), some (.int .i64 (fs.length : Int)), some (.int .i64 (i : Int))] ++ List.replicate 34 none, [.live (.pure (.arr (jnF (fs.take i)).length (.int .u8)) (jnF (fs.take i)))]⟩ : AS)) (fun i => i ≤ fs.length) (fun i => fs.length - i) 0 ?_ (Nat.zero_le _) ?_
  · refine Wk.of ?_ ?_ rfl rfl
    · simp only [lessTs, List.reduceReplicate, List.cons_append, List.nil_append, hj0, List.length_nil] <;> ((repeat' apply And.intro) <;> first | with_reducible rfl | exact True.intro | exact congrArg (fun z : Int => some (AV.int IntKind.i64 z)) (show (_ : Int) = _ by omega) | exact congrArg (fun z : Nat => some (AV.tsl _ _ _ _ _ z)) (show (_ : Nat) = _ by omega) | exact arrEq (by omega) (by with_reducible rfl))
    exact ⟨arrEq (by rw [hj0]; rfl) hj0.symm, trivial⟩
  · intro i hi
    by_cases h3 : i < fs.length
    · have h3' : decide ((i : Int) < (fs.length : Int)) = true := decide_eq_true (by omega)
      have hf : fs.getD i (0, [], ()) ∈ fs := by
        rw [List.getD_eq_getElem?_getD, List.getElem?_eq_getElem h3]; exact List.getElem_mem h3
      obtain ⟨k1, k2, k3⟩ := h1 _ hf
      generalize hfd : fs.getD i (0, [], ()) = f at *
      obtain ⟨(tg : Int), (vl : List UInt8), u1⟩ := f
      replace k1 : 1 ≤ tg := k1
      replace k2 : tg ≤ 255 := k2
      replace k3 : vl.length ≤ 65535 := k3
      have k1' : decide (tg < 1) = false := decide_eq_false (by omega)
      have k2' : decide ((255 : Int) < tg) = false := decide_eq_false (by omega)
      have k3' : decide ((65535 : Int) < (vl.length : Int)) = false := decide_eq_false (by omega)
      have hjt := jnF_take fs i (0, [], ()) h3
      have hjl : (jnF (fs.take i)).length ≤ 65538000 := by
        have h4 := jnF_len (fs.take i) fun x hx => h1 x (List.mem_of_mem_take hx)
        have h5 : (fs.take i).length ≤ 1000 := by rw [List.length_take]; omega
        exact Nat.le_trans h4 (Nat.le_trans (Nat.mul_le_mul_right 65538 h5) (by decide))
      rw [hfd] at hjt
      generalize hJ : jnF (fs.take i) = J at *
      have htk : List.take J.length J = J := List.take_length
      have tk3 : List.take 3 [UInt8.ofInt tg, UInt8.ofInt (shrT .i64 ((vl.length : Nat) : Int) 8), UInt8.ofInt ((vl.length : Nat) : Int)] = [UInt8.ofInt tg, UInt8.ofInt (shrT .i64 ((vl.length : Nat) : Int) 8), UInt8.ofInt ((vl.length : Nat) : Int)] := rfl
      have tkJ : List.take (J.length + 3) (J ++ [UInt8.ofInt tg, UInt8.ofInt (shrT .i64 ((vl.length : Nat) : Int) 8), UInt8.ofInt ((vl.length : Nat) : Int)]) = J ++ [UInt8.ofInt tg, UInt8.ofInt (shrT .i64 ((vl.length : Nat) : Int) 8), UInt8.ofInt ((vl.length : Nat) : Int)] := List.take_of_length_le (by rw [List.length_append]; exact Nat.le_refl _)
      have hjt2 : jnF (fs.take (i + 1)) = J ++ [UInt8.ofInt tg, UInt8.ofInt (shrT .i64 ((vl.length : Nat) : Int) 8), UInt8.ofInt ((vl.length : Nat) : Int)] ++ vl := by rw [hjt, List.append_assoc]; rfl
      have hjl2 : (jnF (fs.take (i + 1))).length = J.length + 3 + vl.length := by rw [hjt2, List.length_append, List.length_append]; rfl
      refine Tri.at (by first | (simp only [h3', k1', k2', k3', hfd, htk, tk3, tkJ, Con.start, go_sem]; rfl) | rfl) ?_
      repeat (first | ((first | refine Tri.seq (Tri.regT (cfgC1t_ok.pins _) ?_) | refine Tri.rgnT (cfgC1t_ok.pins _) ?_); (repeat (first | refine RunT.oneA (hp := by simp (maxSteps := 2000000) (disch := first | decide | omega | (simp only [List.length_append, List.length_cons, List.length_nil, List.length_take, List.length_drop]; omega)) only [h3', k1', k2', k3', hfd, htk, tk3, tkJ, go_sem]; rfl) (h := ?_) | refine RunT.notA (h := ?_))); refine RunT.nil ?_; try simp only [InBlock, Then]) | ((first | refine Tri.seq (Tri.drwT (mixed) (cfgC1t_ok.pins _) ?_) | refine Tri.drnT (mixed) (cfgC1t_ok.pins _) ?_); (repeat (first | refine RunD.oneA (hp := by simp (maxSteps := 2000000) (disch := first | decide | omega | (simp only [List.length_append, List.length_cons, List.length_nil, List.length_take, List.length_drop]; omega)) only [h3', k1', k2', k3', hfd, htk, tk3, tkJ, go_sem]; rfl) (h := ?_) | refine RunD.notA (h := ?_))); refine RunD.nil ?_; refine ⟨by kernel_rfl, ?_⟩; try simp only [InBlock, Then]) | refine Tri.cF (by first | (simp only [h3', k1', k2', k3', hfd, htk, tk3, tkJ, go_sem]; done) | fail) ?_ | refine Tri.cT (by first | (simp only [h3', k1', k2', k3', hfd, htk, tk3, tkJ, go_sem]; done) | fail) ?_ | (refine Tri.skip ?_; try simp only [InBlock, Then]) | (refine Tri.exit ?_; simp only [Then, InBlock, if_true, if_false, ↓reduceIte, Nat.reduceEqDiff]) | refine Tri.seq (Tri.block ?_) | refine Tri.block ?_ | refine Tri.seq ?_ | (refine Tri.ret ?_; refine Con.fin (.inl rfl) (by simp only [Tryd.f56, cfgC1t, resA, resA1, go_sem]; rfl) (by simp only [Obs, and_true, true_and]) (by first | (simp only [kJn, Con.of, Con.ofO, resV, h3', k1', k2', k3', hfd, htk, tk3, tkJ, go_sem]; done) | fail) trivial rfl rfl))
      refine ⟨i + 1, (by omega), (by omega), Wk.of ?_ ?_ rfl rfl⟩
      · simp only [lessTs, List.reduceReplicate, List.cons_append, List.nil_append, hjl2] <;> ((repeat' apply And.intro) <;> first | with_reducible rfl | exact True.intro | exact congrArg (fun z : Int => some (AV.int IntKind.i64 z)) (show (_ : Int) = _ by omega) | exact congrArg (fun z : Nat => some (AV.tsl _ _ _ _ _ z)) (show (_ : Nat) = _ by omega) | exact arrEq (by omega) (by with_reducible rfl))
      · exact ⟨arrEq hjl2.symm hjt2.symm, trivial⟩
    · have h3' : decide ((i : Int) < (fs.length : Int)) = false := decide_eq_false (by omega)
      rw [List.take_of_length_le (by omega)]
      have htk : List.take (jnF fs).length (jnF fs) = jnF fs := List.take_length
      refine Tri.at (by first | (simp only [h3', htk, Con.start, go_sem]; rfl) | rfl) ?_
      repeat (first | ((first | refine Tri.seq (Tri.regT (cfgC1t_ok.pins _) ?_) | refine Tri.rgnT (cfgC1t_ok.pins _) ?_); (repeat (first | refine RunT.oneA (hp := by simp (maxSteps := 2000000) (disch := first | decide | omega | (simp only [List.length_append, List.length_cons, List.length_nil, List.length_take, List.length_drop]; omega)) only [h3', htk, go_sem]; rfl) (h := ?_) | refine RunT.notA (h := ?_))); refine RunT.nil ?_; try simp only [InBlock, Then]) | refine Tri.cF (by first | (simp only [h3', htk, go_sem]; done) | fail) ?_ | refine Tri.cT (by first | (simp only [h3', htk, go_sem]; done) | fail) ?_ | (refine Tri.skip ?_; try simp only [InBlock, Then]) | (refine Tri.exit ?_; simp only [Then, InBlock, if_true, if_false, ↓reduceIte, Nat.reduceEqDiff]) | refine Tri.seq (Tri.block ?_) | refine Tri.block ?_ | refine Tri.seq ?_ | (refine Tri.ret ?_; refine Con.fin (.inl rfl) (by simp only [Tryd.f56, cfgC1t, resA, resA1, go_sem]; rfl) (by simp only [Obs, and_true, true_and]) (by first | (simp only [kJn, Con.of, Con.ofO, resV, h3', htk, go_sem]; done) | fail) trivial rfl rfl))
      refine Tri.rel true 0 rfl ?_ rfl rfl ?_
      · simp only [AS.blk, go_sem]
        repeat' constructor
      refine Tri.at (by first | (simp only [h3', htk, Con.start, go_sem]; rfl) | rfl) ?_
      refine Tri.ret ?_
      refine Con.fin (.inl rfl) (by simp only [Tryd.f56, cfgC1t, resA, resA1, go_sem]; rfl) (by simp only [Obs, and_true, true_and]) ?_ ?_ rfl rfl
      · rfl
      · exact True.intro
theorem tjn_sum : FSumOK Tryd.prog cfgC1t.G 56 kJn.sum := Con.sumOK cfgC1t_ok kJn Tryd.func56 rfl rfl (Con.of_inv _ _ _) tjn_body
end
end Go.Proofs.YtjdeaphfamenaaaDoor

namespace Go.Proofs.YtjdeaphfamenaaaDoor
open Go.Vc Go.Proofs
set_option maxRecDepth 10000
set_option maxHeartbeats 4000000
def cfgA : Cfg2 := { ty := tyTab, fn := fun  | _ => none, G := gNone, pin := [], eq := fun _ => none }
theorem cfgA_ok : CfgOK Tryd.prog cfgA := ⟨tysOK, (fun f s h => by cases h), (fun t d h => by cases h)⟩
def plS (c : UInt8) : Bool := ((!decide (c < 97)) && (!decide (122 < c))) || ((!decide (c < 65)) && (!decide (90 < c))) || ((!decide (c < 48)) && (!decide (57 < c))) || decide (c = 45) || decide (c = 46) || decide (c = 95) || decide (c = 43)
def kPlain : Con := Con.of [.v (.int .u8)] (fun _ => []) (fun x => ⟨.bool (plS x.1), []⟩)
section
attribute [local go_sem] Tryd.f79 kPlain cfgA tyTab
theorem plain_body (p : kPlain.Par) (hp : ∀ q ∈ kPlain.pre p, q) : BodyOK Tryd.prog cfgA Tryd.f79 (Tryd.f79.body.get rfl) kPlain p := by
  obtain ⟨(c : UInt8), u⟩ := p
  refine ⟨?_, Nat.zero_le _, rfl, rfl⟩
  show Tri _ _ _ (Code.seq _ (Code.seq (Code.block _ (Code.seq (Code.seq _ (Code.cond _ _ (Code.seq _ (Code.cond _ _ _)))) (Code.cond _ (Code.seq _ _) _))) (Code.seq _ _))) _
  refine Tri.at (by first | (simp only [go_sem, Con.start, go_sem]; rfl) | rfl) ?_
  repeat' (first | refine Tri.seq (Tri.regT (cfgA_ok.pins _) ?_) | refine Tri.rgnT (cfgA_ok.pins _) ?_ | refine RunT.one (by first | exact wantedA_none rfl | (simp only [go_sem, Bool.true_beq, Bool.false_beq]; done) | (simp only [go_sem, Bool.true_beq, Bool.false_beq]; with_reducible rfl)) (by simp (maxSteps := 2000000) (disch := first | decide | omega | (simp only [List.length_append, List.length_cons, List.length_nil, List.length_take, List.length_drop]; omega)) only [go_sem, go_sem]; rfl) (by simp only [go_sem, List.replicate]; rfl) (by first | exact True.intro | (simp only [Obs, and_true, true_and]; omega) | (simp [Obs, AV.sizeL, AV.size, Kd.sz]; done) | (simp [Obs, AV.sizeL, AV.size, Kd.sz]; omega)) ?_ | refine RunT.not (by first | (simp only [go_sem, Bool.true_beq, Bool.false_beq]; done) | (simp only [go_sem, Bool.true_beq, Bool.false_beq]; with_reducible rfl)) (by simp only [go_sem, List.replicate]; rfl) ?_ | refine RunT.gd rfl rfl (by simp only [go_sem, List.replicate]; rfl) (by simp only [go_sem, List.replicate]; rfl) (by simp only [go_sem, List.replicate]; rfl) ?_ ?_ <;> (intro h; try simp only [h]) | (refine RunT.nil ?_; try simp only [InBlock, Then]) | refine Tri.cF (by first | (simp only [AS.ev, go_sem, go_sem]; done) | fail) ?_ | refine Tri.cT (by first | (simp only [AS.ev, go_sem, go_sem]; done) | fail) ?_ | (refine Tri.split (by simp only [AS.ev, go_sem, go_sem]; with_reducible rfl) ?_ ?_ <;> (intro h; try simp only [h])) | (refine Tri.skip ?_; try simp only [InBlock, Then]) | (refine Tri.exit ?_; simp only [Then, InBlock, if_true, if_false, ↓reduceIte, Nat.reduceEqDiff]) | refine Tri.seq (Tri.block ?_) | refine Tri.block ?_ | refine Tri.seq ?_ | (refine Tri.ret ?_; refine Con.fin (.inl rfl) (by simp only [Tryd.f79, cfgA, resA, resA1, go_sem]; rfl) (by simp only [Obs, and_true, true_and]) ?_ trivial rfl rfl; (show AV.bool _ = AV.bool (plS c); simp [plS, *])))
theorem plain_sum : FSumOK Tryd.prog cfgA.G 79 kPlain.sum := Con.sumOK cfgA_ok kPlain Tryd.func79 rfl rfl (Con.of_inv _ _ _) plain_body
end
end Go.Proofs.YtjdeaphfamenaaaDoor

namespace Go.Proofs.YtjdeaphfamenaaaDoor
open Go.Vc Go.Proofs
set_option maxRecDepth 10000
set_option maxHeartbeats 4000000
def cfgB : Cfg2 := { ty := tyTab, fn := fun | 79 => some kPlain.sum | _ => none, G := gNone, pin := [], eq := fun _ => none }
theorem cfgB_ok : CfgOK Tryd.prog cfgB := ⟨tysOK, (fun f s h => by
  simp only [cfgB] at h
  split at h
  · injection h with h; subst h; exact .inl plain_sum
  · cases h), (fun t d h => by cases h)⟩
def prS (s : List UInt8) : Bool := s.all plS && (!strEq s [] && !decide (16 < (s.length : Int)))
theorem all_take (s : List UInt8) (f : UInt8 → Bool) (i : Nat) (h : i < s.length) : (s.take (i + 1)).all f = ((s.take i).all f && f (s.getD i 0)) := by
  rw [List.take_add_one, List.getElem?_eq_getElem h, List.all_append, List.getD_eq_getElem?_getD, List.getElem?_eq_getElem h]
  simp
theorem all_get (s : List UInt8) (f : UInt8 → Bool) (i : Nat) (h : i < s.length) (hf : f (s.getD i 0) = false) : s.all f = false := by
  rw [List.all_eq_false]
  refine ⟨s.getD i 0, ?_, by rw [hf]; decide⟩
  rw [List.getD_eq_getElem?_getD, List.getElem?_eq_getElem h]
  exact List.getElem_mem h
def kPart : Con := Con.of [.v .str] (fun x => [List.length (α := UInt8) x.1 ≤ 1000000000]) (fun x => ⟨.bool (prS x.1), []⟩)
section
attribute [local go_sem] Tryd.f45 kPart kPlain cfgB tyTab
theorem part_body (p : kPart.Par) (hp : ∀ q ∈ kPart.pre p, q) : BodyOK Tryd.prog cfgB Tryd.f45 (Tryd.f45.body.get rfl) kPart p := by
  obtain ⟨(s : List UInt8), u⟩ := p
  obtain ⟨h0, _⟩ := Obs.of hp
  replace h0 : s.length ≤ 1000000000 := h0
  refine ⟨?_, Nat.zero_le _, rfl, rfl⟩
  show Tri _ _ _ (Code.seq _ (Code.seq (Code.seq _ (Code.block _ (Code.loop (Code.seq _ (Code.seq (Code.cond _ _ _) (Code.seq (Code.block _ (Code.seq _ (Code.seq _ (Code.cond _ (Code.seq _ _) _)))) _)))))) (Code.seq _ _))) _
  refine Tri.at (by first | (simp only [go_sem, Con.start, go_sem]; rfl) | rfl) ?_
  repeat (first | ((first | refine Tri.seq (Tri.regT (cfgB_ok.pins _) ?_) | refine Tri.rgnT (cfgB_ok.pins _) ?_); (repeat (first | refine RunT.oneA (hp := by simp (maxSteps := 2000000) (disch := first | decide | omega | (simp only [List.length_append, List.length_cons, List.length_nil, List.length_take, List.length_drop]; omega)) only [go_sem, go_sem]; rfl) (h := ?_) | refine RunT.notA (h := ?_))); refine RunT.nil ?_; try simp only [InBlock, Then]) | refine Tri.cF (by first | (simp only [go_sem, go_sem]; done) | fail) ?_ | refine Tri.cT (by first | (simp only [go_sem, go_sem]; done) | fail) ?_ | (refine Tri.skip ?_; try simp only [InBlock, Then]) | (refine Tri.exit ?_; simp only [Then, InBlock, if_true, if_false, ↓reduceIte, Nat.reduceEqDiff]) | refine Tri.seq (Tri.block ?_) | refine Tri.block ?_ | refine Tri.seq ?_ | (refine Tri.ret ?_; refine Con.fin (.inl rfl) (by simp only [Tryd.f45, cfgB, resA, resA1, go_sem]; rfl) (by simp only [Obs, and_true, true_and]) (by first | (simp only [kPart, Con.of, Con.ofO, resV, go_sem, go_sem]; done) | fail) trivial rfl rfl))
  refine Tri.loop (fun i : Nat => (⟨[some (.str s), none, none, none, none, some (.int .i64 (s.length : Int)), some (.int .i64 (i : Int))] ++ List.replicate 15 none, []⟩ : AS)) (fun i => i ≤ s.length ∧ (s.take i).all plS = true) (fun i => s.length - i) 0 ?_ ⟨Nat.zero_le _, rfl⟩ ?_
  · refine Wk.of ?_ ?_ rfl rfl
    · simp only [lessTs, List.reduceReplicate, List.cons_append, List.nil_append] <;> ((repeat' apply And.intro) <;> first | with_reducible rfl | exact True.intro | exact congrArg (fun z : Int => some (AV.int IntKind.i64 z)) (show (_ : Int) = _ by omega) | exact congrArg (fun z : Nat => some (AV.tsl _ _ _ _ _ z)) (show (_ : Nat) = _ by omega) | exact arrEq (by omega) (by with_reducible rfl))
    · simp only [lessHs] <;> ((repeat' apply And.intro) <;> first | with_reducible rfl | exact True.intro | exact congrArg (fun z : Int => some (AV.int IntKind.i64 z)) (show (_ : Int) = _ by omega) | exact congrArg (fun z : Nat => some (AV.tsl _ _ _ _ _ z)) (show (_ : Nat) = _ by omega) | exact arrEq (by omega) (by with_reducible rfl))
  · intro i ⟨hi, ha⟩
    by_cases h1 : i < s.length
    · have h1' : decide ((i : Int) < (s.length : Int)) = true := decide_eq_true (by omega)
      have hat := all_take s plS i h1
      cases hc : plS (s.getD i 0) with
      | true =>
        refine Tri.at (by first | (simp only [go_sem]; rfl) | rfl) ?_
        repeat (first | ((first | refine Tri.seq (Tri.regT (cfgB_ok.pins _) ?_) | refine Tri.rgnT (cfgB_ok.pins _) ?_); (repeat (first | refine RunT.oneA (hp := by simp (maxSteps := 2000000) (disch := first | decide | omega | (simp only [List.length_append, List.length_cons, List.length_nil, List.length_take, List.length_drop]; omega)) only [h1', hc, go_sem]; rfl) (h := ?_) | refine RunT.notA (h := ?_))); refine RunT.nil ?_; try simp only [Then]) | refine Tri.cF (by first | (simp only [go_sem]; done) | fail) ?_ | refine Tri.cT (by first | (simp only [go_sem]; done) | fail) ?_ | (refine Tri.skip ?_; try simp only [InBlock, Then]) | (refine Tri.exit ?_; simp only [Then, InBlock, if_true, if_false, ↓reduceIte, Nat.reduceEqDiff]) | refine Tri.seq (Tri.block ?_) | refine Tri.block ?_ | refine Tri.seq ?_ | (refine Tri.ret ?_; refine Con.fin (.inl rfl) (by simp only [Tryd.f45, cfgB, resA, resA1, go_sem]; rfl) (by simp only [Obs, and_true, true_and]) (by first | (simp only [kPart, Con.of, Con.ofO, resV, h1', hc, go_sem]; done) | fail) trivial rfl rfl))
        refine ⟨i + 1, ⟨(by omega), (by rw [hat, ha, hc]; rfl)⟩, (by omega), Wk.of ?_ ?_ rfl rfl⟩
        · simp only [lessTs, List.reduceReplicate, List.cons_append, List.nil_append] <;> ((repeat' apply And.intro) <;> first | with_reducible rfl | exact True.intro | exact congrArg (fun z : Int => some (AV.int IntKind.i64 z)) (show (_ : Int) = _ by omega) | exact congrArg (fun z : Nat => some (AV.tsl _ _ _ _ _ z)) (show (_ : Nat) = _ by omega) | exact arrEq (by omega) (by with_reducible rfl))
        · trivial
      | false =>
        have hp0 : prS s = false := by rw [prS, all_get s plS i h1 hc]; rfl
        refine Tri.at (by first | (simp only [go_sem]; rfl) | rfl) ?_
        repeat (first | ((first | refine Tri.seq (Tri.regT (cfgB_ok.pins _) ?_) | refine Tri.rgnT (cfgB_ok.pins _) ?_); (repeat (first | refine RunT.oneA (hp := by simp (maxSteps := 2000000) (disch := first | decide | omega | (simp only [List.length_append, List.length_cons, List.length_nil, List.length_take, List.length_drop]; omega)) only [h1', hc, go_sem]; rfl) (h := ?_) | refine RunT.notA (h := ?_))); refine RunT.nil ?_; try simp only [InBlock, Then]) | refine Tri.cF (by first | (simp only [go_sem]; done) | fail) ?_ | refine Tri.cT (by first | (simp only [go_sem]; done) | fail) ?_ | (refine Tri.skip ?_; try simp only [Then]) | (refine Tri.exit ?_; simp only [Then, InBlock, if_true, if_false, ↓reduceIte, Nat.reduceEqDiff]) | refine Tri.seq (Tri.block ?_) | refine Tri.block ?_ | refine Tri.seq ?_ | (refine Tri.ret ?_; refine Con.fin (.inl rfl) (by simp only [Tryd.f45, cfgB, resA, resA1, go_sem]; rfl) (by simp only [Obs]) (by first | (simp only [kPart, Con.of, resV, hp0, go_sem]; done) | fail) trivial rfl rfl))
    · have h1' : decide ((i : Int) < (s.length : Int)) = false := decide_eq_false (by omega)
      rw [List.take_of_length_le (by omega)] at ha
      cases he : strEq s [] with
      | true =>
        have hp0 : prS s = false := by rw [prS, he]; simp
        refine Tri.at (by first | (simp only [go_sem]; rfl) | rfl) ?_
        repeat (first | ((first | refine Tri.seq (Tri.regT (cfgB_ok.pins _) ?_) | refine Tri.rgnT (cfgB_ok.pins _) ?_); (repeat (first | refine RunT.oneA (hp := by simp (maxSteps := 2000000) (disch := first | decide | omega | (simp only [List.length_append, List.length_cons, List.length_nil, List.length_take, List.length_drop]; omega)) only [h1', he, go_sem]; rfl) (h := ?_) | refine RunT.notA (h := ?_))); refine RunT.nil ?_; try simp only [InBlock, Then]) | refine Tri.cF (by first | (simp only [go_sem]; done) | fail) ?_ | refine Tri.cT (by first | (simp only [go_sem]; done) | fail) ?_ | (refine Tri.skip ?_; try simp only [InBlock, Then]) | (refine Tri.exit ?_; simp only [Then, InBlock, ↓reduceIte]) | refine Tri.seq (Tri.block ?_) | refine Tri.block ?_ | refine Tri.seq ?_ | (refine Tri.ret ?_; refine Con.fin (.inl rfl) (by simp only [Tryd.f45, cfgB, resA, resA1, go_sem]; rfl) (by simp only [Obs]) (by first | (simp only [kPart, Con.of, resV, hp0, go_sem]; done) | fail) trivial rfl rfl))
      | false =>
        have hp0 : prS s = !decide (16 < (s.length : Int)) := by rw [prS, he, ha]; rfl
        refine Tri.at (by first | (simp only [go_sem]; rfl) | rfl) ?_
        repeat (first | ((first | refine Tri.seq (Tri.regT (cfgB_ok.pins _) ?_) | refine Tri.rgnT (cfgB_ok.pins _) ?_); (repeat (first | refine RunT.oneA (hp := by simp (maxSteps := 2000000) (disch := first | decide | omega | (simp only [List.length_append, List.length_cons, List.length_nil, List.length_take, List.length_drop]; omega)) only [h1', he, go_sem]; rfl) (h := ?_) | refine RunT.notA (h := ?_))); refine RunT.nil ?_; try simp only [InBlock, Then]) | refine Tri.cF (by first | (simp only [go_sem]; done) | fail) ?_ | refine Tri.cT (by first | (simp only [go_sem]; done) | fail) ?_ | (refine Tri.skip ?_; try simp only [InBlock, Then]) | (refine Tri.exit ?_; simp only [Then, InBlock, ↓reduceIte]) | refine Tri.seq (Tri.block ?_) | refine Tri.block ?_ | refine Tri.seq ?_ | (refine Tri.ret ?_; refine Con.fin (.inl rfl) (by simp only [Tryd.f45, cfgB, resA, resA1, go_sem]; rfl) (by simp only [Obs]) (by first | (simp only [kPart, Con.of, resV, hp0, go_sem]; done) | fail) trivial rfl rfl))
theorem part_sum : FSumOK Tryd.prog cfgB.G 45 kPart.sum := Con.sumOK cfgB_ok kPart Tryd.func45 rfl rfl (Con.of_inv _ _ _) part_body
end
def kWrong : Con := Con.of [.v .str] (fun x => [List.length (α := UInt8) x.1 ≤ 1000000000]) (fun x => ⟨.bool (!prS x.1), []⟩)
def cfgB2 : Cfg2 := { ty := tyTab, fn := fun | 45 => some kPart.sum | _ => none, G := gNone, pin := [], eq := fun _ => none }
theorem cfgB2_ok : CfgOK Tryd.prog cfgB2 := ⟨tysOK, (fun f s h => by
  simp only [cfgB2] at h
  split at h
  · injection h with h; subst h; exact .inl part_sum
  · cases h), (fun t d h => by cases h)⟩
section
attribute [local go_sem] Tryd.f44 kWrong kPart cfgB2 tyTab
theorem wrong_body (p : kWrong.Par) (hp : ∀ q ∈ kWrong.pre p, q) : BodyOK Tryd.prog cfgB2 Tryd.f44 (Tryd.f44.body.get rfl) kWrong p := by
  obtain ⟨(s : List UInt8), u⟩ := p
  obtain ⟨h0, _⟩ := Obs.of hp
  replace h0 : s.length ≤ 1000000000 := h0
  refine ⟨?_, Nat.zero_le _, rfl, rfl⟩
  show Tri _ _ _ (Code.seq _ (Code.seq _ _)) _
  refine Tri.at (by first | (simp only [go_sem, Con.start, go_sem]; rfl) | rfl) ?_
  repeat (first | ((first | refine Tri.seq (Tri.regT (cfgB2_ok.pins _) ?_) | refine Tri.rgnT (cfgB2_ok.pins _) ?_); (repeat (first | refine RunT.oneA (hp := by simp (maxSteps := 2000000) (disch := first | decide | omega | (simp only [List.length_append, List.length_cons, List.length_nil, List.length_take, List.length_drop]; omega)) only [go_sem, go_sem]; rfl) (h := ?_) | refine RunT.notA (h := ?_))); refine RunT.nil ?_; try simp only [InBlock, Then]) | refine Tri.cF (by first | (simp only [go_sem, go_sem]; done) | fail) ?_ | refine Tri.cT (by first | (simp only [go_sem, go_sem]; done) | fail) ?_ | (refine Tri.skip ?_; try simp only [InBlock, Then]) | (refine Tri.exit ?_; simp only [Then, InBlock, if_true, if_false, ↓reduceIte, Nat.reduceEqDiff]) | refine Tri.seq (Tri.block ?_) | refine Tri.block ?_ | refine Tri.seq ?_ | (refine Tri.ret ?_; refine Con.fin (.inl rfl) (by simp only [Tryd.f44, cfgB2, resA, resA1, go_sem]; rfl) (by simp only [Obs]) (by first | (simp only [kWrong, Con.of, resV, go_sem, go_sem]; done) | fail) trivial rfl rfl))
theorem wrong_sum : FSumOK Tryd.prog cfgB2.G 44 kWrong.sum := Con.sumOK cfgB2_ok kWrong Tryd.func44 rfl rfl (Con.of_inv _ _ _) wrong_body
end
def lsEq (a b : List (List UInt8)) : Bool := decide (a = b)
theorem ls_ne (a b : List (List UInt8)) (i : Nat) (ha : i < a.length) (hb : i < b.length) (h : strEq (a.getD i []) (b.getD i []) = false) : lsEq a b = false := by
  refine decide_eq_false fun e => ?_
  subst e
  exact absurd h (by simp [strEq])
theorem ls_eq (a b : List (List UInt8)) (hl : a.length = b.length) (h : ∀ i, i < a.length → strEq (a.getD i []) (b.getD i []) = true) : lsEq a b = true := by
  refine decide_eq_true ?_
  apply List.ext_getElem hl
  intro i h1 h2
  have := of_decide_eq_true (h i h1)
  rw [List.getD_eq_getElem?_getD, List.getD_eq_getElem?_getD, List.getElem?_eq_getElem h1, List.getElem?_eq_getElem h2] at this
  exact this
def kEqS : Con := Con.of [.v (.slice false .str), .v (.slice false .str)] (fun x => [List.length (α := List UInt8) x.1 ≤ 9223372036854775807]) (fun x => ⟨.bool (lsEq x.1 x.2.1), []⟩)
section
attribute [local go_sem] Tryd.f54 kEqS cfgA tyTab
theorem eqS_body (p : kEqS.Par) (hp : ∀ q ∈ kEqS.pre p, q) : BodyOK Tryd.prog cfgA Tryd.f54 (Tryd.f54.body.get rfl) kEqS p := by
  obtain ⟨(a : List (List UInt8)), (b : List (List UInt8)), u⟩ := p
  obtain ⟨h0, _⟩ := Obs.of hp
  replace h0 : a.length ≤ 9223372036854775807 := h0
  refine ⟨?_, Nat.zero_le _, rfl, rfl⟩
  show Tri _ _ _ (Code.seq _ (Code.seq (Code.seq _ (Code.cond _ (Code.seq _ _) _)) (Code.seq (Code.seq _ (Code.block _ (Code.loop (Code.seq _ (Code.seq (Code.cond _ _ _) (Code.seq (Code.block _ (Code.seq _ (Code.seq _ (Code.cond _ (Code.seq _ _) _)))) _)))))) (Code.seq _ _)))) _
  by_cases hl : a.length = b.length
  · have hl' : decide ((a.length : Int) = (b.length : Int)) = true := decide_eq_true (by omega)
    refine Tri.at (by first | (simp only [Con.start, go_sem]; rfl) | rfl) ?_
    repeat (first | ((first | refine Tri.seq (Tri.regT (cfgA_ok.pins _) ?_) | refine Tri.rgnT (cfgA_ok.pins _) ?_); (repeat (first | refine RunT.oneA (hp := by simp (maxSteps := 2000000) (disch := first | decide | omega | (simp only [List.length_append, List.length_cons, List.length_nil, List.length_take, List.length_drop]; omega)) only [hl', go_sem]; rfl) (h := ?_) | refine RunT.notA (h := ?_))); refine RunT.nil ?_; try simp only [InBlock, Then]) | refine Tri.cF (by first | (simp only [go_sem]; done) | fail) ?_ | refine Tri.cT (by first | (simp only [go_sem]; done) | fail) ?_ | (refine Tri.skip ?_; try simp only [Then]) | (refine Tri.exit ?_; simp only [Then, InBlock, if_true, if_false, ↓reduceIte, Nat.reduceEqDiff]) | refine Tri.seq (Tri.block ?_) | refine Tri.block ?_ | refine Tri.seq ?_ | (refine Tri.ret ?_; refine Con.fin (.inl rfl) (by simp only [Tryd.f54, cfgA, resA, resA1, go_sem]; rfl) (by simp only [Obs, and_true, true_and]) (by first | (simp only [kEqS, Con.of, Con.ofO, resV, hl', go_sem]; done) | fail) trivial rfl rfl))
    refine Tri.loop (fun i : Nat => (⟨[some (.pure (.slice false .str) a), some (.pure (.slice false .str) b), none, none, none, none, none, none, none, none, none, none, some (.int .i64 (a.length : Int)), some (.int .i64 (i : Int))] ++ List.replicate 12 none, []⟩ : AS)) (fun i => i ≤ a.length ∧ ∀ j, j < i → strEq (a.getD j []) (b.getD j []) = true) (fun i => a.length - i) 0 ?_ ⟨Nat.zero_le _, fun j hj => by omega⟩ ?_
    · refine Wk.of ?_ ?_ rfl rfl
      · simp only [lessTs, List.reduceReplicate, List.cons_append, List.nil_append] <;> ((repeat' apply And.intro) <;> first | with_reducible rfl | exact True.intro | exact congrArg (fun z : Int => some (AV.int IntKind.i64 z)) (show (_ : Int) = _ by omega) | exact congrArg (fun z : Nat => some (AV.tsl _ _ _ _ _ z)) (show (_ : Nat) = _ by omega) | exact arrEq (by omega) (by with_reducible rfl))
      · simp only [lessHs] <;> ((repeat' apply And.intro) <;> first | with_reducible rfl | exact True.intro | exact congrArg (fun z : Int => some (AV.int IntKind.i64 z)) (show (_ : Int) = _ by omega) | exact congrArg (fun z : Nat => some (AV.tsl _ _ _ _ _ z)) (show (_ : Nat) = _ by omega) | exact arrEq (by omega) (by with_reducible rfl))
    · intro i ⟨hi, hh⟩
      by_cases h1 : i < a.length
      · have h1' : decide ((i : Int) < (a.length : Int)) = true := decide_eq_true (by omega)
        cases hc : strEq (a.getD i []) (b.getD i []) with
        | true =>
          refine Tri.at (by first | (simp only [go_sem]; rfl) | rfl) ?_
          repeat (first | ((first | refine Tri.seq (Tri.regT (cfgA_ok.pins _) ?_) | refine Tri.rgnT (cfgA_ok.pins _) ?_); (repeat (first | refine RunT.oneA (hp := by simp (maxSteps := 2000000) (disch := first | decide | omega | (simp only [List.length_append, List.length_cons, List.length_nil, List.length_take, List.length_drop]; omega)) only [h1', go_sem]; rfl) (h := ?_) | refine RunT.notA (h := ?_))); refine RunT.nil ?_; try simp only [Then]) | ((first | refine Tri.seq (Tri.drwT (mixed) (cfgA_ok.pins _) ?_) | refine Tri.drnT (mixed) (cfgA_ok.pins _) ?_); (repeat (first | refine RunD.oneA (hp := by simp (maxSteps := 2000000) (disch := first | decide | omega | (simp only [List.length_append, List.length_cons, List.length_nil, List.length_take, List.length_drop]; omega)) only [hc, go_sem]; rfl) (h := ?_) | refine RunD.notA (h := ?_))); refine RunD.nil ?_; refine ⟨by kernel_rfl, ?_⟩; try simp only [InBlock, Then]) | refine Tri.cF (by first | (simp only [go_sem]; done) | fail) ?_ | refine Tri.cT (by first | (simp only [go_sem]; done) | fail) ?_ | (refine Tri.skip ?_; try simp only [InBlock, Then]) | (refine Tri.exit ?_; simp only [Then, InBlock, if_true, if_false, ↓reduceIte, Nat.reduceEqDiff]) | refine Tri.seq (Tri.block ?_) | refine Tri.block ?_ | refine Tri.seq ?_ | (refine Tri.ret ?_; refine Con.fin (.inl rfl) (by simp only [Tryd.f54, cfgA, resA, resA1, go_sem]; rfl) (by simp only [Obs, and_true, true_and]) (by first | (simp only [kEqS, Con.of, Con.ofO, resV, h1', hc, go_sem]; done) | fail) trivial rfl rfl))
          refine ⟨i + 1, ⟨(by omega), fun j hj => ?_⟩, (by omega), Wk.of ?_ ?_ rfl rfl⟩
          · by_cases e : j = i
            · rw [e]; exact hc
            · exact hh j (by omega)
          · simp only [lessTs, List.reduceReplicate, List.cons_append, List.nil_append] <;> ((repeat' apply And.intro) <;> first | with_reducible rfl | exact True.intro | exact congrArg (fun z : Int => some (AV.int IntKind.i64 z)) (show (_ : Int) = _ by omega) | exact congrArg (fun z : Nat => some (AV.tsl _ _ _ _ _ z)) (show (_ : Nat) = _ by omega) | exact arrEq (by omega) (by with_reducible rfl))
          · trivial
        | false =>
          have hp0 : lsEq a b = false := ls_ne a b i h1 (by omega) hc
          refine Tri.at (by first | (simp only [go_sem]; rfl) | rfl) ?_
          repeat (first | ((first | refine Tri.seq (Tri.regT (cfgA_ok.pins _) ?_) | refine Tri.rgnT (cfgA_ok.pins _) ?_); (repeat (first | refine RunT.oneA (hp := by simp (maxSteps := 2000000) (disch := first | decide | omega | (simp only [List.length_append, List.length_cons, List.length_nil, List.length_take, List.length_drop]; omega)) only [h1', go_sem]; rfl) (h := ?_) | refine RunT.notA (h := ?_))); refine RunT.nil ?_; try simp only [InBlock, Then]) | ((first | refine Tri.seq (Tri.drwT (mixed) (cfgA_ok.pins _) ?_) | refine Tri.drnT (mixed) (cfgA_ok.pins _) ?_); (repeat (first | refine RunD.oneA (hp := by simp (maxSteps := 2000000) (disch := first | decide | omega | (simp only [List.length_append, List.length_cons, List.length_nil, List.length_take, List.length_drop]; omega)) only [hc, go_sem]; rfl) (h := ?_) | refine RunD.notA (h := ?_))); refine RunD.nil ?_; refine ⟨by kernel_rfl, ?_⟩; try simp only [InBlock, Then]) | refine Tri.cF (by first | (simp only [go_sem]; done) | fail) ?_ | refine Tri.cT (by first | (simp only [go_sem]; done) | fail) ?_ | (refine Tri.skip ?_; try simp only [Then]) | (refine Tri.exit ?_; simp only [Then, InBlock, if_true, if_false, ↓reduceIte, Nat.reduceEqDiff]) | refine Tri.seq (Tri.block ?_) | refine Tri.block ?_ | refine Tri.seq ?_ | (refine Tri.ret ?_; refine Con.fin (.inl rfl) (by simp only [Tryd.f54, cfgA, resA, resA1, go_sem]; rfl) (by simp only [Obs]) (by first | (simp only [kEqS, Con.of, resV, hp0, go_sem]; done) | fail) trivial rfl rfl))
      · have h1' : decide ((i : Int) < (a.length : Int)) = false := decide_eq_false (by omega)
        have hp0 : lsEq a b = true := ls_eq a b hl fun j hj => hh j (by omega)
        refine Tri.at (by first | (simp only [go_sem]; rfl) | rfl) ?_
        repeat (first | ((first | refine Tri.seq (Tri.regT (cfgA_ok.pins _) ?_) | refine Tri.rgnT (cfgA_ok.pins _) ?_); (repeat (first | refine RunT.oneA (hp := by simp (maxSteps := 2000000) (disch := first | decide | omega | (simp only [List.length_append, List.length_cons, List.length_nil, List.length_take, List.length_drop]; omega)) only [h1', go_sem]; rfl) (h := ?_) | refine RunT.notA (h := ?_))); refine RunT.nil ?_; try simp only [InBlock, Then]) | refine Tri.cF (by first | (simp only [go_sem]; done) | fail) ?_ | refine Tri.cT (by first | (simp only [go_sem]; done) | fail) ?_ | (refine Tri.skip ?_; try simp only [InBlock, Then]) | (refine Tri.exit ?_; simp only [Then, InBlock, ↓reduceIte]) | refine Tri.seq (Tri.block ?_) | refine Tri.block ?_ | refine Tri.seq ?_ | (refine Tri.ret ?_; refine Con.fin (.inl rfl) (by simp only [Tryd.f54, cfgA, resA, resA1, go_sem]; rfl) (by simp only [Obs]) (by first | (simp only [kEqS, Con.of, resV, hp0, go_sem]; done) | fail) trivial rfl rfl))
  · have hl' : decide ((a.length : Int) = (b.length : Int)) = false := decide_eq_false (by omega)
    have hp0 : lsEq a b = false := decide_eq_false fun e => hl (by rw [e])
    refine Tri.at (by first | (simp only [Con.start, go_sem]; rfl) | rfl) ?_
    repeat (first | ((first | refine Tri.seq (Tri.regT (cfgA_ok.pins _) ?_) | refine Tri.rgnT (cfgA_ok.pins _) ?_); (repeat (first | refine RunT.oneA (hp := by simp (maxSteps := 2000000) (disch := first | decide | omega | (simp only [List.length_append, List.length_cons, List.length_nil, List.length_take, List.length_drop]; omega)) only [hl', go_sem]; rfl) (h := ?_) | refine RunT.notA (h := ?_))); refine RunT.nil ?_; try simp only [InBlock, Then]) | refine Tri.cF (by first | (simp only [go_sem]; done) | fail) ?_ | refine Tri.cT (by first | (simp only [go_sem]; done) | fail) ?_ | (refine Tri.skip ?_; try simp only [InBlock, Then]) | (refine Tri.exit ?_; simp only [Then, InBlock, if_true, if_false, ↓reduceIte, Nat.reduceEqDiff]) | refine Tri.seq (Tri.block ?_) | refine Tri.block ?_ | refine Tri.seq ?_ | (refine Tri.ret ?_; refine Con.fin (.inl rfl) (by simp only [Tryd.f54, cfgA, resA, resA1, go_sem]; rfl) (by simp only [Obs]) (by first | (simp only [kEqS, Con.of, resV, hp0, go_sem]; done) | fail) trivial rfl rfl))
theorem eqS_sum : FSumOK Tryd.prog cfgA.G 54 kEqS.sum := Con.sumOK cfgA_ok kEqS Tryd.func54 rfl rfl (Con.of_inv _ _ _) eqS_body
end
def smS (a b : nmK.T) : Bool := strEq a.2.1 b.2.1 && lsEq a.1 b.1
def kSame : Con := Con.of [.v nmL, .v nmL] (fun x => [List.length (α := List UInt8) x.1.1 ≤ 9223372036854775807]) (fun x => ⟨.bool (smS x.1 x.2.1), []⟩)
def cfgB3 : Cfg2 := { ty := tyTab, fn := fun | 54 => some kEqS.sum | _ => none, G := gNone, pin := [], eq := fun _ => none }
theorem cfgB3_ok : CfgOK Tryd.prog cfgB3 := ⟨tysOK, (fun f s h => by
  simp only [cfgB3] at h
  split at h
  · injection h with h; subst h; exact .inl eqS_sum
  · cases h), (fun t d h => by cases h)⟩
section
attribute [local go_sem] Tryd.f29 kSame kEqS cfgB3 tyTab
theorem same_body (p : kSame.Par) (hp : ∀ q ∈ kSame.pre p, q) : BodyOK Tryd.prog cfgB3 Tryd.f29 (Tryd.f29.body.get rfl) kSame p := by
  obtain ⟨⟨(ap : List (List UInt8)), (ar : List UInt8), u1⟩, ⟨(bp : List (List UInt8)), (br : List UInt8), u2⟩, u⟩ := p
  obtain ⟨h0, _⟩ := Obs.of hp
  replace h0 : ap.length ≤ 9223372036854775807 := h0
  refine ⟨?_, Nat.zero_le _, rfl, rfl⟩
  show Tri _ _ _ (Code.seq _ (Code.seq _ _)) _
  cases he : strEq ar br with
  | true =>
    have hs : smS (ap, ar, u1) (bp, br, u2) = lsEq ap bp := by simp [smS, he]
    refine Tri.at (by first | (simp only [Con.start, go_sem]; rfl) | rfl) ?_
    repeat (first | ((first | refine Tri.seq (Tri.regT (cfgB3_ok.pins _) ?_) | refine Tri.rgnT (cfgB3_ok.pins _) ?_); (repeat (first | refine RunT.oneA (hp := by simp (maxSteps := 2000000) (disch := first | decide | omega | (simp only [List.length_append, List.length_cons, List.length_nil, List.length_take, List.length_drop]; omega)) only [he, go_sem]; rfl) (h := ?_) | refine RunT.notA (h := ?_))); refine RunT.nil ?_; try simp only [InBlock, Then]) | refine Tri.cF (by first | (simp only [go_sem]; done) | fail) ?_ | refine Tri.cT (by first | (simp only [go_sem]; done) | fail) ?_ | (refine Tri.skip ?_; try simp only [InBlock, Then]) | (refine Tri.exit ?_; simp only [Then, InBlock, if_true, if_false, ↓reduceIte, Nat.reduceEqDiff]) | refine Tri.seq (Tri.block ?_) | refine Tri.block ?_ | refine Tri.seq ?_ | (refine Tri.ret ?_; refine Con.fin (.inl rfl) (by simp only [Tryd.f29, cfgB3, resA, resA1, go_sem]; rfl) (by simp only [Obs]) (by first | (simp only [kSame, Con.of, resV, hs, go_sem]; done) | fail) trivial rfl rfl))
  | false =>
    have hs : smS (ap, ar, u1) (bp, br, u2) = false := by simp [smS, he]
    refine Tri.at (by first | (simp only [Con.start, go_sem]; rfl) | rfl) ?_
    repeat (first | ((first | refine Tri.seq (Tri.regT (cfgB3_ok.pins _) ?_) | refine Tri.rgnT (cfgB3_ok.pins _) ?_); (repeat (first | refine RunT.oneA (hp := by simp (maxSteps := 2000000) (disch := first | decide | omega | (simp only [List.length_append, List.length_cons, List.length_nil, List.length_take, List.length_drop]; omega)) only [he, go_sem]; rfl) (h := ?_) | refine RunT.notA (h := ?_))); refine RunT.nil ?_; try simp only [InBlock, Then]) | refine Tri.cF (by first | (simp only [go_sem]; done) | fail) ?_ | refine Tri.cT (by first | (simp only [go_sem]; done) | fail) ?_ | (refine Tri.skip ?_; try simp only [InBlock, Then]) | (refine Tri.exit ?_; simp only [Then, InBlock, if_true, if_false, ↓reduceIte, Nat.reduceEqDiff]) | refine Tri.seq (Tri.block ?_) | refine Tri.block ?_ | refine Tri.seq ?_ | (refine Tri.ret ?_; refine Con.fin (.inl rfl) (by simp only [Tryd.f29, cfgB3, resA, resA1, go_sem]; rfl) (by simp only [Obs]) (by first | (simp only [kSame, Con.of, resV, hs, go_sem]; done) | fail) trivial rfl rfl))
theorem same_sum : FSumOK Tryd.prog cfgB3.G 29 kSame.sum := Con.sumOK cfgB3_ok kSame Tryd.func29 rfl rfl (Con.of_inv _ _ _) same_body
end
end Go.Proofs.YtjdeaphfamenaaaDoor

namespace Go.Proofs.YtjdeaphfamenaaaDoor
open Go.Vc Go.Proofs
set_option maxRecDepth 10000
set_option maxHeartbeats 4000000
section
attribute [local go_sem] Tryd.f51 kPart cfgA tyTab
theorem partR_body (p : kPart.Par) (hp : ∀ q ∈ kPart.pre p, q) : BodyOK Tryd.prog cfgA Tryd.f51 (Tryd.f51.body.get rfl) kPart p := by
  obtain ⟨(s : List UInt8), u⟩ := p
  obtain ⟨h0, _⟩ := Obs.of hp
  replace h0 : s.length ≤ 1000000000 := h0
  refine ⟨?_, Nat.zero_le _, rfl, rfl⟩
  show Tri _ _ _ (Code.seq _ (Code.seq (Code.seq _ (Code.cond _ (Code.seq _ _) _)) (Code.seq (Code.seq _ (Code.block _ (Code.loop (Code.seq (Code.seq _ (Code.cond _ _ _)) (Code.seq (Code.block _ (Code.seq _ (Code.seq _ (Code.seq _ (Code.cond _ (Code.seq _ _) _))))) _))))) (Code.seq _ _)))) _
  by_cases hz : s.length < 1
  · have hz' : decide ((s.length : Int) < 1) = true := decide_eq_true (by omega)
    have hs : s = [] := List.eq_nil_of_length_eq_zero (by omega)
    have hp0 : prS s = false := by rw [hs]; rfl
    refine Tri.at (by first | (simp only [Con.start, go_sem]; rfl) | rfl) ?_
    repeat (first | ((first | refine Tri.seq (Tri.regT (cfgA_ok.pins _) ?_) | refine Tri.rgnT (cfgA_ok.pins _) ?_); (repeat (first | refine RunT.oneA (hp := by simp (maxSteps := 2000000) (disch := first | decide | omega | (simp only [List.length_append, List.length_cons, List.length_nil, List.length_take, List.length_drop]; omega)) only [hz', go_sem]; rfl) (h := ?_) | refine RunT.notA (h := ?_))); refine RunT.nil ?_; try simp only [InBlock, Then]) | refine Tri.cF (by first | (simp only [go_sem]; done) | fail) ?_ | refine Tri.cT (by first | (simp only [go_sem]; done) | fail) ?_ | (refine Tri.skip ?_; try simp only [InBlock, Then]) | (refine Tri.exit ?_; simp only [Then, InBlock, if_true, if_false, ↓reduceIte, Nat.reduceEqDiff]) | refine Tri.seq (Tri.block ?_) | refine Tri.block ?_ | refine Tri.seq ?_ | (refine Tri.ret ?_; refine Con.fin (.inl rfl) (by simp only [Tryd.f51, cfgA, resA, resA1, go_sem]; rfl) (by simp only [Obs]) (by first | (simp only [kPart, Con.of, resV, hp0, go_sem]; done) | fail) trivial rfl rfl))
  · have hz' : decide ((s.length : Int) < 1) = false := decide_eq_false (by omega)
    have he : strEq s [] = false := decide_eq_false fun e => hz (by rw [e]; decide)
    by_cases hm : 16 < s.length
    · have hm' : decide ((16 : Int) < (s.length : Int)) = true := decide_eq_true (by omega)
      have hp0 : prS s = false := by rw [prS, hm']; simp
      refine Tri.at (by first | (simp only [Con.start, go_sem]; rfl) | rfl) ?_
      repeat (first | ((first | refine Tri.seq (Tri.regT (cfgA_ok.pins _) ?_) | refine Tri.rgnT (cfgA_ok.pins _) ?_); (repeat (first | refine RunT.oneA (hp := by simp (maxSteps := 2000000) (disch := first | decide | omega | (simp only [List.length_append, List.length_cons, List.length_nil, List.length_take, List.length_drop]; omega)) only [hz', hm', go_sem]; rfl) (h := ?_) | refine RunT.notA (h := ?_))); refine RunT.nil ?_; try simp only [InBlock, Then]) | refine Tri.cF (by first | (simp only [go_sem]; done) | fail) ?_ | refine Tri.cT (by first | (simp only [go_sem]; done) | fail) ?_ | (refine Tri.skip ?_; try simp only [InBlock, Then]) | (refine Tri.exit ?_; simp only [Then, InBlock, if_true, if_false, ↓reduceIte, Nat.reduceEqDiff]) | refine Tri.seq (Tri.block ?_) | refine Tri.block ?_ | refine Tri.seq ?_ | (refine Tri.ret ?_; refine Con.fin (.inl rfl) (by simp only [Tryd.f51, cfgA, resA, resA1, go_sem]; rfl) (by simp only [Obs]) (by first | (simp only [kPart, Con.of, resV, hp0, go_sem]; done) | fail) trivial rfl rfl))
    · have hm' : decide ((16 : Int) < (s.length : Int)) = false := decide_eq_false (by omega)
      refine Tri.at (by first | (simp only [Con.start, go_sem]; rfl) | rfl) ?_
      repeat (first | ((first | refine Tri.seq (Tri.regT (cfgA_ok.pins _) ?_) | refine Tri.rgnT (cfgA_ok.pins _) ?_); (repeat (first | refine RunT.oneA (hp := by simp (maxSteps := 2000000) (disch := first | decide | omega | (simp only [List.length_append, List.length_cons, List.length_nil, List.length_take, List.length_drop]; omega)) only [hz', hm', go_sem]; rfl) (h := ?_) | refine RunT.notA (h := ?_))); refine RunT.nil ?_; try simp only [InBlock, Then]) | refine Tri.cF (by first | (simp only [go_sem]; done) | fail) ?_ | refine Tri.cT (by first | (simp only [go_sem]; done) | fail) ?_ | (refine Tri.skip ?_; try simp only [Then]) | (refine Tri.exit ?_; simp only [Then, InBlock, if_true, if_false, ↓reduceIte, Nat.reduceEqDiff]) | refine Tri.seq (Tri.block ?_) | refine Tri.block ?_ | refine Tri.seq ?_ | (refine Tri.ret ?_; refine Con.fin (.inl rfl) (by simp only [Tryd.f51, cfgA, resA, resA1, go_sem]; rfl) (by simp only [Obs, and_true, true_and]) (by first | (simp only [kPart, Con.of, Con.ofO, resV, hz', hm', go_sem]; done) | fail) trivial rfl rfl))
      refine Tri.loop (fun i : Nat => (⟨[some (.str s), none, none, some (.int .i64 (i : Int))] ++ List.replicate 59 none, []⟩ : AS)) (fun i => i ≤ s.length ∧ (s.take i).all plS = true) (fun i => s.length - i) 0 ?_ ⟨Nat.zero_le _, rfl⟩ ?_
      · refine Wk.of ?_ ?_ rfl rfl
        · simp only [lessTs, List.reduceReplicate, List.cons_append, List.nil_append] <;> ((repeat' apply And.intro) <;> first | with_reducible rfl | exact True.intro | exact congrArg (fun z : Int => some (AV.int IntKind.i64 z)) (show (_ : Int) = _ by omega) | exact congrArg (fun z : Nat => some (AV.tsl _ _ _ _ _ z)) (show (_ : Nat) = _ by omega) | exact arrEq (by omega) (by with_reducible rfl))
        · simp only [lessHs] <;> ((repeat' apply And.intro) <;> first | with_reducible rfl | exact True.intro | exact congrArg (fun z : Int => some (AV.int IntKind.i64 z)) (show (_ : Int) = _ by omega) | exact congrArg (fun z : Nat => some (AV.tsl _ _ _ _ _ z)) (show (_ : Nat) = _ by omega) | exact arrEq (by omega) (by with_reducible rfl))
      · intro i ⟨hi, ha⟩
        by_cases h1 : i < s.length
        · have h1' : decide ((i : Int) < (s.length : Int)) = true := decide_eq_true (by omega)
          have hat := all_take s plS i h1
          have hag := all_get s plS i h1
          refine Tri.at (by first | (simp only [go_sem]; rfl) | rfl) ?_
          repeat (first | ((first | refine Tri.seq (Tri.regT (cfgA_ok.pins _) ?_) | refine Tri.rgnT (cfgA_ok.pins _) ?_); (repeat (first | refine RunT.oneA (hp := by simp (maxSteps := 2000000) (disch := first | decide | omega | (simp only [List.length_append, List.length_cons, List.length_nil, List.length_take, List.length_drop]; omega)) only [h1', go_sem]; rfl) (h := ?_) | refine RunT.notA (h := ?_))); refine RunT.nil ?_; try simp only [InBlock, Then]) | refine Tri.cF (by first | (simp only [go_sem]; done) | fail) ?_ | refine Tri.cT (by first | (simp only [go_sem]; done) | fail) ?_ | (refine Tri.skip ?_; try simp only [Then]) | (refine Tri.exit ?_; simp only [Then, InBlock, if_true, if_false, ↓reduceIte, Nat.reduceEqDiff]) | refine Tri.seq (Tri.block ?_) | refine Tri.block ?_ | refine Tri.seq ?_ | (refine Tri.ret ?_; refine Con.fin (.inl rfl) (by simp only [Tryd.f51, cfgA, resA, resA1, go_sem]; rfl) (by simp only [Obs, and_true, true_and]) (by first | (simp only [kPart, Con.of, Con.ofO, resV, h1', go_sem]; done) | fail) trivial rfl rfl))
          generalize s.getD i 0 = c at hat hag
          refine Tri.join (fun _ : Unit => (⟨[some (.str s), none, none, some (.int .i64 (i : Int)), none, some (.bool (plS c))] ++ List.replicate 57 none, []⟩ : AS)) (fun _ => True) ?_ ?_
          · repeat' (first | refine Tri.seq (Tri.regT (cfgA_ok.pins _) ?_) | refine Tri.rgnT (cfgA_ok.pins _) ?_ | refine RunT.one (by first | exact wantedA_none rfl | (simp only [go_sem, Bool.true_beq, Bool.false_beq]; done) | (simp only [go_sem, Bool.true_beq, Bool.false_beq]; with_reducible rfl)) (by simp (maxSteps := 2000000) (disch := first | decide | omega | (simp only [List.length_append, List.length_cons, List.length_nil, List.length_take, List.length_drop]; omega)) only [go_sem]; rfl) (by simp only [go_sem]; rfl) (by first | exact True.intro | (simp only [Obs, and_true, true_and]; omega) | (simp [Obs, AV.sizeL, AV.size, Kd.sz]; done) | (simp [Obs, AV.sizeL, AV.size, Kd.sz]; omega)) ?_ | refine RunT.not (by first | (simp only [go_sem, Bool.true_beq, Bool.false_beq]; done) | (simp only [go_sem]; with_reducible rfl)) (by simp only [go_sem]; rfl) ?_ | refine RunT.gd rfl rfl (by simp only [go_sem]; rfl) (by simp only [go_sem]; rfl) (by simp only [go_sem]; rfl) ?_ ?_ <;> (intro h; try simp only [h]) | (refine RunT.nil ?_; try simp only [Then]) | refine Tri.cF (by first | (simp only [AS.ev, go_sem]; done) | fail) ?_ | refine Tri.cT (by first | (simp only [AS.ev, go_sem]; done) | fail) ?_ | (refine Tri.split (by simp only [AS.ev, go_sem]; with_reducible rfl) ?_ ?_ <;> (intro h; try simp only [h])) | (refine Tri.skip ?_; try simp only [InBlock, Then]) | (refine Tri.exit ?_; simp only [Then, InBlock, if_true, if_false, ↓reduceIte, Nat.reduceEqDiff]) | refine Tri.seq (Tri.block ?_) | refine Tri.block ?_ | refine Tri.seq ?_ | (refine Tri.ret ?_; refine Con.fin (.inl rfl) (by simp only [Tryd.f51, cfgA, resA, resA1, go_sem]; rfl) (by simp only [Obs, and_true, true_and]) ?_ trivial rfl rfl; skip))
            all_goals
              refine ⟨(), True.intro, Wk.of ?_ True.intro rfl rfl⟩
              simp only [lessTs, List.reduceReplicate, List.cons_append, List.nil_append]
              simp [plS, *]
          · intro _ _
            cases hc : plS c with
            | true =>
              refine Tri.at (by first | (simp only [go_sem]; rfl) | rfl) ?_
              repeat (first | ((first | refine Tri.seq (Tri.regT (cfgA_ok.pins _) ?_) | refine Tri.rgnT (cfgA_ok.pins _) ?_); (repeat (first | refine RunT.oneA (hp := by simp (maxSteps := 2000000) (disch := first | decide | omega | (simp only [List.length_append, List.length_cons, List.length_nil, List.length_take, List.length_drop]; omega)) only [go_sem]; rfl) (h := ?_) | refine RunT.notA (h := ?_))); refine RunT.nil ?_; try simp only [Then]) | refine Tri.cF (by first | (simp only [go_sem]; done) | fail) ?_ | refine Tri.cT (by first | (simp only [go_sem]; done) | fail) ?_ | (refine Tri.skip ?_; try simp only [InBlock, Then]) | (refine Tri.exit ?_; simp only [Then, InBlock, if_true, if_false, ↓reduceIte, Nat.reduceEqDiff]) | refine Tri.seq (Tri.block ?_) | refine Tri.block ?_ | refine Tri.seq ?_ | (refine Tri.ret ?_; refine Con.fin (.inl rfl) (by simp only [Tryd.f51, cfgA, resA, resA1, go_sem]; rfl) (by simp only [Obs, and_true, true_and]) (by first | (simp only [kPart, Con.of, Con.ofO, resV, hc, go_sem]; done) | fail) trivial rfl rfl))
              refine ⟨i + 1, ⟨(by omega), (by rw [hat, ha, hc]; rfl)⟩, (by omega), Wk.of ?_ ?_ rfl rfl⟩
              · simp only [lessTs, List.reduceReplicate, List.cons_append, List.nil_append] <;> ((repeat' apply And.intro) <;> first | with_reducible rfl | exact True.intro | exact congrArg (fun z : Int => some (AV.int IntKind.i64 z)) (show (_ : Int) = _ by omega) | exact congrArg (fun z : Nat => some (AV.tsl _ _ _ _ _ z)) (show (_ : Nat) = _ by omega) | exact arrEq (by omega) (by with_reducible rfl))
              · trivial
            | false =>
              have hp0 : prS s = false := by rw [prS, hag hc]; rfl
              refine Tri.at (by first | (simp only [go_sem]; rfl) | rfl) ?_
              repeat (first | ((first | refine Tri.seq (Tri.regT (cfgA_ok.pins _) ?_) | refine Tri.rgnT (cfgA_ok.pins _) ?_); (repeat (first | refine RunT.oneA (hp := by simp (maxSteps := 2000000) (disch := first | decide | omega | (simp only [List.length_append, List.length_cons, List.length_nil, List.length_take, List.length_drop]; omega)) only [go_sem]; rfl) (h := ?_) | refine RunT.notA (h := ?_))); refine RunT.nil ?_; try simp only [InBlock, Then]) | refine Tri.cF (by first | (simp only [go_sem]; done) | fail) ?_ | refine Tri.cT (by first | (simp only [go_sem]; done) | fail) ?_ | (refine Tri.skip ?_; try simp only [InBlock, Then]) | (refine Tri.exit ?_; simp only [Then, InBlock, if_true, if_false, ↓reduceIte, Nat.reduceEqDiff]) | refine Tri.seq (Tri.block ?_) | refine Tri.block ?_ | refine Tri.seq ?_ | (refine Tri.ret ?_; refine Con.fin (.inl rfl) (by simp only [Tryd.f51, cfgA, resA, resA1, go_sem]; rfl) (by simp only [Obs]) (by first | (simp only [kPart, Con.of, resV, hp0, go_sem]; done) | fail) trivial rfl rfl))
        · have h1' : decide ((i : Int) < (s.length : Int)) = false := decide_eq_false (by omega)
          rw [List.take_of_length_le (by omega)] at ha
          have hp0 : prS s = true := by rw [prS, he, ha, hm']; rfl
          refine Tri.at (by first | (simp only [go_sem]; rfl) | rfl) ?_
          repeat (first | ((first | refine Tri.seq (Tri.regT (cfgA_ok.pins _) ?_) | refine Tri.rgnT (cfgA_ok.pins _) ?_); (repeat (first | refine RunT.oneA (hp := by simp (maxSteps := 2000000) (disch := first | decide | omega | (simp only [List.length_append, List.length_cons, List.length_nil, List.length_take, List.length_drop]; omega)) only [h1', go_sem]; rfl) (h := ?_) | refine RunT.notA (h := ?_))); refine RunT.nil ?_; try simp only [InBlock, Then]) | refine Tri.cF (by first | (simp only [go_sem]; done) | fail) ?_ | refine Tri.cT (by first | (simp only [go_sem]; done) | fail) ?_ | (refine Tri.skip ?_; try simp only [InBlock, Then]) | (refine Tri.exit ?_; simp only [Then, InBlock, ↓reduceIte]) | refine Tri.seq (Tri.block ?_) | refine Tri.block ?_ | refine Tri.seq ?_ | (refine Tri.ret ?_; refine Con.fin (.inl rfl) (by simp only [Tryd.f51, cfgA, resA, resA1, go_sem]; rfl) (by simp only [Obs]) (by first | (simp only [kPart, Con.of, resV, hp0, go_sem]; done) | fail) trivial rfl rfl))
theorem partR_sum : FSumOK Tryd.prog cfgA.G 51 kPart.sum := Con.sumOK cfgA_ok kPart Tryd.func51 rfl rfl (Con.of_inv _ _ _) partR_body
end
def rgS (n : nmK.T) : Bool := !decide ((n.1.length : Int) < 1) && (!decide (3 < (n.1.length : Int)) && (prS n.2.1 && n.1.all prS))
def nmB (n : nmK.T) : List Prop := [List.length (α := List UInt8) n.1 ≤ 9223372036854775807, List.length (α := UInt8) n.2.1 ≤ 1000000000, ∀ x ∈ n.1, List.length (α := UInt8) x ≤ 1000000000]
def kRight : Con := Con.ofO [.w nmL] [] (fun x => [List.length (α := List UInt8) x.1.1 ≤ 9223372036854775807, List.length (α := UInt8) x.1.2.1 ≤ 1000000000, ∀ y ∈ x.1.1, List.length (α := UInt8) y ≤ 1000000000]) (fun x => ⟨.bool (rgS x.1), []⟩)
def cfgC1 : Cfg2 := { ty := tyTab, fn := fun | 51 => some kPart.sum | _ => none, G := gNone, pin := [], eq := fun _ => none }
theorem cfgC1_ok : CfgOK Tryd.prog cfgC1 := ⟨tysOK, (fun f s h => by
  simp only [cfgC1] at h
  split at h
  · injection h with h; subst h; exact .inl partR_sum
  · cases h), (fun t d h => by cases h)⟩
theorem lall_take (s : List (List UInt8)) (f : List UInt8 → Bool) (i : Nat) (h : i < s.length) : (s.take (i + 1)).all f = ((s.take i).all f && f (s.getD i [])) := by
  rw [List.take_add_one, List.getElem?_eq_getElem h, List.all_append, List.getD_eq_getElem?_getD, List.getElem?_eq_getElem h]
  simp
theorem lall_get (s : List (List UInt8)) (f : List UInt8 → Bool) (i : Nat) (h : i < s.length) (hf : f (s.getD i []) = false) : s.all f = false := by
  rw [List.all_eq_false]
  refine ⟨s.getD i [], ?_, by rw [hf]; decide⟩
  rw [List.getD_eq_getElem?_getD, List.getElem?_eq_getElem h]
  exact List.getElem_mem h
theorem getD_mem {s : List (List UInt8)} {i : Nat} (h : i < s.length) : s.getD i [] ∈ s := by
  rw [List.getD_eq_getElem?_getD, List.getElem?_eq_getElem h]
  exact List.getElem_mem h
section
attribute [local go_sem] Tryd.f24 kRight kPart cfgC1 tyTab
theorem right_body (p : kRight.Par) (hp : ∀ q ∈ kRight.pre p, q) : BodyOK Tryd.prog cfgC1 Tryd.f24 (Tryd.f24.body.get rfl) kRight p := by
  obtain ⟨⟨(ps : List (List UInt8)), (r : List UInt8), u1⟩, u⟩ := p
  obtain ⟨h0, h1, h2, _⟩ := Obs.of hp
  replace h0 : ps.length ≤ 9223372036854775807 := h0
  replace h1 : r.length ≤ 1000000000 := h1
  replace h2 : ∀ x ∈ ps, List.length x ≤ 1000000000 := h2
  refine ⟨?_, Nat.zero_le _, rfl, rfl⟩
  show Tri _ _ _ (Code.seq _ (Code.seq (Code.seq _ (Code.cond _ (Code.seq _ _) _)) (Code.seq (Code.seq _ (Code.block _ (Code.loop (Code.seq (Code.seq _ (Code.cond _ _ _)) (Code.seq (Code.block _ (Code.seq _ (Code.cond _ (Code.seq _ _) _))) _))))) (Code.seq _ _)))) _
  by_cases hz : ps.length < 1
  · have hz' : decide ((ps.length : Int) < 1) = true := decide_eq_true (by omega)
    have hp0 : rgS (ps, r, u1) = false := by rw [rgS, hz']; rfl
    refine Tri.at (by first | (simp only [Con.start, go_sem]; rfl) | rfl) ?_
    repeat (first | ((first | refine Tri.seq (Tri.regT (cfgC1_ok.pins _) ?_) | refine Tri.rgnT (cfgC1_ok.pins _) ?_); (repeat (first | refine RunT.oneA (hp := by simp (maxSteps := 2000000) (disch := first | decide | omega | (simp only [List.length_append, List.length_cons, List.length_nil, List.length_take, List.length_drop]; omega)) only [hz', go_sem]; rfl) (h := ?_) | refine RunT.notA (h := ?_))); refine RunT.nil ?_; try simp only [InBlock, Then]) | refine Tri.cF (by first | (simp only [go_sem]; done) | fail) ?_ | refine Tri.cT (by first | (simp only [go_sem]; done) | fail) ?_ | (refine Tri.skip ?_; try simp only [InBlock, Then]) | (refine Tri.exit ?_; simp only [Then, InBlock, if_true, if_false, ↓reduceIte, Nat.reduceEqDiff]) | refine Tri.seq (Tri.block ?_) | refine Tri.block ?_ | refine Tri.seq ?_ | (refine Tri.ret ?_; refine Con.fin (.inl rfl) (by simp only [Tryd.f24, cfgC1, resA, resA1, go_sem]; rfl) (by simp only [Obs]) (by first | (simp only [kRight, Con.ofO, resV, hp0, go_sem]; done) | fail) trivial rfl rfl))
  · have hz' : decide ((ps.length : Int) < 1) = false := decide_eq_false (by omega)
    by_cases hm : 3 < ps.length
    · have hm' : decide ((3 : Int) < (ps.length : Int)) = true := decide_eq_true (by omega)
      have hp0 : rgS (ps, r, u1) = false := by rw [rgS, hz', hm']; rfl
      refine Tri.at (by first | (simp only [Con.start, go_sem]; rfl) | rfl) ?_
      repeat (first | ((first | refine Tri.seq (Tri.regT (cfgC1_ok.pins _) ?_) | refine Tri.rgnT (cfgC1_ok.pins _) ?_); (repeat (first | refine RunT.oneA (hp := by simp (maxSteps := 2000000) (disch := first | decide | omega | (simp only [List.length_append, List.length_cons, List.length_nil, List.length_take, List.length_drop]; omega)) only [hz', hm', go_sem]; rfl) (h := ?_) | refine RunT.notA (h := ?_))); refine RunT.nil ?_; try simp only [InBlock, Then]) | refine Tri.cF (by first | (simp only [go_sem]; done) | fail) ?_ | refine Tri.cT (by first | (simp only [go_sem]; done) | fail) ?_ | (refine Tri.skip ?_; try simp only [InBlock, Then]) | (refine Tri.exit ?_; simp only [Then, InBlock, if_true, if_false, ↓reduceIte, Nat.reduceEqDiff]) | refine Tri.seq (Tri.block ?_) | refine Tri.block ?_ | refine Tri.seq ?_ | (refine Tri.ret ?_; refine Con.fin (.inl rfl) (by simp only [Tryd.f24, cfgC1, resA, resA1, go_sem]; rfl) (by simp only [Obs]) (by first | (simp only [kRight, Con.ofO, resV, hp0, go_sem]; done) | fail) trivial rfl rfl))
    · have hm' : decide ((3 : Int) < (ps.length : Int)) = false := decide_eq_false (by omega)
      have hrg : rgS (ps, r, u1) = (prS r && ps.all prS) := by rw [rgS, hz', hm']; rfl
      cases hr : prS r with
      | false =>
        have hp0 : rgS (ps, r, u1) = false := by rw [hrg, hr]; rfl
        refine Tri.at (by first | (simp only [Con.start, go_sem]; rfl) | rfl) ?_
        repeat (first | ((first | refine Tri.seq (Tri.regT (cfgC1_ok.pins _) ?_) | refine Tri.rgnT (cfgC1_ok.pins _) ?_); (repeat (first | refine RunT.oneA (hp := by simp (maxSteps := 2000000) (disch := first | decide | omega | (simp only [List.length_append, List.length_cons, List.length_nil, List.length_take, List.length_drop]; omega)) only [hz', hm', hr, go_sem]; rfl) (h := ?_) | refine RunT.notA (h := ?_))); refine RunT.nil ?_; try simp only [InBlock, Then]) | refine Tri.cF (by first | (simp only [go_sem]; done) | fail) ?_ | refine Tri.cT (by first | (simp only [go_sem]; done) | fail) ?_ | (refine Tri.skip ?_; try simp only [InBlock, Then]) | (refine Tri.exit ?_; simp only [Then, InBlock, if_true, if_false, ↓reduceIte, Nat.reduceEqDiff]) | refine Tri.seq (Tri.block ?_) | refine Tri.block ?_ | refine Tri.seq ?_ | (refine Tri.ret ?_; refine Con.fin (.inl rfl) (by simp only [Tryd.f24, cfgC1, resA, resA1, go_sem]; rfl) (by simp only [Obs]) (by first | (simp only [kRight, Con.ofO, resV, hp0, go_sem]; done) | fail) trivial rfl rfl))
      | true =>
        rw [hr, Bool.true_and] at hrg
        refine Tri.at (by first | (simp only [Con.start, go_sem]; rfl) | rfl) ?_
        repeat (first | ((first | refine Tri.seq (Tri.regT (cfgC1_ok.pins _) ?_) | refine Tri.rgnT (cfgC1_ok.pins _) ?_); (repeat (first | refine RunT.oneA (hp := by simp (maxSteps := 2000000) (disch := first | decide | omega | (simp only [List.length_append, List.length_cons, List.length_nil, List.length_take, List.length_drop]; omega)) only [hz', hm', hr, go_sem]; rfl) (h := ?_) | refine RunT.notA (h := ?_))); refine RunT.nil ?_; try simp only [InBlock, Then]) | refine Tri.cF (by first | (simp only [go_sem]; done) | fail) ?_ | refine Tri.cT (by first | (simp only [go_sem]; done) | fail) ?_ | (refine Tri.skip ?_; try simp only [Then]) | (refine Tri.exit ?_; simp only [Then, InBlock, if_true, if_false, ↓reduceIte, Nat.reduceEqDiff]) | refine Tri.seq (Tri.block ?_) | refine Tri.block ?_ | refine Tri.seq ?_ | (refine Tri.ret ?_; refine Con.fin (.inl rfl) (by simp only [Tryd.f24, cfgC1, resA, resA1, go_sem]; rfl) (by simp only [Obs, and_true, true_and]) (by first | (simp only [kRight, Con.of, Con.ofO, resV, hz', hm', hr, go_sem]; done) | fail) trivial rfl rfl))
        refine Tri.loop (fun i : Nat => (⟨[none, some (.ptr 0 [] 0), none, some (.int .i64 (i : Int))] ++ List.replicate 30 none, [.live (.pure nmL (ps, r, u1))]⟩ : AS)) (fun i => i ≤ ps.length ∧ (ps.take i).all prS = true) (fun i => ps.length - i) 0 ?_ ⟨Nat.zero_le _, rfl⟩ ?_
        · refine Wk.of ?_ ?_ rfl rfl
          · simp only [lessTs, List.reduceReplicate, List.cons_append, List.nil_append] <;> ((repeat' apply And.intro) <;> first | with_reducible rfl | exact True.intro | exact congrArg (fun z : Int => some (AV.int IntKind.i64 z)) (show (_ : Int) = _ by omega) | exact congrArg (fun z : Nat => some (AV.tsl _ _ _ _ _ z)) (show (_ : Nat) = _ by omega) | exact arrEq (by omega) (by with_reducible rfl))
          · simp only [lessHs] <;> ((repeat' apply And.intro) <;> first | with_reducible rfl | exact True.intro | exact congrArg (fun z : Int => some (AV.int IntKind.i64 z)) (show (_ : Int) = _ by omega) | exact congrArg (fun z : Nat => some (AV.tsl _ _ _ _ _ z)) (show (_ : Nat) = _ by omega) | exact arrEq (by omega) (by with_reducible rfl))
        · intro i ⟨hi, ha⟩
          by_cases h3 : i < ps.length
          · have h3' : decide ((i : Int) < (ps.length : Int)) = true := decide_eq_true (by omega)
            have hat := lall_take ps prS i h3
            have hag := lall_get ps prS i h3
            have hln := h2 _ (getD_mem h3)
            cases hc : prS (ps.getD i []) with
            | true =>
              refine Tri.at (by first | (simp only [go_sem]; rfl) | rfl) ?_
              repeat (first | ((first | refine Tri.seq (Tri.regT (cfgC1_ok.pins _) ?_) | refine Tri.rgnT (cfgC1_ok.pins _) ?_); (repeat (first | refine RunT.oneA (hp := by simp (maxSteps := 2000000) (disch := first | decide | omega | (simp only [List.length_append, List.length_cons, List.length_nil, List.length_take, List.length_drop]; omega)) only [h3', hc, go_sem]; rfl) (h := ?_) | refine RunT.notA (h := ?_))); refine RunT.nil ?_; try simp only [Then]) | refine Tri.cF (by first | (simp only [go_sem]; done) | fail) ?_ | refine Tri.cT (by first | (simp only [go_sem]; done) | fail) ?_ | (refine Tri.skip ?_; try simp only [InBlock, Then]) | (refine Tri.exit ?_; simp only [Then, InBlock, if_true, if_false, ↓reduceIte, Nat.reduceEqDiff]) | refine Tri.seq (Tri.block ?_) | refine Tri.block ?_ | refine Tri.seq ?_ | (refine Tri.ret ?_; refine Con.fin (.inl rfl) (by simp only [Tryd.f24, cfgC1, resA, resA1, go_sem]; rfl) (by simp only [Obs, and_true, true_and]) (by first | (simp only [kRight, Con.of, Con.ofO, resV, h3', hc, go_sem]; done) | fail) trivial rfl rfl))
              refine ⟨i + 1, ⟨(by omega), (by rw [hat, ha, hc]; rfl)⟩, (by omega), Wk.of ?_ ?_ rfl rfl⟩
              · simp only [lessTs, List.reduceReplicate, List.cons_append, List.nil_append] <;> ((repeat' apply And.intro) <;> first | with_reducible rfl | exact True.intro | exact congrArg (fun z : Int => some (AV.int IntKind.i64 z)) (show (_ : Int) = _ by omega) | exact congrArg (fun z : Nat => some (AV.tsl _ _ _ _ _ z)) (show (_ : Nat) = _ by omega) | exact arrEq (by omega) (by with_reducible rfl))
              · exact ⟨rfl, trivial⟩
            | false =>
              have hp0 : rgS (ps, r, u1) = false := by rw [hrg, hag hc]
              refine Tri.at (by first | (simp only [go_sem]; rfl) | rfl) ?_
              repeat (first | ((first | refine Tri.seq (Tri.regT (cfgC1_ok.pins _) ?_) | refine Tri.rgnT (cfgC1_ok.pins _) ?_); (repeat (first | refine RunT.oneA (hp := by simp (maxSteps := 2000000) (disch := first | decide | omega | (simp only [List.length_append, List.length_cons, List.length_nil, List.length_take, List.length_drop]; omega)) only [h3', hc, go_sem]; rfl) (h := ?_) | refine RunT.notA (h := ?_))); refine RunT.nil ?_; try simp only [InBlock, Then]) | refine Tri.cF (by first | (simp only [go_sem]; done) | fail) ?_ | refine Tri.cT (by first | (simp only [go_sem]; done) | fail) ?_ | (refine Tri.skip ?_; try simp only [Then]) | (refine Tri.exit ?_; simp only [Then, InBlock, if_true, if_false, ↓reduceIte, Nat.reduceEqDiff]) | refine Tri.seq (Tri.block ?_) | refine Tri.block ?_ | refine Tri.seq ?_ | (refine Tri.ret ?_; refine Con.fin (.inl rfl) (by simp only [Tryd.f24, cfgC1, resA, resA1, go_sem]; rfl) (by simp only [Obs]) (by first | (simp only [kRight, Con.ofO, resV, hp0, go_sem]; done) | fail) trivial rfl rfl))
          · have h3' : decide ((i : Int) < (ps.length : Int)) = false := decide_eq_false (by omega)
            rw [List.take_of_length_le (by omega)] at ha
            have hp0 : rgS (ps, r, u1) = true := by rw [hrg, ha]
            refine Tri.at (by first | (simp only [go_sem]; rfl) | rfl) ?_
            repeat (first | ((first | refine Tri.seq (Tri.regT (cfgC1_ok.pins _) ?_) | refine Tri.rgnT (cfgC1_ok.pins _) ?_); (repeat (first | refine RunT.oneA (hp := by simp (maxSteps := 2000000) (disch := first | decide | omega | (simp only [List.length_append, List.length_cons, List.length_nil, List.length_take, List.length_drop]; omega)) only [h3', go_sem]; rfl) (h := ?_) | refine RunT.notA (h := ?_))); refine RunT.nil ?_; try simp only [InBlock, Then]) | refine Tri.cF (by first | (simp only [go_sem]; done) | fail) ?_ | refine Tri.cT (by first | (simp only [go_sem]; done) | fail) ?_ | (refine Tri.skip ?_; try simp only [InBlock, Then]) | (refine Tri.exit ?_; simp only [Then, InBlock, ↓reduceIte]) | refine Tri.seq (Tri.block ?_) | refine Tri.block ?_ | refine Tri.seq ?_ | (refine Tri.ret ?_; refine Con.fin (.inl rfl) (by simp only [Tryd.f24, cfgC1, resA, resA1, go_sem]; rfl) (by simp only [Obs]) (by first | (simp only [kRight, Con.ofO, resV, hp0, go_sem]; done) | fail) trivial rfl rfl))
theorem right_sum : FSumOK Tryd.prog cfgC1.G 24 kRight.sum := Con.sumOK cfgC1_ok kRight Tryd.func24 rfl rfl (Con.ofO_inv _ _ _ _) right_body
end
end Go.Proofs.YtjdeaphfamenaaaDoor

namespace Go.Proofs.YtjdeaphfamenaaaDoor
open Go.Vc Go.Proofs
set_option maxRecDepth 10000
set_option maxHeartbeats 4000000
theorem idx_ok : ESumOK Tryd.prog gNone 117 xIdxB.sum := idxB_ok Tryd.func117 (by kernel_rfl) (by kernel_rfl) (by kernel_rfl) (by kernel_rfl)
theorem cnt_ok : ESumOK Tryd.prog gNone 116 xCntB.sum := cntB_ok Tryd.func116 (by kernel_rfl) (by kernel_rfl) (by kernel_rfl) (by kernel_rfl)
theorem idx_range (s : List UInt8) (c : UInt8) : -1 ≤ Lib.indexByte s c ∧ Lib.indexByte s c < (s.length : Int) := by
  refine ⟨Lib.indexByte_ge s c, ?_⟩
  induction s with
  | nil => show (-1 : Int) < 0; decide
  | cons b l ih =>
    unfold Lib.indexByte
    rw [List.length_cons]
    split
    · omega
    · split
      · omega
      · omega
def cfgD1 : Cfg2 := { ty := tyTab, fn := fun | 117 => some xIdxB.sum | 116 => some xCntB.sum | _ => none, G := gNone, pin := [], eq := fun _ => none }
theorem cfgD1_ok : CfgOK Tryd.prog cfgD1 := ⟨tysOK, (fun f s h => by
  simp only [cfgD1] at h
  split at h
  · injection h with h; subst h; exact .inr idx_ok
  · injection h with h; subst h; exact .inr cnt_ok
  · cases h), (fun t d h => by cases h)⟩
def kIdx : Con := Con.of [.v .str, .v (.int .u8)] (fun _ => []) (fun x => ⟨.int .i64 (Lib.indexByte x.1 x.2.1), []⟩)
section
attribute [local go_sem] Tryd.f110 kIdx cfgD1 tyTab
theorem idx_body (p : kIdx.Par) (hp : ∀ q ∈ kIdx.pre p, q) : BodyOK Tryd.prog cfgD1 Tryd.f110 (Tryd.f110.body.get rfl) kIdx p := by
  obtain ⟨(s : List UInt8), (c : UInt8), u⟩ := p
  refine ⟨?_, Nat.zero_le _, rfl, rfl⟩
  show Tri _ _ _ (Code.seq _ (Code.seq _ _)) _
  refine Tri.at (by first | (simp only [go_sem, Con.start, go_sem]; rfl) | rfl) ?_
  repeat (first | ((first | refine Tri.seq (Tri.regT (cfgD1_ok.pins _) ?_) | refine Tri.rgnT (cfgD1_ok.pins _) ?_); (repeat (first | refine RunT.oneA (hp := by simp (maxSteps := 2000000) (disch := first | decide | omega | (simp only [List.length_append, List.length_cons, List.length_nil, List.length_take, List.length_drop]; omega)) only [go_sem, go_sem]; rfl) (h := ?_) | refine RunT.notA (h := ?_))); refine RunT.nil ?_; try simp only [InBlock, Then]) | refine Tri.cF (by first | (simp only [go_sem, go_sem]; done) | fail) ?_ | refine Tri.cT (by first | (simp only [go_sem, go_sem]; done) | fail) ?_ | (refine Tri.skip ?_; try simp only [InBlock, Then]) | (refine Tri.exit ?_; simp only [Then, InBlock, if_true, if_false, ↓reduceIte, Nat.reduceEqDiff]) | refine Tri.seq (Tri.block ?_) | refine Tri.block ?_ | refine Tri.seq ?_ | (refine Tri.ret ?_; refine Con.fin (.inl rfl) (by simp only [Tryd.f110, cfgD1, resA, resA1, go_sem]; rfl) (by simp only [Obs]) (by first | (simp only [kIdx, Con.of, resV, go_sem, go_sem]; done) | fail) trivial rfl rfl))
theorem idx_sum : FSumOK Tryd.prog cfgD1.G 110 kIdx.sum := Con.sumOK cfgD1_ok kIdx Tryd.func110 rfl rfl (Con.of_inv _ _ _) idx_body
end
def kIx : Con := Con.of [.v .str, .v .str] (fun x => [List.length (α := UInt8) x.2.1 = 1]) (fun x => ⟨.int .i64 (Lib.indexByte x.1 (List.getD (α := UInt8) x.2.1 0 0)), []⟩)
def cfgD2 : Cfg2 := { ty := tyTab, fn := fun | 110 => some kIdx.sum | _ => none, G := gNone, pin := [], eq := fun _ => none }
theorem cfgD2_ok : CfgOK Tryd.prog cfgD2 := ⟨tysOK, (fun f s h => by
  simp only [cfgD2] at h
  split at h
  · injection h with h; subst h; exact .inl idx_sum
  · cases h), (fun t d h => by cases h)⟩
section
attribute [local go_sem] Tryd.f99 kIx kIdx cfgD2 tyTab
theorem ix_body (p : kIx.Par) (hp : ∀ q ∈ kIx.pre p, q) : BodyOK Tryd.prog cfgD2 Tryd.f99 (Tryd.f99.body.get rfl) kIx p := by
  obtain ⟨(s : List UInt8), (t : List UInt8), u⟩ := p
  obtain ⟨h0, _⟩ := Obs.of hp
  replace h0 : t.length = 1 := h0
  refine ⟨?_, Nat.zero_le _, rfl, rfl⟩
  show Tri _ _ _ (Code.seq _ (Code.seq _ (Code.seq (Code.block _ (Code.seq _ (Code.cond _ (Code.seq _ _) (Code.seq _ (Code.cond _ (Code.seq _ _) (Code.seq _ (Code.cond _ (Code.seq _ _) (Code.seq _ (Code.cond _ (Code.seq _ _) _))))))))) (Code.seq _ (Code.seq _ (Code.seq _ (Code.seq _ (Code.seq _ (Code.seq (Code.block _ (Code.loop (Code.seq (Code.seq _ (Code.cond _ _ _)) (Code.block _ (Code.seq (Code.seq _ (Code.cond _ (Code.seq _ (Code.seq (Code.seq _ (Code.cond _ (Code.seq _ _) _)) _)) _)) (Code.seq (Code.seq _ (Code.cond _ (Code.seq _ _) _)) (Code.seq _ (Code.seq _ (Code.seq _ (Code.cond _ (Code.seq _ (Code.seq (Code.seq _ (Code.cond _ (Code.seq _ _) _)) (Code.seq _ _))) (Code.seq _ (Code.cond _ (Code.seq _ (Code.seq (Code.seq _ (Code.cond _ (Code.seq _ _) _)) (Code.seq _ _))) _)))))))))))) (Code.seq _ _)))))))))) _
  cases he : strEq t s with
  | true =>
    have e1 : t = s := of_decide_eq_true he
    have e2 : Lib.indexByte s (t.getD 0 0) = 0 := by
      subst e1
      match t, h0 with
      | [c], _ => simp [Lib.indexByte]
    refine Tri.at (by first | (simp only [Con.start, go_sem]; rfl) | rfl) ?_
    repeat (first | ((first | refine Tri.seq (Tri.regT (cfgD2_ok.pins _) ?_) | refine Tri.rgnT (cfgD2_ok.pins _) ?_); (repeat (first | refine RunT.oneA (hp := by simp (maxSteps := 2000000) (disch := first | decide | omega | (simp only [List.length_append, List.length_cons, List.length_nil, List.length_take, List.length_drop]; omega)) only [h0, he, Int.natCast_one, go_sem]; rfl) (h := ?_) | refine RunT.notA (h := ?_))); refine RunT.nil ?_; try simp only [InBlock, Then]) | refine Tri.cF (by first | (simp only [go_sem]; done) | fail) ?_ | refine Tri.cT (by first | (simp only [go_sem]; done) | fail) ?_ | (refine Tri.skip ?_; try simp only [InBlock, Then]) | (refine Tri.exit ?_; simp only [Then, InBlock, if_true, if_false, ↓reduceIte, Nat.reduceEqDiff]) | refine Tri.seq (Tri.block ?_) | refine Tri.block ?_ | refine Tri.seq ?_ | (refine Tri.ret ?_; refine Con.fin (.inl rfl) (by simp only [Tryd.f99, cfgD2, resA, resA1, go_sem]; rfl) (by simp only [Obs]) (by first | (simp only [kIx, Con.of, resV, e2, go_sem]; done) | fail) trivial rfl rfl))
  | false =>
    refine Tri.at (by first | (simp only [Con.start, go_sem]; rfl) | rfl) ?_
    repeat (first | ((first | refine Tri.seq (Tri.regT (cfgD2_ok.pins _) ?_) | refine Tri.rgnT (cfgD2_ok.pins _) ?_); (repeat (first | refine RunT.oneA (hp := by simp (maxSteps := 2000000) (disch := first | decide | omega | (simp only [List.length_append, List.length_cons, List.length_nil, List.length_take, List.length_drop]; omega)) only [h0, he, Int.natCast_one, go_sem]; rfl) (h := ?_) | refine RunT.notA (h := ?_))); refine RunT.nil ?_; try simp only [InBlock, Then]) | refine Tri.cF (by first | (simp only [go_sem]; done) | fail) ?_ | refine Tri.cT (by first | (simp only [go_sem]; done) | fail) ?_ | (refine Tri.skip ?_; try simp only [InBlock, Then]) | (refine Tri.exit ?_; simp only [Then, InBlock, if_true, if_false, ↓reduceIte, Nat.reduceEqDiff]) | refine Tri.seq (Tri.block ?_) | refine Tri.block ?_ | refine Tri.seq ?_ | (refine Tri.ret ?_; refine Con.fin (.inl rfl) (by simp only [Tryd.f99, cfgD2, resA, resA1, go_sem]; rfl) (by simp only [Obs]) (by first | (simp only [kIx, Con.of, resV, go_sem]; done) | fail) trivial rfl rfl))
theorem ix_sum : FSumOK Tryd.prog cfgD2.G 99 kIx.sum := Con.sumOK cfgD2_ok kIx Tryd.func99 rfl rfl (Con.of_inv _ _ _) ix_body
end
def cfgD3 : Cfg2 := { ty := tyTab, fn := fun | 99 => some kIx.sum | 116 => some xCntB.sum | _ => none, G := gNone, pin := [], eq := fun _ => none }
theorem cfgD3_ok : CfgOK Tryd.prog cfgD3 := ⟨tysOK, (fun f s h => by
  simp only [cfgD3] at h
  split at h
  · injection h with h; subst h; exact .inl ix_sum
  · injection h with h; subst h; exact .inr cnt_ok
  · cases h), (fun t d h => by cases h)⟩
section
attribute [local go_sem] Tryd.f102 kIx cfgD3 tyTab
theorem ix2_body (p : kIx.Par) (hp : ∀ q ∈ kIx.pre p, q) : BodyOK Tryd.prog cfgD3 Tryd.f102 (Tryd.f102.body.get rfl) kIx p := by
  obtain ⟨(s : List UInt8), (t : List UInt8), u⟩ := p
  obtain ⟨h0, _⟩ := Obs.of hp
  replace h0 : t.length = 1 := h0
  refine ⟨?_, Nat.zero_le _, rfl, rfl⟩
  show Tri _ _ _ (Code.seq _ (Code.seq _ _)) _
  refine Tri.at (by first | (simp only [go_sem, Con.start, go_sem]; rfl) | rfl) ?_
  repeat (first | ((first | refine Tri.seq (Tri.regT (cfgD3_ok.pins _) ?_) | refine Tri.rgnT (cfgD3_ok.pins _) ?_); (repeat (first | refine RunT.oneA (hp := by simp (maxSteps := 2000000) (disch := first | decide | omega | (simp only [List.length_append, List.length_cons, List.length_nil, List.length_take, List.length_drop]; omega)) only [go_sem, go_sem]; rfl) (h := ?_) | refine RunT.notA (h := ?_))); refine RunT.nil ?_; try simp only [InBlock, Then]) | refine Tri.cF (by first | (simp only [go_sem, go_sem]; done) | fail) ?_ | refine Tri.cT (by first | (simp only [go_sem, go_sem]; done) | fail) ?_ | (refine Tri.skip ?_; try simp only [InBlock, Then]) | (refine Tri.exit ?_; simp only [Then, InBlock, if_true, if_false, ↓reduceIte, Nat.reduceEqDiff]) | refine Tri.seq (Tri.block ?_) | refine Tri.block ?_ | refine Tri.seq ?_ | (refine Tri.ret ?_; refine Con.fin (.inl rfl) (by simp only [Tryd.f102, cfgD3, resA, resA1, go_sem]; rfl) (by simp only [Obs]) (by first | (simp only [kIx, Con.of, resV, go_sem, go_sem]; done) | fail) trivial rfl rfl))
theorem ix2_sum : FSumOK Tryd.prog cfgD3.G 102 kIx.sum := Con.sumOK cfgD3_ok kIx Tryd.func102 rfl rfl (Con.of_inv _ _ _) ix2_body
end
def kCnt : Con := Con.of [.v .str, .v .str] (fun x => [List.length (α := UInt8) x.2.1 = 1]) (fun x => ⟨.int .i64 ((Lib.countByte x.1 (List.getD (α := UInt8) x.2.1 0 0) : Nat) : Int), []⟩)
section
attribute [local go_sem] Tryd.f101 kCnt cfgD3 tyTab
theorem cntS_body (p : kCnt.Par) (hp : ∀ q ∈ kCnt.pre p, q) : BodyOK Tryd.prog cfgD3 Tryd.f101 (Tryd.f101.body.get rfl) kCnt p := by
  obtain ⟨(s : List UInt8), (t : List UInt8), u⟩ := p
  obtain ⟨h0, _⟩ := Obs.of hp
  replace h0 : t.length = 1 := h0
  refine ⟨?_, Nat.zero_le _, rfl, rfl⟩
  show Tri _ _ _ (Code.seq _ (Code.seq (Code.seq _ (Code.cond _ (Code.seq _ _) _)) (Code.seq (Code.seq _ (Code.cond _ (Code.seq _ _) _)) (Code.seq _ (Code.block _ (Code.loop (Code.block _ (Code.seq _ (Code.seq (Code.seq _ (Code.cond _ (Code.seq _ _) _)) (Code.seq _ _)))))))))) _
  refine Tri.at (by first | (simp only [Con.start, go_sem]; rfl) | rfl) ?_
  repeat (first | ((first | refine Tri.seq (Tri.regT (cfgD3_ok.pins _) ?_) | refine Tri.rgnT (cfgD3_ok.pins _) ?_); (repeat (first | refine RunT.oneA (hp := by simp (maxSteps := 2000000) (disch := first | decide | omega | (simp only [List.length_append, List.length_cons, List.length_nil, List.length_take, List.length_drop]; omega)) only [h0, Int.natCast_one, go_sem]; rfl) (h := ?_) | refine RunT.notA (h := ?_))); refine RunT.nil ?_; try simp only [InBlock, Then]) | refine Tri.cF (by first | (simp only [go_sem]; done) | fail) ?_ | refine Tri.cT (by first | (simp only [go_sem]; done) | fail) ?_ | (refine Tri.skip ?_; try simp only [Then]) | (refine Tri.exit ?_; simp only [Then, InBlock, if_true, if_false, ↓reduceIte, Nat.reduceEqDiff]) | refine Tri.seq (Tri.block ?_) | refine Tri.block ?_ | refine Tri.seq ?_ | (refine Tri.ret ?_; refine Con.fin (.inl rfl) (by simp only [Tryd.f101, cfgD3, resA, resA1, go_sem]; rfl) (by simp only [Obs]) (by first | (simp only [kCnt, Con.of, resV, go_sem]; done) | fail) trivial rfl rfl))
theorem cntS_sum : FSumOK Tryd.prog cfgD3.G 101 kCnt.sum := Con.sumOK cfgD3_ok kCnt Tryd.func101 rfl rfl (Con.of_inv _ _ _) cntS_body
end
def cutA (s : List UInt8) (c : UInt8) : List UInt8 := if Lib.indexByte s c < 0 then s else List.take (Lib.indexByte s c).toNat s
def cutR (s : List UInt8) (c : UInt8) : List UInt8 := if Lib.indexByte s c < 0 then [] else List.drop ((Lib.indexByte s c).toNat + 1) s
def cutT (s : List UInt8) (c : UInt8) : Bool := !decide (Lib.indexByte s c < 0)
def kCut : Con := Con.of [.v .str, .v .str] (fun x => [List.length (α := UInt8) x.2.1 = 1, List.length (α := UInt8) x.1 ≤ 1000000000])
  (fun x => ⟨.tuple [.str (cutA x.1 (List.getD (α := UInt8) x.2.1 0 0)), .str (cutR x.1 (List.getD (α := UInt8) x.2.1 0 0)), .bool (cutT x.1 (List.getD (α := UInt8) x.2.1 0 0))], []⟩)
section
attribute [local go_sem] Tryd.f85 kCut kIx cfgD3 tyTab
theorem cut_body (p : kCut.Par) (hp : ∀ q ∈ kCut.pre p, q) : BodyOK Tryd.prog cfgD3 Tryd.f85 (Tryd.f85.body.get rfl) kCut p := by
  obtain ⟨(s : List UInt8), (t : List UInt8), u⟩ := p
  obtain ⟨h0, h1, _⟩ := Obs.of hp
  replace h0 : t.length = 1 := h0
  replace h1 : s.length ≤ 1000000000 := h1
  refine ⟨?_, Nat.zero_le _, rfl, rfl⟩
  show Tri _ _ _ (Code.seq _ (Code.seq (Code.seq _ (Code.seq _ (Code.cond _ (Code.seq _ _) _))) (Code.seq _ _))) _
  obtain ⟨hr1, hr2⟩ := idx_range s (t.getD 0 0)
  by_cases hn : Lib.indexByte s (t.getD 0 0) < 0
  · have hn' : decide (Lib.indexByte s (t.getD 0 0) < 0) = true := decide_eq_true hn
    have e1 : cutA s (t.getD 0 0) = s := if_pos hn
    have e2 : cutR s (t.getD 0 0) = [] := if_pos hn
    have e3 : cutT s (t.getD 0 0) = false := by rw [cutT, hn']; rfl
    refine Tri.at (by first | (simp only [Con.start, go_sem]; rfl) | rfl) ?_
    repeat (first | ((first | refine Tri.seq (Tri.regT (cfgD3_ok.pins _) ?_) | refine Tri.rgnT (cfgD3_ok.pins _) ?_); (repeat (first | refine RunT.oneA (hp := by simp (maxSteps := 2000000) (disch := first | decide | omega | (simp only [List.length_append, List.length_cons, List.length_nil, List.length_take, List.length_drop]; omega)) only [h0, hn', go_sem]; rfl) (h := ?_) | refine RunT.notA (h := ?_))); refine RunT.nil ?_; try simp only [InBlock, Then]) | ((first | refine Tri.seq (Tri.drwT (mixed) (cfgD3_ok.pins _) ?_) | refine Tri.drnT (mixed) (cfgD3_ok.pins _) ?_); (repeat (first | refine RunD.oneA (hp := by simp (maxSteps := 2000000) (disch := first | decide | omega | (simp only [List.length_append, List.length_cons, List.length_nil, List.length_take, List.length_drop]; omega)) only [h0, hn', e1, e2, e3, Int.natCast_one, go_sem]; rfl) (h := ?_) | refine RunD.notA (h := ?_))); refine RunD.nil ?_; refine ⟨by kernel_rfl, ?_⟩; try simp only [InBlock, Then]) | refine Tri.cF (by first | (simp only [go_sem]; done) | fail) ?_ | refine Tri.cT (by first | (simp only [go_sem]; done) | fail) ?_ | (refine Tri.skip ?_; try simp only [Then]) | (refine Tri.exit ?_; simp only [Then, InBlock, if_true, if_false, ↓reduceIte, Nat.reduceEqDiff]) | refine Tri.seq (Tri.block ?_) | refine Tri.block ?_ | refine Tri.seq ?_ | (refine Tri.ret ?_; refine Con.fin (.inl rfl) (by simp only [Tryd.f85, cfgD3, resA, resA1, go_sem]; rfl) (by simp only [Obs]) (by first | (simp only [kCut, Con.of, resV, e1, e2, e3, go_sem]; done) | fail) trivial rfl rfl))
  · obtain ⟨m, hm⟩ : ∃ m : Nat, Lib.indexByte s (t.getD 0 0) = (m : Int) := ⟨(Lib.indexByte s (t.getD 0 0)).toNat, by omega⟩
    have hml : m < s.length := by omega
    have hn' : decide ((m : Int) < 0) = false := decide_eq_false (by omega)
    have e1 : cutA s (t.getD 0 0) = List.take m s := by rw [cutA, if_neg hn, hm, Int.toNat_natCast]
    have e2 : cutR s (t.getD 0 0) = List.drop (m + 1) s := by rw [cutR, if_neg hn, hm, Int.toNat_natCast]
    have e3 : cutT s (t.getD 0 0) = true := by rw [cutT, hm, hn']; rfl
    refine Tri.at (by first | (simp only [Con.start, go_sem]; rfl) | rfl) ?_
    repeat (first | ((first | refine Tri.seq (Tri.regT (cfgD3_ok.pins _) ?_) | refine Tri.rgnT (cfgD3_ok.pins _) ?_); (repeat (first | refine RunT.oneA (hp := by simp (maxSteps := 2000000) (disch := first | decide | omega | (simp only [List.length_append, List.length_cons, List.length_nil, List.length_take, List.length_drop]; omega)) only [h0, hm, hn', Nat.sub_zero, go_sem]; rfl) (h := ?_) | refine RunT.notA (h := ?_))); refine RunT.nil ?_; try simp only [InBlock, Then]) | ((first | refine Tri.seq (Tri.drwT (mixed) (cfgD3_ok.pins _) ?_) | refine Tri.drnT (mixed) (cfgD3_ok.pins _) ?_); (repeat (first | refine RunD.oneA (hp := by simp (maxSteps := 2000000) (disch := first | decide | omega | (simp only [List.length_append, List.length_cons, List.length_nil, List.length_take, List.length_drop]; omega)) only [h0, Int.natCast_one, Nat.sub_zero, List.take_of_length_le, go_sem]; rfl) (h := ?_) | refine RunD.notA (h := ?_))); refine RunD.nil ?_; refine ⟨by kernel_rfl, ?_⟩; try simp only [InBlock, Then]) | refine Tri.cF (by first | (simp only [go_sem]; done) | fail) ?_ | refine Tri.cT (by first | (simp only [go_sem]; done) | fail) ?_ | (refine Tri.skip ?_; try simp only [InBlock, Then]) | (refine Tri.exit ?_; simp only [Then, InBlock, if_true, if_false, ↓reduceIte, Nat.reduceEqDiff]) | refine Tri.seq (Tri.block ?_) | refine Tri.block ?_ | refine Tri.seq ?_ | (refine Tri.ret ?_; refine Con.fin (.inl rfl) (by simp only [Tryd.f85, cfgD3, resA, resA1, go_sem]; rfl) (by simp only [Obs]) (by first | (simp only [kCut, Con.of, resV, e1, e2, e3, go_sem]; done) | fail) trivial rfl rfl))
theorem cut_sum : FSumOK Tryd.prog cfgD3.G 85 kCut.sum := Con.sumOK cfgD3_ok kCut Tryd.func85 rfl rfl (Con.of_inv _ _ _) cut_body
end
def cfgD4 : Cfg2 := { ty := tyTab, fn := fun | 85 => some kCut.sum | _ => none, G := gNone, pin := [], eq := fun _ => none }
theorem cfgD4_ok : CfgOK Tryd.prog cfgD4 := ⟨tysOK, (fun f s h => by
  simp only [cfgD4] at h
  split at h
  · injection h with h; subst h; exact .inl cut_sum
  · cases h), (fun t d h => by cases h)⟩
section
attribute [local go_sem] Tryd.f52 kCut cfgD4 tyTab
theorem cut2_body (p : kCut.Par) (hp : ∀ q ∈ kCut.pre p, q) : BodyOK Tryd.prog cfgD4 Tryd.f52 (Tryd.f52.body.get rfl) kCut p := by
  obtain ⟨(s : List UInt8), (t : List UInt8), u⟩ := p
  obtain ⟨h0, h1, _⟩ := Obs.of hp
  replace h0 : t.length = 1 := h0
  replace h1 : s.length ≤ 1000000000 := h1
  refine ⟨?_, Nat.zero_le _, rfl, rfl⟩
  show Tri _ _ _ (Code.seq _ (Code.seq _ _)) _
  refine Tri.at (by first | (simp only [Con.start, go_sem]; rfl) | rfl) ?_
  repeat (first | ((first | refine Tri.seq (Tri.regT (cfgD4_ok.pins _) ?_) | refine Tri.rgnT (cfgD4_ok.pins _) ?_); (repeat (first | refine RunT.oneA (hp := by simp (maxSteps := 2000000) (disch := first | decide | omega | (simp only [List.length_append, List.length_cons, List.length_nil, List.length_take, List.length_drop]; omega)) only [h0, go_sem]; rfl) (h := ?_) | refine RunT.notA (h := ?_))); refine RunT.nil ?_; try simp only [InBlock, Then]) | refine Tri.cF (by first | (simp only [go_sem]; done) | fail) ?_ | refine Tri.cT (by first | (simp only [go_sem]; done) | fail) ?_ | (refine Tri.skip ?_; try simp only [InBlock, Then]) | (refine Tri.exit ?_; simp only [Then, InBlock, if_true, if_false, ↓reduceIte, Nat.reduceEqDiff]) | refine Tri.seq (Tri.block ?_) | refine Tri.block ?_ | refine Tri.seq ?_ | (refine Tri.ret ?_; refine Con.fin (.inl rfl) (by simp only [Tryd.f52, cfgD4, resA, resA1, go_sem]; rfl) (by simp only [Obs]) (by first | (simp only [kCut, Con.of, resV, go_sem]; done) | fail) trivial rfl rfl))
theorem cut2_sum : FSumOK Tryd.prog cfgD4.G 52 kCut.sum := Con.sumOK cfgD4_ok kCut Tryd.func52 rfl rfl (Con.of_inv _ _ _) cut2_body
end
end Go.Proofs.YtjdeaphfamenaaaDoor

namespace Go.Proofs.YtjdeaphfamenaaaDoor
open Go.Vc Go.Proofs
set_option maxRecDepth 10000
set_option maxHeartbeats 4000000
def ixW : List (List UInt8) → Int
  | [] => -1
  | x :: r => if prS x = true then (if ixW r < 0 then -1 else ixW r + 1) else 0
theorem ixW_ge : ∀ ps, -1 ≤ ixW ps
  | [] => Int.le_refl _
  | x :: r => by have := ixW_ge r; unfold ixW; split <;> (try split) <;> omega
theorem ixW_at : ∀ (ps : List (List UInt8)) (i : Nat), i < ps.length → (ps.take i).all prS = true → prS (ps.getD i []) = false → ixW ps = i
  | [], i, h, _, _ => by simp at h
  | x :: r, 0, _, _, hx => by
    have hx' : prS x = false := hx
    simp [ixW, hx']
  | x :: r, i + 1, h, ha, hx => by
    simp only [List.take_succ_cons, List.all_cons, Bool.and_eq_true] at ha
    have := ixW_at r i (by simpa using h) ha.2 (by simpa using hx)
    rw [ixW, if_pos ha.1, this, if_neg (by omega)]
    omega
theorem ixW_all : ∀ (ps : List (List UInt8)), ps.all prS = true → ixW ps = -1
  | [], _ => rfl
  | x :: r, h => by
    simp only [List.all_cons, Bool.and_eq_true] at h
    rw [ixW, if_pos h.1, ixW_all r h.2]
    rfl
theorem ixW_neg : ∀ (ps : List (List UInt8)), decide (ixW ps < 0) = ps.all prS
  | [] => rfl
  | x :: r => by
    have h := ixW_neg r
    have hg := ixW_ge r
    rw [List.all_cons, ← h, ixW]
    cases hx : prS x with
    | true =>
      by_cases hr : ixW r < 0
      · simp [hr]
      · have : ¬ ixW r + 1 < 0 := by omega
        simp [hr, this]
    | false => simp
def kIxF : Con := Con.ofO [.a (.v (.slice false .str)), .fv 44] [] (fun x => [List.length (α := List UInt8) x.1 ≤ 9223372036854775807, ∀ y ∈ x.1, List.length (α := UInt8) y ≤ 1000000000]) (fun x => ⟨.int .i64 (ixW x.1), []⟩)
def cfgE1 : Cfg2 := { ty := tyTab, fn := fun | 44 => some kWrong.sum | _ => none, G := gNone, pin := [], eq := fun _ => none }
theorem cfgE1_ok : CfgOK Tryd.prog cfgE1 := ⟨tysOK, (fun f s h => by
  simp only [cfgE1] at h
  split at h
  · injection h with h; subst h; exact .inl wrong_sum
  · cases h), (fun t d h => by cases h)⟩
section
attribute [local go_sem] Tryd.f80 kIxF kWrong cfgE1 tyTab
theorem ixF_body (p : kIxF.Par) (hp : ∀ q ∈ kIxF.pre p, q) : BodyOK Tryd.prog cfgE1 Tryd.f80 (Tryd.f80.body.get rfl) kIxF p := by
  obtain ⟨(ps : List (List UInt8)), (u0 : Unit), u⟩ := p
  obtain ⟨h0, h1, _⟩ := Obs.of hp
  replace h0 : ps.length ≤ 9223372036854775807 := h0
  replace h1 : ∀ y ∈ ps, List.length y ≤ 1000000000 := h1
  refine ⟨?_, Nat.zero_le _, rfl, rfl⟩
  show Tri _ _ _ (Code.seq _ (Code.seq (Code.seq _ (Code.block _ (Code.loop (Code.seq _ (Code.seq (Code.cond _ _ _) (Code.seq (Code.block _ (Code.seq _ (Code.seq _ (Code.cond _ (Code.seq _ _) _)))) _)))))) (Code.seq _ _))) _
  refine Tri.at (by first | (simp only [go_sem, Con.start, go_sem]; rfl) | rfl) ?_
  repeat (first | ((first | refine Tri.seq (Tri.regT (cfgE1_ok.pins _) ?_) | refine Tri.rgnT (cfgE1_ok.pins _) ?_); (repeat (first | refine RunT.oneA (hp := by simp (maxSteps := 2000000) (disch := first | decide | omega | (simp only [List.length_append, List.length_cons, List.length_nil, List.length_take, List.length_drop]; omega)) only [go_sem, go_sem]; rfl) (h := ?_) | refine RunT.notA (h := ?_))); refine RunT.nil ?_; try simp only [InBlock, Then]) | refine Tri.cF (by first | (simp only [go_sem, go_sem]; done) | fail) ?_ | refine Tri.cT (by first | (simp only [go_sem, go_sem]; done) | fail) ?_ | (refine Tri.skip ?_; try simp only [InBlock, Then]) | (refine Tri.exit ?_; simp only [Then, InBlock, if_true, if_false, ↓reduceIte, Nat.reduceEqDiff]) | refine Tri.seq (Tri.block ?_) | refine Tri.block ?_ | refine Tri.seq ?_ | (refine Tri.ret ?_; refine Con.fin (.inl rfl) (by simp only [Tryd.f80, cfgE1, resA, resA1, go_sem]; rfl) (by simp only [Obs, and_true, true_and]) (by first | (simp only [kIxF, Con.of, Con.ofO, resV, go_sem, go_sem]; done) | fail) trivial rfl rfl))
  refine Tri.loop (fun i : Nat => (⟨[some (.pure (.slice false .str) ps), some (.func (.func 44) [] []), none, none, none, none, none, some (.int .i64 (ps.length : Int)), some (.int .i64 (i : Int))] ++ List.replicate 10 none, []⟩ : AS)) (fun i => i ≤ ps.length ∧ (ps.take i).all prS = true) (fun i => ps.length - i) 0 ?_ ⟨Nat.zero_le _, rfl⟩ ?_
  · refine Wk.of ?_ ?_ rfl rfl
    · simp only [lessTs, List.reduceReplicate, List.cons_append, List.nil_append] <;> ((repeat' apply And.intro) <;> first | with_reducible rfl | exact True.intro | exact congrArg (fun z : Int => some (AV.int IntKind.i64 z)) (show (_ : Int) = _ by omega) | exact congrArg (fun z : Nat => some (AV.tsl _ _ _ _ _ z)) (show (_ : Nat) = _ by omega) | exact arrEq (by omega) (by with_reducible rfl))
    · simp only [lessHs] <;> ((repeat' apply And.intro) <;> first | with_reducible rfl | exact True.intro | exact congrArg (fun z : Int => some (AV.int IntKind.i64 z)) (show (_ : Int) = _ by omega) | exact congrArg (fun z : Nat => some (AV.tsl _ _ _ _ _ z)) (show (_ : Nat) = _ by omega) | exact arrEq (by omega) (by with_reducible rfl))
  · intro i ⟨hi, ha⟩
    by_cases h3 : i < ps.length
    · have h3' : decide ((i : Int) < (ps.length : Int)) = true := decide_eq_true (by omega)
      have hat := lall_take ps prS i h3
      have hln := h1 _ (getD_mem h3)
      cases hc : prS (ps.getD i []) with
      | true =>
        refine Tri.at (by first | (simp only [h3', hc, Con.start, go_sem]; rfl) | rfl) ?_
        repeat (first | ((first | refine Tri.seq (Tri.regT (cfgE1_ok.pins _) ?_) | refine Tri.rgnT (cfgE1_ok.pins _) ?_); (repeat (first | refine RunT.oneA (hp := by simp (maxSteps := 2000000) (disch := first | decide | omega | (simp only [List.length_append, List.length_cons, List.length_nil, List.length_take, List.length_drop]; omega)) only [h3', hc, go_sem]; rfl) (h := ?_) | refine RunT.notA (h := ?_))); refine RunT.nil ?_; try simp only [InBlock, Then]) | refine Tri.cF (by first | (simp only [h3', hc, go_sem]; done) | fail) ?_ | refine Tri.cT (by first | (simp only [h3', hc, go_sem]; done) | fail) ?_ | (refine Tri.skip ?_; try simp only [InBlock, Then]) | (refine Tri.exit ?_; simp only [Then, InBlock, if_true, if_false, ↓reduceIte, Nat.reduceEqDiff]) | refine Tri.seq (Tri.block ?_) | refine Tri.block ?_ | refine Tri.seq ?_ | (refine Tri.ret ?_; refine Con.fin (.inl rfl) (by simp only [Tryd.f80, cfgE1, resA, resA1, go_sem]; rfl) (by simp only [Obs, and_true, true_and]) (by first | (simp only [kIxF, Con.of, Con.ofO, resV, h3', hc, go_sem]; done) | fail) trivial rfl rfl))
        refine ⟨i + 1, ⟨(by omega), (by rw [hat, ha, hc]; rfl)⟩, (by omega), Wk.of ?_ ?_ rfl rfl⟩
        · simp only [lessTs, List.reduceReplicate, List.cons_append, List.nil_append] <;> ((repeat' apply And.intro) <;> first | with_reducible rfl | exact True.intro | exact congrArg (fun z : Int => some (AV.int IntKind.i64 z)) (show (_ : Int) = _ by omega) | exact congrArg (fun z : Nat => some (AV.tsl _ _ _ _ _ z)) (show (_ : Nat) = _ by omega) | exact arrEq (by omega) (by with_reducible rfl))
        · trivial
      | false =>
        have e1 : ixW ps = (i : Int) := ixW_at ps i h3 ha hc
        refine Tri.at (by first | (simp only [h3', hc, e1, Con.start, go_sem]; rfl) | rfl) ?_
        repeat (first | ((first | refine Tri.seq (Tri.regT (cfgE1_ok.pins _) ?_) | refine Tri.rgnT (cfgE1_ok.pins _) ?_); (repeat (first | refine RunT.oneA (hp := by simp (maxSteps := 2000000) (disch := first | decide | omega | (simp only [List.length_append, List.length_cons, List.length_nil, List.length_take, List.length_drop]; omega)) only [h3', hc, e1, go_sem]; rfl) (h := ?_) | refine RunT.notA (h := ?_))); refine RunT.nil ?_; try simp only [InBlock, Then]) | refine Tri.cF (by first | (simp only [h3', hc, e1, go_sem]; done) | fail) ?_ | refine Tri.cT (by first | (simp only [h3', hc, e1, go_sem]; done) | fail) ?_ | (refine Tri.skip ?_; try simp only [InBlock, Then]) | (refine Tri.exit ?_; simp only [Then, InBlock, if_true, if_false, ↓reduceIte, Nat.reduceEqDiff]) | refine Tri.seq (Tri.block ?_) | refine Tri.block ?_ | refine Tri.seq ?_ | (refine Tri.ret ?_; refine Con.fin (.inl rfl) (by simp only [Tryd.f80, cfgE1, resA, resA1, go_sem]; rfl) (by simp only [Obs, and_true, true_and]) (by first | (simp only [kIxF, Con.of, Con.ofO, resV, h3', hc, e1, go_sem]; done) | fail) trivial rfl rfl))
    · have h3' : decide ((i : Int) < (ps.length : Int)) = false := decide_eq_false (by omega)
      rw [List.take_of_length_le (by omega)] at ha
      have e1 : ixW ps = -1 := ixW_all ps ha
      refine Tri.at (by first | (simp only [h3', e1, Con.start, go_sem]; rfl) | rfl) ?_
      repeat (first | ((first | refine Tri.seq (Tri.regT (cfgE1_ok.pins _) ?_) | refine Tri.rgnT (cfgE1_ok.pins _) ?_); (repeat (first | refine RunT.oneA (hp := by simp (maxSteps := 2000000) (disch := first | decide | omega | (simp only [List.length_append, List.length_cons, List.length_nil, List.length_take, List.length_drop]; omega)) only [h3', e1, go_sem]; rfl) (h := ?_) | refine RunT.notA (h := ?_))); refine RunT.nil ?_; try simp only [InBlock, Then]) | refine Tri.cF (by first | (simp only [h3', e1, go_sem]; done) | fail) ?_ | refine Tri.cT (by first | (simp only [h3', e1, go_sem]; done) | fail) ?_ | (refine Tri.skip ?_; try simp only [InBlock, Then]) | (refine Tri.exit ?_; simp only [Then, InBlock, if_true, if_false, ↓reduceIte, Nat.reduceEqDiff]) | refine Tri.seq (Tri.block ?_) | refine Tri.block ?_ | refine Tri.seq ?_ | (refine Tri.ret ?_; refine Con.fin (.inl rfl) (by simp only [Tryd.f80, cfgE1, resA, resA1, go_sem]; rfl) (by simp only [Obs, and_true, true_and]) (by first | (simp only [kIxF, Con.of, Con.ofO, resV, h3', e1, go_sem]; done) | fail) trivial rfl rfl))
theorem ixF_sum : FSumOK Tryd.prog cfgE1.G 80 kIxF.sum := Con.sumOK cfgE1_ok kIxF Tryd.func80 rfl rfl (Con.ofO_inv _ _ _ _) ixF_body
end
def kCtF : Con := Con.ofO [.a (.v (.slice false .str)), .fv 44] [] (fun x => [List.length (α := List UInt8) x.1 ≤ 9223372036854775807, ∀ y ∈ x.1, List.length (α := UInt8) y ≤ 1000000000]) (fun x => ⟨.bool (!List.all (α := List UInt8) x.1 prS), []⟩)
def cfgE2 : Cfg2 := { ty := tyTab, fn := fun | 80 => some kIxF.sum | _ => none, G := gNone, pin := [], eq := fun _ => none }
theorem cfgE2_ok : CfgOK Tryd.prog cfgE2 := ⟨tysOK, (fun f s h => by
  simp only [cfgE2] at h
  split at h
  · injection h with h; subst h; exact .inl ixF_sum
  · cases h), (fun t d h => by cases h)⟩
section
attribute [local go_sem] Tryd.f46 kCtF kIxF cfgE2 tyTab
theorem ctF_body (p : kCtF.Par) (hp : ∀ q ∈ kCtF.pre p, q) : BodyOK Tryd.prog cfgE2 Tryd.f46 (Tryd.f46.body.get rfl) kCtF p := by
  obtain ⟨(ps : List (List UInt8)), (u0 : Unit), u⟩ := p
  obtain ⟨h0, h1, _⟩ := Obs.of hp
  replace h0 : ps.length ≤ 9223372036854775807 := h0
  replace h1 : ∀ y ∈ ps, List.length y ≤ 1000000000 := h1
  refine ⟨?_, Nat.zero_le _, rfl, rfl⟩
  show Tri _ _ _ (Code.seq _ (Code.seq _ _)) _
  refine Tri.at (by first | (simp only [ixW_neg, Con.start, go_sem]; rfl) | rfl) ?_
  repeat (first | ((first | refine Tri.seq (Tri.regT (cfgE2_ok.pins _) ?_) | refine Tri.rgnT (cfgE2_ok.pins _) ?_); (repeat (first | refine RunT.oneA (hp := by simp (maxSteps := 2000000) (disch := first | decide | omega | (simp only [List.length_append, List.length_cons, List.length_nil, List.length_take, List.length_drop]; omega)) only [ixW_neg, go_sem]; rfl) (h := ?_) | refine RunT.notA (h := ?_))); refine RunT.nil ?_; try simp only [InBlock, Then]) | refine Tri.cF (by first | (simp only [ixW_neg, go_sem]; done) | fail) ?_ | refine Tri.cT (by first | (simp only [ixW_neg, go_sem]; done) | fail) ?_ | (refine Tri.skip ?_; try simp only [InBlock, Then]) | (refine Tri.exit ?_; simp only [Then, InBlock, if_true, if_false, ↓reduceIte, Nat.reduceEqDiff]) | refine Tri.seq (Tri.block ?_) | refine Tri.block ?_ | refine Tri.seq ?_ | (refine Tri.ret ?_; refine Con.fin (.inl rfl) (by simp only [Tryd.f46, cfgE2, resA, resA1, go_sem]; rfl) (by simp only [Obs, and_true, true_and]) (by first | (simp only [kCtF, Con.of, Con.ofO, resV, ixW_neg, go_sem]; done) | fail) trivial rfl rfl))
theorem ctF_sum : FSumOK Tryd.prog cfgE2.G 46 kCtF.sum := Con.sumOK cfgE2_ok kCtF Tryd.func46 rfl rfl (Con.ofO_inv _ _ _ _) ctF_body
end
end Go.Proofs.YtjdeaphfamenaaaDoor

namespace Go.Proofs.YtjdeaphfamenaaaDoor
open Go.Vc Go.Proofs
set_option maxRecDepth 10000
set_option maxHeartbeats 4000000
def ckS (ps : List (List UInt8)) (r : List UInt8) : Int := if rgS (ps, r, ()) = true then 0 else 30
def kCheck : Con := Con.ofO [.w nmL] [] (fun x => [List.length (α := List UInt8) x.1.1 ≤ 9223372036854775807, List.length (α := UInt8) x.1.2.1 ≤ 1000000000, ∀ y ∈ x.1.1, List.length (α := UInt8) y ≤ 1000000000]) (fun x => ⟨.int .i64 (ckS x.1.1 x.1.2.1), []⟩)
def cfgF1 : Cfg2 := { ty := tyTab, fn := fun | 44 => some kWrong.sum | 46 => some kCtF.sum | _ => none, G := gNone, pin := [], eq := fun _ => none }
theorem cfgF1_ok : CfgOK Tryd.prog cfgF1 := ⟨tysOK, (fun f s h => by
  simp only [cfgF1] at h
  split at h
  · injection h with h; subst h; exact .inl wrong_sum
  · injection h with h; subst h; exact .inl ctF_sum
  · cases h), (fun t d h => by cases h)⟩
section
attribute [local go_sem] Tryd.f18 kCheck kWrong kCtF cfgF1 tyTab
theorem check_body (p : kCheck.Par) (hp : ∀ q ∈ kCheck.pre p, q) : BodyOK Tryd.prog cfgF1 Tryd.f18 (Tryd.f18.body.get rfl) kCheck p := by
  obtain ⟨⟨(ps : List (List UInt8)), (r : List UInt8), u1⟩, u⟩ := p
  obtain ⟨h0, h1, h2, _⟩ := Obs.of hp
  replace h0 : ps.length ≤ 9223372036854775807 := h0
  replace h1 : r.length ≤ 1000000000 := h1
  replace h2 : ∀ y ∈ ps, List.length y ≤ 1000000000 := h2
  refine ⟨?_, Nat.zero_le _, rfl, rfl⟩
  show Tri _ _ _ (Code.seq _ (Code.seq _ (Code.seq (Code.seq _ (Code.cond _ (Code.seq _ _) _)) (Code.seq _ _)))) _
  by_cases hz : ps.length = 0
  · have hz' : decide ((ps.length : Int) = 0) = true := decide_eq_true (by omega)
    have e1 : ckS ps r = 30 := by
      have : rgS (ps, r, ()) = false := by rw [rgS, show decide ((ps.length : Int) < 1) = true from decide_eq_true (by omega)]; rfl
      rw [ckS, this]; rfl
    refine Tri.at (by first | (simp only [hz', e1, Con.start, go_sem]; rfl) | rfl) ?_
    repeat (first | ((first | refine Tri.seq (Tri.regT (cfgF1_ok.pins _) ?_) | refine Tri.rgnT (cfgF1_ok.pins _) ?_); (repeat (first | refine RunT.oneA (hp := by simp (maxSteps := 2000000) (disch := first | decide | omega | (simp only [List.length_append, List.length_cons, List.length_nil, List.length_take, List.length_drop]; omega)) only [hz', e1, go_sem]; rfl) (h := ?_) | refine RunT.notA (h := ?_))); refine RunT.nil ?_; try simp only [InBlock, Then]) | refine Tri.cF (by first | (simp only [hz', e1, go_sem]; done) | fail) ?_ | refine Tri.cT (by first | (simp only [hz', e1, go_sem]; done) | fail) ?_ | (refine Tri.skip ?_; try simp only [InBlock, Then]) | (refine Tri.exit ?_; simp only [Then, InBlock, if_true, if_false, ↓reduceIte, Nat.reduceEqDiff]) | refine Tri.seq (Tri.block ?_) | refine Tri.block ?_ | refine Tri.seq ?_ | (refine Tri.ret ?_; refine Con.fin (.inl rfl) (by simp only [Tryd.f18, cfgF1, resA, resA1, go_sem]; rfl) (by simp only [Obs, and_true, true_and]) (by first | (simp only [kCheck, Con.of, Con.ofO, resV, hz', e1, go_sem]; done) | fail) trivial rfl rfl))
  · have hz' : decide ((ps.length : Int) = 0) = false := decide_eq_false (by omega)
    have hz2 : decide ((ps.length : Int) < 1) = false := decide_eq_false (by omega)
    by_cases hm : 3 < ps.length
    · have hm' : decide ((3 : Int) < (ps.length : Int)) = true := decide_eq_true (by omega)
      have e1 : ckS ps r = 30 := by
        have : rgS (ps, r, ()) = false := by rw [rgS, hz2, hm']; rfl
        rw [ckS, this]; rfl
      refine Tri.at (by first | (simp only [hz', hm', e1, Con.start, go_sem]; rfl) | rfl) ?_
      repeat (first | ((first | refine Tri.seq (Tri.regT (cfgF1_ok.pins _) ?_) | refine Tri.rgnT (cfgF1_ok.pins _) ?_); (repeat (first | refine RunT.oneA (hp := by simp (maxSteps := 2000000) (disch := first | decide | omega | (simp only [List.length_append, List.length_cons, List.length_nil, List.length_take, List.length_drop]; omega)) only [hz', hm', e1, go_sem]; rfl) (h := ?_) | refine RunT.notA (h := ?_))); refine RunT.nil ?_; try simp only [InBlock, Then]) | refine Tri.cF (by first | (simp only [hz', hm', e1, go_sem]; done) | fail) ?_ | refine Tri.cT (by first | (simp only [hz', hm', e1, go_sem]; done) | fail) ?_ | (refine Tri.skip ?_; try simp only [InBlock, Then]) | (refine Tri.exit ?_; simp only [Then, InBlock, if_true, if_false, ↓reduceIte, Nat.reduceEqDiff]) | refine Tri.seq (Tri.block ?_) | refine Tri.block ?_ | refine Tri.seq ?_ | (refine Tri.ret ?_; refine Con.fin (.inl rfl) (by simp only [Tryd.f18, cfgF1, resA, resA1, go_sem]; rfl) (by simp only [Obs, and_true, true_and]) (by first | (simp only [kCheck, Con.of, Con.ofO, resV, hz', hm', e1, go_sem]; done) | fail) trivial rfl rfl))
    · have hm' : decide ((3 : Int) < (ps.length : Int)) = false := decide_eq_false (by omega)
      have hrg : rgS (ps, r, ()) = (prS r && ps.all prS) := by rw [rgS, hz2, hm']; rfl
      cases ha : ps.all prS with
      | false =>
        have e1 : ckS ps r = 30 := by rw [ckS, hrg, ha]; simp
        refine Tri.at (by first | (simp only [hz', hm', ha, e1, Con.start, go_sem]; rfl) | rfl) ?_
        repeat (first | ((first | refine Tri.seq (Tri.regT (cfgF1_ok.pins _) ?_) | refine Tri.rgnT (cfgF1_ok.pins _) ?_); (repeat (first | refine RunT.oneA (hp := by simp (maxSteps := 2000000) (disch := first | decide | omega | (simp only [List.length_append, List.length_cons, List.length_nil, List.length_take, List.length_drop]; omega)) only [hz', hm', ha, e1, go_sem]; rfl) (h := ?_) | refine RunT.notA (h := ?_))); refine RunT.nil ?_; try simp only [InBlock, Then]) | refine Tri.cF (by first | (simp only [hz', hm', ha, e1, go_sem]; done) | fail) ?_ | refine Tri.cT (by first | (simp only [hz', hm', ha, e1, go_sem]; done) | fail) ?_ | (refine Tri.skip ?_; try simp only [InBlock, Then]) | (refine Tri.exit ?_; simp only [Then, InBlock, if_true, if_false, ↓reduceIte, Nat.reduceEqDiff]) | refine Tri.seq (Tri.block ?_) | refine Tri.block ?_ | refine Tri.seq ?_ | (refine Tri.ret ?_; refine Con.fin (.inl rfl) (by simp only [Tryd.f18, cfgF1, resA, resA1, go_sem]; rfl) (by simp only [Obs, and_true, true_and]) (by first | (simp only [kCheck, Con.of, Con.ofO, resV, hz', hm', ha, e1, go_sem]; done) | fail) trivial rfl rfl))
      | true =>
        cases hr : prS r with
        | false =>
          have e1 : ckS ps r = 30 := by rw [ckS, hrg, hr]; rfl
          refine Tri.at (by first | (simp only [hz', hm', ha, hr, e1, Con.start, go_sem]; rfl) | rfl) ?_
          repeat (first | ((first | refine Tri.seq (Tri.regT (cfgF1_ok.pins _) ?_) | refine Tri.rgnT (cfgF1_ok.pins _) ?_); (repeat (first | refine RunT.oneA (hp := by simp (maxSteps := 2000000) (disch := first | decide | omega | (simp only [List.length_append, List.length_cons, List.length_nil, List.length_take, List.length_drop]; omega)) only [hz', hm', ha, hr, e1, go_sem]; rfl) (h := ?_) | refine RunT.notA (h := ?_))); refine RunT.nil ?_; try simp only [InBlock, Then]) | refine Tri.cF (by first | (simp only [hz', hm', ha, hr, e1, go_sem]; done) | fail) ?_ | refine Tri.cT (by first | (simp only [hz', hm', ha, hr, e1, go_sem]; done) | fail) ?_ | (refine Tri.skip ?_; try simp only [InBlock, Then]) | (refine Tri.exit ?_; simp only [Then, InBlock, if_true, if_false, ↓reduceIte, Nat.reduceEqDiff]) | refine Tri.seq (Tri.block ?_) | refine Tri.block ?_ | refine Tri.seq ?_ | (refine Tri.ret ?_; refine Con.fin (.inl rfl) (by simp only [Tryd.f18, cfgF1, resA, resA1, go_sem]; rfl) (by simp only [Obs, and_true, true_and]) (by first | (simp only [kCheck, Con.of, Con.ofO, resV, hz', hm', ha, hr, e1, go_sem]; done) | fail) trivial rfl rfl))
        | true =>
          have e1 : ckS ps r = 0 := by rw [ckS, hrg, hr, ha]; rfl
          refine Tri.at (by first | (simp only [hz', hm', ha, hr, e1, Con.start, go_sem]; rfl) | rfl) ?_
          repeat (first | ((first | refine Tri.seq (Tri.regT (cfgF1_ok.pins _) ?_) | refine Tri.rgnT (cfgF1_ok.pins _) ?_); (repeat (first | refine RunT.oneA (hp := by simp (maxSteps := 2000000) (disch := first | decide | omega | (simp only [List.length_append, List.length_cons, List.length_nil, List.length_take, List.length_drop]; omega)) only [hz', hm', ha, hr, e1, go_sem]; rfl) (h := ?_) | refine RunT.notA (h := ?_))); refine RunT.nil ?_; try simp only [InBlock, Then]) | refine Tri.cF (by first | (simp only [hz', hm', ha, hr, e1, go_sem]; done) | fail) ?_ | refine Tri.cT (by first | (simp only [hz', hm', ha, hr, e1, go_sem]; done) | fail) ?_ | (refine Tri.skip ?_; try simp only [InBlock, Then]) | (refine Tri.exit ?_; simp only [Then, InBlock, if_true, if_false, ↓reduceIte, Nat.reduceEqDiff]) | refine Tri.seq (Tri.block ?_) | refine Tri.block ?_ | refine Tri.seq ?_ | (refine Tri.ret ?_; refine Con.fin (.inl rfl) (by simp only [Tryd.f18, cfgF1, resA, resA1, go_sem]; rfl) (by simp only [Obs, and_true, true_and]) (by first | (simp only [kCheck, Con.of, Con.ofO, resV, hz', hm', ha, hr, e1, go_sem]; done) | fail) trivial rfl rfl))
theorem check_sum : FSumOK Tryd.prog cfgF1.G 18 kCheck.sum := Con.sumOK cfgF1_ok kCheck Tryd.func18 rfl rfl (Con.ofO_inv _ _ _ _) check_body
end
end Go.Proofs.YtjdeaphfamenaaaDoor

namespace Go.Proofs.YtjdeaphfamenaaaDoor
open Go.Vc Go.Proofs
def splS (c : UInt8) : List UInt8 → List (List UInt8)
  | [] => [[]]
  | b :: r => if b = c then [] :: splS c r else (match splS c r with | h :: t => (b :: h) :: t | [] => [[b]])
theorem splS_ne (c : UInt8) : ∀ s, splS c s ≠ []
  | [] => by simp [splS]
  | b :: r => by
    unfold splS
    split
    · simp
    · split <;> simp
theorem spl_app {c : UInt8} : ∀ {x : List UInt8} (y : List UInt8), c ∉ x → splS c (x ++ c :: y) = x :: splS c y
  | [], y, _ => by simp [splS]
  | b :: x, y, h => by
    simp only [List.mem_cons, not_or] at h
    rw [List.cons_append, splS, if_neg (fun e => h.1 e.symm), spl_app y h.2]
theorem spl_one {c : UInt8} : ∀ {x : List UInt8}, c ∉ x → splS c x = [x]
  | [], _ => rfl
  | b :: x, h => by
    simp only [List.mem_cons, not_or] at h
    rw [splS, if_neg (fun e => h.1 e.symm), spl_one h.2]
theorem idx_none {c : UInt8} : ∀ {s : List UInt8}, Lib.indexByte s c < 0 → c ∉ s
  | [], _ => by simp
  | b :: s, h => by
    have hg := Lib.indexByte_ge s c
    unfold Lib.indexByte at h
    split at h
    · omega
    · rename_i hb
      split at h
      · rename_i hn
        have hn' : Lib.indexByte s c = -1 := by simpa using hn
        simp only [List.mem_cons, not_or]
        refine ⟨fun e => hb (by rw [e]; exact beq_self_eq_true _), idx_none (by omega)⟩
      · rename_i hn
        have hn' : ¬ Lib.indexByte s c = -1 := by simpa using hn
        omega
theorem idx_some {c : UInt8} : ∀ {s : List UInt8} {m : Nat}, Lib.indexByte s c = (m : Int) → s = s.take m ++ c :: s.drop (m + 1) ∧ c ∉ s.take m
  | [], m, h => by
    have : Lib.indexByte [] c = -1 := rfl
    omega
  | b :: s, m, h => by
    unfold Lib.indexByte at h
    split at h
    · rename_i hb
      have hb' : b = c := by simpa using hb
      have : m = 0 := by omega
      subst this hb'
      simp
    · rename_i hb
      have hb' : ¬ b = c := by simpa using hb
      split at h
      · omega
      · rename_i hn
        have hn' : ¬ Lib.indexByte s c = -1 := by simpa using hn
        have hg := Lib.indexByte_ge s c
        obtain ⟨k, rfl⟩ : ∃ k, m = k + 1 := ⟨m - 1, by omega⟩
        obtain ⟨h1, h2⟩ := idx_some (c := c) (s := s) (m := k) (by omega)
        rw [List.take_succ_cons, List.drop_succ_cons, List.cons_append, ← h1]
        refine ⟨rfl, ?_⟩
        simp only [List.mem_cons, not_or]
        exact ⟨fun e => hb' e.symm, h2⟩
theorem idx_app {c : UInt8} : ∀ {x : List UInt8} (y : List UInt8), c ∉ x → Lib.indexByte (x ++ c :: y) c = (x.length : Int)
  | [], y, _ => by simp [Lib.indexByte]
  | b :: x, y, h => by
    simp only [List.mem_cons, not_or] at h
    have ih := idx_app y h.2
    have hb : (b == c) = false := by simpa using fun e => h.1 e.symm
    rw [List.cons_append, Lib.indexByte, ih, if_neg (by simp [hb]), if_neg (by simp only [beq_iff_eq]; omega), List.length_cons]
    omega
theorem idx_notin {c : UInt8} : ∀ {s : List UInt8}, c ∉ s → Lib.indexByte s c = -1
  | [], _ => rfl
  | b :: x, h => by
    simp only [List.mem_cons, not_or] at h
    have ih := idx_notin h.2
    have hb : (b == c) = false := by simpa using fun e => h.1 e.symm
    rw [Lib.indexByte, ih, if_neg (by simp [hb])]
    rfl
theorem spl_none {c : UInt8} {s : List UInt8} (h : Lib.indexByte s c < 0) : splS c s = [s] ∧ Lib.countByte s c = 0 :=
  ⟨spl_one (idx_none h), List.count_eq_zero.2 (idx_none h)⟩
theorem spl_some {c : UInt8} {s : List UInt8} {m : Nat} (h : Lib.indexByte s c = (m : Int)) : splS c s = s.take m :: splS c (s.drop (m + 1)) ∧ Lib.countByte s c = Lib.countByte (s.drop (m + 1)) c + 1 := by
  obtain ⟨h1, h2⟩ := idx_some h
  refine ⟨?_, ?_⟩
  · have := spl_app (s.drop (m + 1)) h2
    rwa [← h1] at this
  · unfold Lib.countByte
    have := congrArg (List.count c) h1
    rw [List.count_append, List.count_eq_zero.2 h2, List.count_cons_self] at this
    omega
theorem cnt_pos {c : UInt8} {s : List UInt8} (h : 0 < Lib.countByte s c) : ∃ m : Nat, Lib.indexByte s c = (m : Int) ∧ m < s.length := by
  by_cases hn : Lib.indexByte s c < 0
  · have := (spl_none hn).2
    omega
  · have := (idx_range s c).2
    exact ⟨(Lib.indexByte s c).toNat, by omega, by omega⟩
theorem spl_length (c : UInt8) : ∀ (n : Nat) (s : List UInt8), s.length = n → (splS c s).length = Lib.countByte s c + 1 := by
  intro n
  induction n using Nat.strongRecOn with
  | ind n ih =>
    intro s hs
    by_cases hp : 0 < Lib.countByte s c
    · obtain ⟨m, h1, h2⟩ := cnt_pos hp
      obtain ⟨h3, h4⟩ := spl_some h1
      rw [h3, h4, List.length_cons, ih _ (by rw [← hs]; exact (show (s.drop (m + 1)).length < s.length by rw [List.length_drop]; omega)) _ rfl]
    · have : ∀ m : Nat, Lib.indexByte s c = m → False := fun m h => by have := (spl_some h).2; omega
      have hn : Lib.indexByte s c < 0 := by
        by_cases h : Lib.indexByte s c < 0
        · exact h
        · exact (this (Lib.indexByte s c).toNat (by omega)).elim
      rw [(spl_none hn).1, (spl_none hn).2]; rfl
def jn (c : UInt8) : List (List UInt8) → List UInt8
  | [] => []
  | x :: r => match r with | [] => x | _ :: _ => x ++ c :: jn c r
theorem jn_two (c : UInt8) (x y : List UInt8) (r : List (List UInt8)) : jn c (x :: y :: r) = x ++ c :: jn c (y :: r) := rfl
theorem jn_join (c : UInt8) : ∀ ps, Lib.join ps [c] = jn c ps
  | [] => rfl
  | [x] => by rw [Lib.join_one]; rfl
  | x :: y :: r => by
    have ih := jn_join c (y :: r)
    rw [jn_two, ← ih, Lib.join_cons, Lib.join_cons]
    simp [Lib.joinTail]
theorem jn_spl (c : UInt8) : ∀ s, jn c (splS c s) = s
  | [] => rfl
  | b :: r => by
    have ih := jn_spl c r
    unfold splS
    split
    · rename_i e
      cases h : splS c r with
      | nil => exact absurd h (splS_ne c r)
      | cons x t => rw [jn_two, ← h, ih, e]; rfl
    · cases h : splS c r with
      | nil => exact absurd h (splS_ne c r)
      | cons x t =>
        rw [h] at ih
        cases t with
        | nil => show b :: x = b :: r; rw [← ih]; rfl
        | cons y t => show jn c ((b :: x) :: y :: t) = b :: r; rw [jn_two, ← ih, jn_two]; rfl
theorem spl_jn (c : UInt8) : ∀ ps : List (List UInt8), ps ≠ [] → (∀ x ∈ ps, c ∉ x) → splS c (jn c ps) = ps
  | [], h, _ => absurd rfl h
  | [x], _, h => spl_one (h x (by simp))
  | x :: y :: r, _, h => by
    rw [jn_two, spl_app _ (h x (by simp)), spl_jn c (y :: r) (by simp) fun z hz => h z (List.mem_cons_of_mem _ hz)]
theorem jn_notin {c d : UInt8} (hd : d ≠ c) : ∀ ps : List (List UInt8), (∀ x ∈ ps, d ∉ x) → d ∉ jn c ps
  | [], _ => by simp [jn]
  | [x], h => h x (by simp)
  | x :: y :: r, h => by
    rw [jn_two]
    simp only [List.mem_append, List.mem_cons, not_or]
    exact ⟨h x (by simp), hd, jn_notin hd (y :: r) fun z hz => h z (List.mem_cons_of_mem _ hz)⟩
theorem jn_length (c : UInt8) (k : Nat) : ∀ ps : List (List UInt8), (∀ x ∈ ps, x.length ≤ k) → (jn c ps).length ≤ ps.length * (k + 1)
  | [], _ => by simp [jn]
  | [x], h => by have := h x (by simp); simp only [jn, List.length_cons, List.length_nil]; omega
  | x :: y :: r, h => by
    have h1 := h x (by simp)
    have h2 := jn_length c k (y :: r) fun z hz => h z (List.mem_cons_of_mem _ hz)
    rw [jn_two, List.length_append, List.length_cons, List.length_cons, Nat.add_mul]
    omega
def txS (n : nmK.T) : List UInt8 := jn 47 n.1 ++ 64 :: n.2.1
def pwS (s : List UInt8) : nmK.T := (splS 47 (cutA s 64), cutR s 64, ())
def pzS (s : List UInt8) : nmK.T := if rgS (pwS s) = true then pwS s else ([], [], ())
theorem pr_notin {x : List UInt8} (h : prS x = true) : (64 : UInt8) ∉ x ∧ (47 : UInt8) ∉ x := by
  have h1 : x.all plS = true := by
    unfold prS at h
    simp only [Bool.and_eq_true] at h
    exact (by first | exact h.1 | exact h.1.1 | exact h.2 | exact h.1.2 | exact h.2.1 | exact h.2.2)
  rw [List.all_eq_true] at h1
  exact ⟨fun h => absurd (h1 _ h) (by decide), fun h => absurd (h1 _ h) (by decide)⟩
theorem pr_len {x : List UInt8} (h : prS x = true) : 1 ≤ x.length ∧ x.length ≤ 16 := by
  unfold prS at h
  simp only [Bool.and_eq_true, Bool.not_eq_true', decide_eq_true_eq, decide_eq_false_iff_not] at h
  have : x ≠ [] := by
    rintro rfl
    revert h
    decide
  have h2 : 0 < x.length := List.length_pos_iff.2 this
  omega
theorem rg_parts {n : nmK.T} (h : rgS n = true) : (1 ≤ n.1.length ∧ n.1.length ≤ 3) ∧ prS n.2.1 = true ∧ ∀ x ∈ n.1, prS x = true := by
  unfold rgS at h
  simp only [Bool.and_eq_true, Bool.not_eq_true', decide_eq_true_eq, decide_eq_false_iff_not, List.all_eq_true] at h
  exact ⟨⟨by omega, by omega⟩, h.2.2.1, h.2.2.2⟩
theorem pw_tx {n : nmK.T} (h : rgS n = true) : pwS (txS n) = n := by
  obtain ⟨⟨h1, h2⟩, h3, h4⟩ := rg_parts h
  obtain ⟨ps, r, u⟩ := n
  have hj : (64 : UInt8) ∉ jn 47 ps := jn_notin (by decide) ps fun x hx => (pr_notin (h4 x hx)).1
  have hi : Lib.indexByte (txS (ps, r, u)) 64 = ((jn 47 ps).length : Int) := idx_app r hj
  have ha : cutA (txS (ps, r, u)) 64 = jn 47 ps := by
    rw [cutA, if_neg (by omega), hi, Int.toNat_natCast]
    show List.take _ (jn 47 ps ++ 64 :: r) = _
    rw [List.take_left]
  have hr : cutR (txS (ps, r, u)) 64 = r := by
    rw [cutR, if_neg (by omega), hi, Int.toNat_natCast]
    show List.drop _ (jn 47 ps ++ 64 :: r) = _
    rw [← List.drop_drop, List.drop_left]; rfl
  have hs : splS 47 (jn 47 ps) = ps := spl_jn 47 ps (by rintro rfl; simp at h1) fun x hx => (pr_notin (h4 x hx)).2
  rw [pwS, ha, hr, hs]
theorem pz_tx {n : nmK.T} (h : rgS n = true) : pzS (txS n) = n := by
  rw [pzS, pw_tx h, if_pos h]
theorem tx_pw {s : List UInt8} (h : rgS (pwS s) = true) : txS (pwS s) = s := by
  obtain ⟨_, h3, _⟩ := rg_parts h
  have hn : ¬ Lib.indexByte s 64 < 0 := fun hn => by
    have e : (pwS s).2.1 = [] := by show cutR s 64 = []; rw [cutR, if_pos hn]
    rw [e] at h3
    exact absurd h3 (by decide)
  obtain ⟨m, hm⟩ : ∃ m : Nat, Lib.indexByte s 64 = (m : Int) := ⟨(Lib.indexByte s 64).toNat, by omega⟩
  show jn 47 (splS 47 (cutA s 64)) ++ 64 :: cutR s 64 = s
  rw [jn_spl, cutA, cutR, if_neg hn, if_neg hn, hm, Int.toNat_natCast]
  exact (idx_some hm).1.symm
theorem tx_inj {a b : nmK.T} (ha : rgS a = true) (hb : rgS b = true) (h : txS a = txS b) : a = b := by
  rw [← pw_tx ha, ← pw_tx hb, h]
theorem tx_length {n : nmK.T} (h : rgS n = true) : (txS n).length ≤ 70 := by
  obtain ⟨⟨h1, h2⟩, h3, h4⟩ := rg_parts h
  have h5 := jn_length 47 16 n.1 fun x hx => (pr_len (h4 x hx)).2
  have h6 := (pr_len h3).2
  show (jn 47 n.1 ++ 64 :: n.2.1).length ≤ 70
  rw [List.length_append, List.length_cons]
  have := Nat.mul_le_mul_right (16 + 1) h2
  omega
theorem pw_nat {s : List UInt8} (h : Lib.indexByte s 64 < 0) : rgS (pwS s) = false := by
  cases hr : rgS (pwS s) with
  | false => rfl
  | true =>
    have h3 := (rg_parts hr).2.1
    have e : (pwS s).2.1 = [] := by show cutR s 64 = []; rw [cutR, if_pos h]
    rw [e] at h3
    exact absurd h3 (by decide)
end Go.Proofs.YtjdeaphfamenaaaDoor

namespace Go.Proofs
open Go.Shelf
def Tryd.lays156_ren : Go.Shelf.Ren := ⟨fun | 156 => 50 | 165 => 82 | 166 => 83 | 169 => 84 | 240 => 97 | 241 => 98 | 276 => 108 | 277 => 109 | n => n, fun | 31 => 23 | 9 => 9 | 3 => 3 | 4 => 4 | 0 => 0 | 20 => 20 | 72 => 126 | 76 => 130 | 70 => 124 | 37 => 47 | 75 => 129 | 127 => 146 | 164 => 153 | 5 => 5 | 80 => 132 | n => n, fun | n => n⟩
theorem Tryd.lays156 : Go.Proofs.Lays.n156 Tryd.prog Tryd.lays156_ren := {
  mixed := by kernel_rfl
  f156 := Tryd.func50.trans (congrArg some (by kernel_rfl))
  f165 := Tryd.func82.trans (congrArg some (by kernel_rfl))
  f166 := Tryd.func83.trans (congrArg some (by kernel_rfl))
  f169 := Tryd.func84.trans (congrArg some (by kernel_rfl))
  f240 := Tryd.func97.trans (congrArg some (by kernel_rfl))
  f241 := Tryd.func98.trans (congrArg some (by kernel_rfl))
  f276 := Tryd.func108.trans (congrArg some (by kernel_rfl))
  f277 := Tryd.func109.trans (congrArg some (by kernel_rfl))
  t0 := Tryd.underlying0
  a0 := Tryd.isAgg0
  z0 := Tryd.sizeOf0
  v0 := Tryd.zeroValue0
  t3 := Tryd.underlying3
  a3 := Tryd.isAgg3
  z3 := Tryd.sizeOf3
  v3 := Tryd.zeroValue3
  t4 := Tryd.underlying4
  a4 := Tryd.isAgg4
  z4 := Tryd.sizeOf4
  v4 := Tryd.zeroValue4
  t9 := Tryd.underlying9
  a9 := Tryd.isAgg9
  z9 := Tryd.sizeOf9
  v9 := Tryd.zeroValue9
  t20 := Tryd.underlying20
  a20 := Tryd.isAgg20
  z20 := Tryd.sizeOf20
  v20 := Tryd.zeroValue20
  t31 := Tryd.underlying23
  a31 := Tryd.isAgg23
  z31 := Tryd.sizeOf23
  v31 := Tryd.zeroValue23
  t37 := Tryd.underlying47
  a37 := Tryd.isAgg47
  z37 := Tryd.sizeOf47
  v37 := Tryd.zeroValue47
  t70 := Tryd.underlying124
  a70 := Tryd.isAgg124
  z70 := Tryd.sizeOf124
  v70 := Tryd.zeroValue124
  t72 := Tryd.underlying126
  a72 := Tryd.isAgg126
  z72 := Tryd.sizeOf126
  v72 := Tryd.zeroValue126
  t75 := Tryd.underlying129
  a75 := Tryd.isAgg129
  z75 := Tryd.sizeOf129
  v75 := Tryd.zeroValue129
  t76 := Tryd.underlying130
  a76 := Tryd.isAgg130
  z76 := Tryd.sizeOf130
  v76 := Tryd.zeroValue130
  t127 := Tryd.underlying146
  a127 := Tryd.isAgg146
  z127 := Tryd.sizeOf146
  v127 := Tryd.zeroValue146
  t164 := Tryd.underlying153
  a164 := Tryd.isAgg153
  z164 := Tryd.sizeOf153
  v164 := Tryd.zeroValue153 }
theorem Tryd.Builder_Extra_156 : Builder.Extra Tryd.prog Tryd.lays156_ren := {
  sizeBuilder := by kernel_rfl
  liesBuilder := by kernel_rfl
  t5 := Tryd.underlying5
  a5 := Tryd.isAgg5
  z5 := Tryd.sizeOf5
  v5 := Tryd.zeroValue5
  infoByte := by kernel_rfl
  cellsByte := by kernel_rfl
  sizeByte := by kernel_rfl
  neB5 := by decide }
end Go.Proofs
namespace Go.Proofs.YtjdeaphfamenaaaDoor
open Go.Vc Go.Proofs
set_option maxRecDepth 10000
set_option maxHeartbeats 4000000
def kJoin : Con := Con.ofO [.a (.v (.slice false .str)), .a (.v .str)] [] (fun x => [List.length (α := List UInt8) x.1 ≤ 140737488355328, (Lib.join x.1 x.2.1).length ≤ 140737488355328]) (fun x => ⟨.str (Lib.join x.1 x.2.1), []⟩)
theorem join_sum : FSumOK Tryd.prog gNone 50 kJoin.sum := by
  refine Con.sumOKv kJoin Tryd.func50 rfl rfl (Con.ofO_inv _ _ _ _) rfl ?_
  rintro ⟨(xs : List (List UInt8)), (sep : List UInt8), u⟩ hp
  obtain ⟨h0, h1, _⟩ := Obs.of hp
  replace h0 : xs.length ≤ 140737488355328 := h0
  replace h1 : (Lib.join xs sep).length ≤ 140737488355328 := h1
  refine ⟨rfl, rfl, fun x w V hx hV => ?_⟩
  have hV' : RVs x [.pure (.slice false .str) xs, .str sep] V := hV
  clear hV
  cases hV' with
  | cons _ _ X1 _ h2 hr =>
    cases hr with
    | cons _ _ X2 _ h3 hr =>
      cases hr
      have e2 := h3.str_inv
      subst e2
      obtain ⟨A, cap, e1, h4, h5⟩ := h2.slice_inv
      injection e1 with e1 _
      subst e1
      have hlast : ∀ (e : Ending) (w' : World), e = .returned (.string ⟨(Lib.join xs sep).toArray⟩) ∧ RowKit.Below w.heap.size w w' → ∃ X, e = .returned X ∧ RowKit.Below w.heap.size w w' ∧ ∀ x' : Ctx, RV x' (.str (Lib.join xs sep)) X :=
        fun e w' ⟨h, hb⟩ => ⟨_, h, hb, fun x' => .one _ _ rfl (.str _)⟩
      rcases h5 with h5 | ⟨b, o, rc, el, fr, flat, h6, _, h7, h8, h9⟩
      · have h5' : xs = [] := h5
        subst h5'
        exact (Any.strings_Join_none (P := Tryd.prog) Tryd.lays156 Tryd.Builder_Extra_156 A cap ⟨⟨sep⟩⟩ w).mono fun e w' ⟨h, hw⟩ => hlast e w' ⟨h, hw ▸ RowKit.Below.refl _ _⟩
      · subst h6
        have hfl := Reads.strs h8
        have hmap : (xs.map fun l => (⟨⟨l⟩⟩ : ByteArray)).map (·.data.toList) = xs := by
          rw [List.map_map]
          show List.map (fun l => l) xs = xs
          exact List.map_id' xs
        rw [hx] at h7
        have hc := Any.strings_Join (P := Tryd.prog) Tryd.lays156 Tryd.Builder_Extra_156 b o cap (xs.map fun l => ⟨⟨l⟩⟩) ⟨⟨sep⟩⟩ w
          (fun j y hj => by
            rw [List.getElem?_map] at hj
            cases hxj : xs[j]? with
            | none => rw [hxj] at hj; cases hj
            | some l =>
              rw [hxj] at hj
              simp only [Option.map_some, Option.some.injEq] at hj
              subst hj
              have hj1 : flat[j]? = some (.string ⟨⟨l⟩⟩) := by rw [hfl, List.getElem?_map, hxj]; rfl
              have hjl : j < flat.length := (List.getElem?_eq_some_iff.1 hj1).1
              rw [← h9, List.getElem?_take, if_pos hjl, List.getElem?_drop, Array.getElem?_toList] at hj1
              have h7' : w.heap[b]? = some (.cells rc el fr) := h7
              simp only [World.cell?, h7', Option.isSome_none, Bool.false_eq_true, if_false]
              exact hj1)
          (Array.getElem?_eq_some_iff.1 h7).1 (by rw [List.length_map]; exact h0) (by rw [List.length_map]; exact h4) (by rw [hmap]; exact h1)
        rw [hmap, List.length_map] at hc
        exact hc.mono hlast
end Go.Proofs.YtjdeaphfamenaaaDoor

namespace Go.Proofs.YtjdeaphfamenaaaDoor
open Go.Vc Go.Proofs
set_option maxRecDepth 10000
set_option maxHeartbeats 4000000
def grS (n : nmK.T) : Bool := decide (20 < (n.1.length : Int)) || (decide (200 < (n.2.1.length : Int)) || n.1.any fun x => decide (200 < (List.length x : Int)))
def kGreat : Con := Con.of [.v nmL] (fun _ => []) (fun x => ⟨.bool (grS x.1), []⟩)
theorem any_at (s : List (List UInt8)) (f : List UInt8 → Bool) (i : Nat) (h : i < s.length) (hf : f (s.getD i []) = true) : s.any f = true := List.any_eq_true.2 ⟨_, getD_mem h, hf⟩
theorem any_none (s : List (List UInt8)) (f : List UInt8 → Bool) (h : ∀ j, j < s.length → f (s.getD j []) = false) : s.any f = false := by
  rw [List.any_eq_false]
  intro x hx
  obtain ⟨i, hi, rfl⟩ := List.getElem_of_mem hx
  have := h i hi
  rw [List.getD_eq_getElem?_getD, List.getElem?_eq_getElem hi, Option.getD_some] at this
  rw [this]; decide
section
attribute [local go_sem] Tryd.f22 kGreat cfgA tyTab
theorem great_body (p : kGreat.Par) (hp : ∀ q ∈ kGreat.pre p, q) : BodyOK Tryd.prog cfgA Tryd.f22 (Tryd.f22.body.get rfl) kGreat p := by
  obtain ⟨⟨(ps : List (List UInt8)), (r : List UInt8), u1⟩, u⟩ := p
  refine ⟨?_, Nat.zero_le _, rfl, rfl⟩
  show Tri _ _ _ (Code.seq _ (Code.seq (Code.seq _ (Code.cond _ (Code.seq _ _) _)) (Code.seq (Code.seq _ (Code.block _ (Code.loop (Code.seq (Code.seq _ (Code.cond _ _ _)) (Code.seq (Code.block _ (Code.seq _ (Code.cond _ (Code.seq _ _) _))) _))))) (Code.seq _ _)))) _
  by_cases h1 : 20 < ps.length
  · have h1' : decide ((20 : Int) < (ps.length : Int)) = true := decide_eq_true (by omega)
    have hp0 : grS (ps, r, u1) = true := by rw [grS, h1']; rfl
    refine Tri.at (by first | (simp only [Con.start, go_sem]; rfl) | rfl) ?_
    repeat (first | ((first | refine Tri.seq (Tri.regT (cfgA_ok.pins _) ?_) | refine Tri.rgnT (cfgA_ok.pins _) ?_); (repeat (first | refine RunT.oneA (hp := by simp (maxSteps := 2000000) (disch := first | decide | omega | (simp only [List.length_append, List.length_cons, List.length_nil, List.length_take, List.length_drop]; omega)) only [h1', go_sem]; rfl) (h := ?_) | refine RunT.notA (h := ?_))); refine RunT.nil ?_; try simp only [InBlock, Then]) | refine Tri.cF (by first | (simp only [go_sem]; done) | fail) ?_ | refine Tri.cT (by first | (simp only [go_sem]; done) | fail) ?_ | (refine Tri.skip ?_; try simp only [InBlock, Then]) | (refine Tri.exit ?_; simp only [Then, InBlock, if_true, if_false, ↓reduceIte, Nat.reduceEqDiff]) | refine Tri.seq (Tri.block ?_) | refine Tri.block ?_ | refine Tri.seq ?_ | (refine Tri.ret ?_; refine Con.fin (.inl rfl) (by simp only [Tryd.f22, cfgA, resA, resA1, go_sem]; rfl) (by simp only [Obs]) (by first | (simp only [kGreat, Con.of, resV, hp0, go_sem]; done) | fail) trivial rfl rfl))
  · have h1' : decide ((20 : Int) < (ps.length : Int)) = false := decide_eq_false (by omega)
    by_cases h2 : 200 < r.length
    · have h2' : decide ((200 : Int) < (r.length : Int)) = true := decide_eq_true (by omega)
      have hp0 : grS (ps, r, u1) = true := by rw [grS, h1', h2']; rfl
      refine Tri.at (by first | (simp only [Con.start, go_sem]; rfl) | rfl) ?_
      repeat (first | ((first | refine Tri.seq (Tri.regT (cfgA_ok.pins _) ?_) | refine Tri.rgnT (cfgA_ok.pins _) ?_); (repeat (first | refine RunT.oneA (hp := by simp (maxSteps := 2000000) (disch := first | decide | omega | (simp only [List.length_append, List.length_cons, List.length_nil, List.length_take, List.length_drop]; omega)) only [h1', h2', go_sem]; rfl) (h := ?_) | refine RunT.notA (h := ?_))); refine RunT.nil ?_; try simp only [InBlock, Then]) | refine Tri.cF (by first | (simp only [go_sem]; done) | fail) ?_ | refine Tri.cT (by first | (simp only [go_sem]; done) | fail) ?_ | (refine Tri.skip ?_; try simp only [InBlock, Then]) | (refine Tri.exit ?_; simp only [Then, InBlock, if_true, if_false, ↓reduceIte, Nat.reduceEqDiff]) | refine Tri.seq (Tri.block ?_) | refine Tri.block ?_ | refine Tri.seq ?_ | (refine Tri.ret ?_; refine Con.fin (.inl rfl) (by simp only [Tryd.f22, cfgA, resA, resA1, go_sem]; rfl) (by simp only [Obs]) (by first | (simp only [kGreat, Con.of, resV, hp0, go_sem]; done) | fail) trivial rfl rfl))
    · have h2' : decide ((200 : Int) < (r.length : Int)) = false := decide_eq_false (by omega)
      have hg : grS (ps, r, u1) = ps.any fun x => decide ((200 : Int) < (List.length x : Int)) := by rw [grS, h1', h2']; rfl
      refine Tri.at (by first | (simp only [Con.start, go_sem]; rfl) | rfl) ?_
      repeat (first | ((first | refine Tri.seq (Tri.regT (cfgA_ok.pins _) ?_) | refine Tri.rgnT (cfgA_ok.pins _) ?_); (repeat (first | refine RunT.oneA (hp := by simp (maxSteps := 2000000) (disch := first | decide | omega | (simp only [List.length_append, List.length_cons, List.length_nil, List.length_take, List.length_drop]; omega)) only [h1', h2', go_sem]; rfl) (h := ?_) | refine RunT.notA (h := ?_))); refine RunT.nil ?_; try simp only [InBlock, Then]) | refine Tri.cF (by first | (simp only [go_sem]; done) | fail) ?_ | refine Tri.cT (by first | (simp only [go_sem]; done) | fail) ?_ | (refine Tri.skip ?_; try simp only [Then]) | (refine Tri.exit ?_; simp only [Then, InBlock, if_true, if_false, ↓reduceIte, Nat.reduceEqDiff]) | refine Tri.seq (Tri.block ?_) | refine Tri.block ?_ | refine Tri.seq ?_ | (refine Tri.ret ?_; refine Con.fin (.inl rfl) (by simp only [Tryd.f22, cfgA, resA, resA1, go_sem]; rfl) (by simp only [Obs, and_true, true_and]) (by first | (simp only [kGreat, Con.of, Con.ofO, resV, h1', h2', go_sem]; done) | fail) trivial rfl rfl))
      refine Tri.loop (fun i : Nat => (⟨[none, some (.ptr 0 [] 0), none, some (.int .i64 (i : Int))] ++ List.replicate 24 none, [.live (.pure nmL (ps, r, u1))]⟩ : AS)) (fun i => i ≤ ps.length ∧ ∀ j, j < i → decide ((200 : Int) < (List.length (ps.getD j []) : Int)) = false) (fun i => ps.length - i) 0 ?_ ⟨Nat.zero_le _, fun j hj => by omega⟩ ?_
      · refine Wk.of ?_ ?_ rfl rfl
        · simp only [lessTs, List.reduceReplicate, List.cons_append, List.nil_append] <;> ((repeat' apply And.intro) <;> first | with_reducible rfl | exact True.intro | exact congrArg (fun z : Int => some (AV.int IntKind.i64 z)) (show (_ : Int) = _ by omega) | exact congrArg (fun z : Nat => some (AV.tsl _ _ _ _ _ z)) (show (_ : Nat) = _ by omega) | exact arrEq (by omega) (by with_reducible rfl))
        · simp only [lessHs] <;> ((repeat' apply And.intro) <;> first | with_reducible rfl | exact True.intro | exact congrArg (fun z : Int => some (AV.int IntKind.i64 z)) (show (_ : Int) = _ by omega) | exact congrArg (fun z : Nat => some (AV.tsl _ _ _ _ _ z)) (show (_ : Nat) = _ by omega) | exact arrEq (by omega) (by with_reducible rfl))
      · intro i ⟨hi, ha⟩
        by_cases h3 : i < ps.length
        · have h3' : decide ((i : Int) < (ps.length : Int)) = true := decide_eq_true (by omega)
          cases hc : decide ((200 : Int) < (List.length (ps.getD i []) : Int)) with
          | true =>
            have hp0 : grS (ps, r, u1) = true := by rw [hg]; exact any_at ps _ i h3 hc
            refine Tri.at (by first | (simp only [go_sem]; rfl) | rfl) ?_
            repeat (first | ((first | refine Tri.seq (Tri.regT (cfgA_ok.pins _) ?_) | refine Tri.rgnT (cfgA_ok.pins _) ?_); (repeat (first | refine RunT.oneA (hp := by simp (maxSteps := 2000000) (disch := first | decide | omega | (simp only [List.length_append, List.length_cons, List.length_nil, List.length_take, List.length_drop]; omega)) only [h3', hc, go_sem]; rfl) (h := ?_) | refine RunT.notA (h := ?_))); refine RunT.nil ?_; try simp only [InBlock, Then]) | refine Tri.cF (by first | (simp only [go_sem]; done) | fail) ?_ | refine Tri.cT (by first | (simp only [go_sem]; done) | fail) ?_ | (refine Tri.skip ?_; try simp only [Then]) | (refine Tri.exit ?_; simp only [Then, InBlock, if_true, if_false, ↓reduceIte, Nat.reduceEqDiff]) | refine Tri.seq (Tri.block ?_) | refine Tri.block ?_ | refine Tri.seq ?_ | (refine Tri.ret ?_; refine Con.fin (.inl rfl) (by simp only [Tryd.f22, cfgA, resA, resA1, go_sem]; rfl) (by simp only [Obs]) (by first | (simp only [kGreat, Con.of, resV, hp0, go_sem]; done) | fail) trivial rfl rfl))
          | false =>
            refine Tri.at (by first | (simp only [go_sem]; rfl) | rfl) ?_
            repeat (first | ((first | refine Tri.seq (Tri.regT (cfgA_ok.pins _) ?_) | refine Tri.rgnT (cfgA_ok.pins _) ?_); (repeat (first | refine RunT.oneA (hp := by simp (maxSteps := 2000000) (disch := first | decide | omega | (simp only [List.length_append, List.length_cons, List.length_nil, List.length_take, List.length_drop]; omega)) only [h3', hc, go_sem]; rfl) (h := ?_) | refine RunT.notA (h := ?_))); refine RunT.nil ?_; try simp only [Then]) | refine Tri.cF (by first | (simp only [go_sem]; done) | fail) ?_ | refine Tri.cT (by first | (simp only [go_sem]; done) | fail) ?_ | (refine Tri.skip ?_; try simp only [InBlock, Then]) | (refine Tri.exit ?_; simp only [Then, InBlock, if_true, if_false, ↓reduceIte, Nat.reduceEqDiff]) | refine Tri.seq (Tri.block ?_) | refine Tri.block ?_ | refine Tri.seq ?_ | (refine Tri.ret ?_; refine Con.fin (.inl rfl) (by simp only [Tryd.f22, cfgA, resA, resA1, go_sem]; rfl) (by simp only [Obs, and_true, true_and]) (by first | (simp only [kGreat, Con.of, Con.ofO, resV, h3', hc, go_sem]; done) | fail) trivial rfl rfl))
            refine ⟨i + 1, ⟨(by omega), fun j hj => ?_⟩, (by omega), Wk.of ?_ ?_ rfl rfl⟩
            · by_cases e : j = i
              · rw [e]; exact hc
              · exact ha j (by omega)
            · simp only [lessTs, List.reduceReplicate, List.cons_append, List.nil_append] <;> ((repeat' apply And.intro) <;> first | with_reducible rfl | exact True.intro | exact congrArg (fun z : Int => some (AV.int IntKind.i64 z)) (show (_ : Int) = _ by omega) | exact congrArg (fun z : Nat => some (AV.tsl _ _ _ _ _ z)) (show (_ : Nat) = _ by omega) | exact arrEq (by omega) (by with_reducible rfl))
            · exact ⟨rfl, trivial⟩
        · have h3' : decide ((i : Int) < (ps.length : Int)) = false := decide_eq_false (by omega)
          have hp0 : grS (ps, r, u1) = false := by rw [hg]; exact any_none ps _ fun j hj => ha j (by omega)
          refine Tri.at (by first | (simp only [go_sem]; rfl) | rfl) ?_
          repeat (first | ((first | refine Tri.seq (Tri.regT (cfgA_ok.pins _) ?_) | refine Tri.rgnT (cfgA_ok.pins _) ?_); (repeat (first | refine RunT.oneA (hp := by simp (maxSteps := 2000000) (disch := first | decide | omega | (simp only [List.length_append, List.length_cons, List.length_nil, List.length_take, List.length_drop]; omega)) only [h3', go_sem]; rfl) (h := ?_) | refine RunT.notA (h := ?_))); refine RunT.nil ?_; try simp only [InBlock, Then]) | refine Tri.cF (by first | (simp only [go_sem]; done) | fail) ?_ | refine Tri.cT (by first | (simp only [go_sem]; done) | fail) ?_ | (refine Tri.skip ?_; try simp only [InBlock, Then]) | (refine Tri.exit ?_; simp only [Then, InBlock, ↓reduceIte]) | refine Tri.seq (Tri.block ?_) | refine Tri.block ?_ | refine Tri.seq ?_ | (refine Tri.ret ?_; refine Con.fin (.inl rfl) (by simp only [Tryd.f22, cfgA, resA, resA1, go_sem]; rfl) (by simp only [Obs]) (by first | (simp only [kGreat, Con.of, resV, hp0, go_sem]; done) | fail) trivial rfl rfl))
theorem great_sum : FSumOK Tryd.prog cfgA.G 22 kGreat.sum := Con.sumOK cfgA_ok kGreat Tryd.func22 rfl rfl (Con.of_inv _ _ _) great_body
end
theorem jn_take0 (ps : List (List UInt8)) (h : 0 < ps.length) : jn 47 (ps.take 1) = ps.getD 0 [] := by
  cases ps with
  | nil => simp at h
  | cons x r => simp [jn]
theorem jn_snoc (c : UInt8) (y : List UInt8) : ∀ ps : List (List UInt8), ps ≠ [] → jn c (ps ++ [y]) = jn c ps ++ c :: y
  | [], h => absurd rfl h
  | [x], _ => rfl
  | x :: z :: r, _ => by
    have ih := jn_snoc c y (z :: r) (by simp)
    rw [List.cons_append, List.cons_append, jn_two, ← List.cons_append, ih, jn_two]
    simp [List.append_assoc]
theorem jn_take (ps : List (List UInt8)) (i : Nat) (h : i < ps.length) (h0 : 0 < i) : jn 47 (ps.take (i + 1)) = jn 47 (ps.take i) ++ [47] ++ ps.getD i [] := by
  rw [List.take_add_one, List.getElem?_eq_getElem h, Option.toList_some, jn_snoc _ _ _ (fun e => by have := congrArg List.length e; rw [List.length_take] at this; simp only [List.length_nil] at this; omega), List.getD_eq_getElem?_getD, List.getElem?_eq_getElem h, Option.getD_some, List.append_assoc]
  rfl
def kTextR : Con := Con.of [.v nmL] (fun x => [List.length (α := List UInt8) x.1.1 ≤ 1000, List.length (α := UInt8) x.1.2.1 ≤ 1000000000, ∀ y ∈ x.1.1, List.length (α := UInt8) y ≤ 1000000]) (fun x => ⟨.str (txS x.1), []⟩)
section
attribute [local go_sem] Tryd.f26 kTextR cfgA tyTab
theorem textR_body (p : kTextR.Par) (hp : ∀ q ∈ kTextR.pre p, q) : BodyOK Tryd.prog cfgA Tryd.f26 (Tryd.f26.body.get rfl) kTextR p := by
  obtain ⟨⟨(ps : List (List UInt8)), (r : List UInt8), u1⟩, u⟩ := p
  obtain ⟨h0, h1, h2, _⟩ := Obs.of hp
  replace h0 : ps.length ≤ 1000 := h0
  replace h1 : r.length ≤ 1000000000 := h1
  replace h2 : ∀ x ∈ ps, List.length x ≤ 1000000 := h2
  have hl : ∀ i, (jn 47 (ps.take i)).length ≤ 1000001000 := fun i => by
    have h3 := jn_length 47 1000000 (ps.take i) fun x hx => h2 x (List.mem_of_mem_take hx)
    have h4 : (ps.take i).length ≤ 1000 := by rw [List.length_take]; omega
    exact Nat.le_trans h3 (Nat.le_trans (Nat.mul_le_mul_right (1000000 + 1) h4) (by decide))
  refine ⟨?_, Nat.zero_le _, rfl, rfl⟩
  show Tri _ _ _ (Code.seq _ (Code.seq _ (Code.seq (Code.seq _ (Code.block _ (Code.loop (Code.seq (Code.seq _ (Code.cond _ _ _)) (Code.seq (Code.block _ (Code.seq (Code.seq _ (Code.cond _ _ _)) _)) _))))) (Code.seq _ _)))) _
  refine Tri.at (by first | (simp only [go_sem, Con.start, go_sem]; rfl) | rfl) ?_
  repeat (first | ((first | refine Tri.seq (Tri.regT (cfgA_ok.pins _) ?_) | refine Tri.rgnT (cfgA_ok.pins _) ?_); (repeat (first | refine RunT.oneA (hp := by simp (maxSteps := 2000000) (disch := first | decide | omega | (simp only [List.length_append, List.length_cons, List.length_nil, List.length_take, List.length_drop]; omega)) only [go_sem, go_sem]; rfl) (h := ?_) | refine RunT.notA (h := ?_))); refine RunT.nil ?_; try simp only [InBlock, Then]) | refine Tri.cF (by first | (simp only [go_sem, go_sem]; done) | fail) ?_ | refine Tri.cT (by first | (simp only [go_sem, go_sem]; done) | fail) ?_ | (refine Tri.skip ?_; try simp only [InBlock, Then]) | (refine Tri.exit ?_; simp only [Then, InBlock, if_true, if_false, ↓reduceIte, Nat.reduceEqDiff]) | refine Tri.seq (Tri.block ?_) | refine Tri.block ?_ | refine Tri.seq ?_ | (refine Tri.ret ?_; refine Con.fin (.inl rfl) (by simp only [Tryd.f26, cfgA, resA, resA1, go_sem]; rfl) (by simp only [Obs, and_true, true_and]) (by first | (simp only [kTextR, Con.of, Con.ofO, resV, go_sem, go_sem]; done) | fail) trivial rfl rfl))
  refine Tri.loop (fun i : Nat => (⟨[none, some (.ptr 0 [] 0), none, some (.str (jn 47 (ps.take i))), some (.int .i64 (i : Int))] ++ List.replicate 23 none, [.live (.pure nmL (ps, r, u1))]⟩ : AS)) (fun i => i ≤ ps.length) (fun i => ps.length - i) 0 ?_ (Nat.zero_le _) ?_
  · refine Wk.of ?_ ?_ rfl rfl
    · simp only [lessTs, List.reduceReplicate, List.cons_append, List.nil_append, List.take_zero, jn] <;> ((repeat' apply And.intro) <;> first | with_reducible rfl | exact True.intro | exact congrArg (fun z : Int => some (AV.int IntKind.i64 z)) (show (_ : Int) = _ by omega) | exact congrArg (fun z : Nat => some (AV.tsl _ _ _ _ _ z)) (show (_ : Nat) = _ by omega) | exact arrEq (by omega) (by with_reducible rfl))
    · simp only [lessHs] <;> ((repeat' apply And.intro) <;> first | with_reducible rfl | exact True.intro | exact congrArg (fun z : Int => some (AV.int IntKind.i64 z)) (show (_ : Int) = _ by omega) | exact congrArg (fun z : Nat => some (AV.tsl _ _ _ _ _ z)) (show (_ : Nat) = _ by omega) | exact arrEq (by omega) (by with_reducible rfl))
  · intro i hi
    have hli := hl i
    by_cases h3 : i < ps.length
    · have h3' : decide ((i : Int) < (ps.length : Int)) = true := decide_eq_true (by omega)
      have hm := h2 _ (getD_mem h3)
      by_cases h4 : 0 < i
      · have h4' : decide ((0 : Int) < (i : Int)) = true := decide_eq_true (by omega)
        have hj := jn_take ps i h3 h4
        refine Tri.at (by first | (simp only [go_sem]; rfl) | rfl) ?_
        repeat (first | ((first | refine Tri.seq (Tri.regT (cfgA_ok.pins _) ?_) | refine Tri.rgnT (cfgA_ok.pins _) ?_); (repeat (first | refine RunT.oneA (hp := by simp (maxSteps := 2000000) (disch := first | decide | omega | (simp only [List.length_append, List.length_cons, List.length_nil, List.length_take, List.length_drop]; omega)) only [h3', h4', go_sem]; rfl) (h := ?_) | refine RunT.notA (h := ?_))); refine RunT.nil ?_; try simp only [InBlock, Then]) | refine Tri.cF (by first | (simp only [go_sem]; done) | fail) ?_ | refine Tri.cT (by first | (simp only [go_sem]; done) | fail) ?_ | (refine Tri.skip ?_; try simp only [Then]) | (refine Tri.exit ?_; simp only [Then, InBlock, if_true, if_false, ↓reduceIte, Nat.reduceEqDiff]) | refine Tri.seq (Tri.block ?_) | refine Tri.block ?_ | refine Tri.seq ?_ | (refine Tri.ret ?_; refine Con.fin (.inl rfl) (by simp only [Tryd.f26, cfgA, resA, resA1, go_sem]; rfl) (by simp only [Obs, and_true, true_and]) (by first | (simp only [kTextR, Con.of, Con.ofO, resV, h3', h4', go_sem]; done) | fail) trivial rfl rfl))
        refine ⟨i + 1, (by omega), (by omega), Wk.of ?_ ?_ rfl rfl⟩
        · simp only [lessTs, List.reduceReplicate, List.cons_append, List.nil_append, hj] <;> ((repeat' apply And.intro) <;> first | with_reducible rfl | exact True.intro | exact congrArg (fun z : Int => some (AV.int IntKind.i64 z)) (show (_ : Int) = _ by omega) | exact congrArg (fun z : Nat => some (AV.tsl _ _ _ _ _ z)) (show (_ : Nat) = _ by omega) | exact arrEq (by omega) (by with_reducible rfl))
        · exact ⟨rfl, trivial⟩
      · have h4' : decide ((0 : Int) < (i : Int)) = false := decide_eq_false (by omega)
        have i0 : i = 0 := by omega
        subst i0
        have hj := jn_take0 ps h3
        refine Tri.at (by first | (simp only [List.take_zero, jn, go_sem]; rfl) | rfl) ?_
        repeat (first | ((first | refine Tri.seq (Tri.regT (cfgA_ok.pins _) ?_) | refine Tri.rgnT (cfgA_ok.pins _) ?_); (repeat (first | refine RunT.oneA (hp := by simp (maxSteps := 2000000) (disch := first | decide | omega | (simp only [List.length_append, List.length_cons, List.length_nil, List.length_take, List.length_drop]; omega)) only [h3', h4', go_sem]; rfl) (h := ?_) | refine RunT.notA (h := ?_))); refine RunT.nil ?_; try simp only [InBlock, Then]) | refine Tri.cF (by first | (simp only [go_sem]; done) | fail) ?_ | refine Tri.cT (by first | (simp only [go_sem]; done) | fail) ?_ | (refine Tri.skip ?_; try simp only [Then]) | (refine Tri.exit ?_; simp only [Then, InBlock, if_true, if_false, ↓reduceIte, Nat.reduceEqDiff]) | refine Tri.seq (Tri.block ?_) | refine Tri.block ?_ | refine Tri.seq ?_ | (refine Tri.ret ?_; refine Con.fin (.inl rfl) (by simp only [Tryd.f26, cfgA, resA, resA1, go_sem]; rfl) (by simp only [Obs, and_true, true_and]) (by first | (simp only [kTextR, Con.of, Con.ofO, resV, h3', h4', List.take_zero, jn, go_sem]; done) | fail) trivial rfl rfl))
        refine ⟨1, (by omega), (by omega), Wk.of ?_ ?_ rfl rfl⟩
        · simp only [lessTs, List.reduceReplicate, List.cons_append, List.nil_append, hj] <;> ((repeat' apply And.intro) <;> first | with_reducible rfl | exact True.intro | exact congrArg (fun z : Int => some (AV.int IntKind.i64 z)) (show (_ : Int) = _ by omega) | exact congrArg (fun z : Nat => some (AV.tsl _ _ _ _ _ z)) (show (_ : Nat) = _ by omega) | exact arrEq (by omega) (by with_reducible rfl))
        · exact ⟨rfl, trivial⟩
    · have h3' : decide ((i : Int) < (ps.length : Int)) = false := decide_eq_false (by omega)
      rw [List.take_of_length_le (by omega)] at hli ⊢
      have ht : txS (ps, r, u1) = jn 47 ps ++ [64] ++ r := by rw [List.append_assoc]; rfl
      refine Tri.at (by first | (simp only [go_sem]; rfl) | rfl) ?_
      repeat (first | ((first | refine Tri.seq (Tri.regT (cfgA_ok.pins _) ?_) | refine Tri.rgnT (cfgA_ok.pins _) ?_); (repeat (first | refine RunT.oneA (hp := by simp (maxSteps := 2000000) (disch := first | decide | omega | (simp only [List.length_append, List.length_cons, List.length_nil, List.length_take, List.length_drop]; omega)) only [h3', go_sem]; rfl) (h := ?_) | refine RunT.notA (h := ?_))); refine RunT.nil ?_; try simp only [InBlock, Then]) | refine Tri.cF (by first | (simp only [go_sem]; done) | fail) ?_ | refine Tri.cT (by first | (simp only [go_sem]; done) | fail) ?_ | (refine Tri.skip ?_; try simp only [InBlock, Then]) | (refine Tri.exit ?_; simp only [Then, InBlock, ↓reduceIte]) | refine Tri.seq (Tri.block ?_) | refine Tri.block ?_ | refine Tri.seq ?_ | (refine Tri.ret ?_; refine Con.fin (.inl rfl) (by simp only [Tryd.f26, cfgA, resA, resA1, go_sem]; rfl) (by simp only [Obs]) (by first | (simp only [kTextR, Con.of, resV, ht, go_sem]; done) | fail) trivial rfl rfl))
theorem textR_sum : FSumOK Tryd.prog cfgA.G 26 kTextR.sum := Con.sumOK cfgA_ok kTextR Tryd.func26 rfl rfl (Con.of_inv _ _ _) textR_body
end
end Go.Proofs.YtjdeaphfamenaaaDoor

namespace Go.Proofs.YtjdeaphfamenaaaDoor
open Go.Vc Go.Proofs
set_option maxRecDepth 10000
set_option maxHeartbeats 4000000
abbrev tc (t : List UInt8) : UInt8 := List.getD t 0 0
def kGsp : Con := Con.of [.v .str, .v .str, .v (.int .i64), .v (.int .i64)] (fun x => [List.length (α := UInt8) x.1 ≤ 1000000000, List.length (α := UInt8) x.2.1 = 1, toI .i64 x.2.2.1 = 0, toI .i64 x.2.2.2.1 = -1])
  (fun x => ⟨.tsl 0 [] 0 0 1 (splS (List.getD (α := UInt8) x.2.1 0 0) x.1).length, [.pure (.arr (splS (List.getD (α := UInt8) x.2.1 0 0) x.1).length .str) (splS (List.getD (α := UInt8) x.2.1 0 0) x.1)]⟩)
theorem set_fill {α : Type} (l : List α) (x d : α) (i n : Nat) (h : l.length = i) (hi : i < n) : List.set (l ++ List.replicate (n - i) d) i x = (l ++ [x]) ++ List.replicate (n - (i + 1)) d := by
  subst h
  obtain ⟨k, hk⟩ : ∃ k, n - l.length = k + 1 := ⟨n - l.length - 1, by omega⟩
  rw [hk, show n - (l.length + 1) = k by omega, List.set_append_right _ _ (Nat.le_refl _), Nat.sub_self, List.replicate_succ, List.set_cons_zero, List.append_assoc]
  rfl
theorem cnt_le (s : List UInt8) (c : UInt8) : Lib.countByte s c ≤ s.length := List.count_le_length
def cfgM1 : Cfg2 := { ty := tyTab, fn := fun | 101 => some kCnt.sum | 102 => some kIx.sum | _ => none, G := gNone, pin := [], eq := fun _ => none }
theorem cfgM1_ok : CfgOK Tryd.prog cfgM1 := ⟨tysOK, (fun f s h => by
  simp only [cfgM1] at h
  split at h
  · injection h with h; subst h; exact .inl cntS_sum
  · injection h with h; subst h; exact .inl ix2_sum
  · cases h), (fun t d h => by cases h)⟩
section
attribute [local go_sem] Tryd.f86 kGsp kCnt kIx cfgM1 tyTab
theorem gsp_body (p : kGsp.Par) (hp : ∀ q ∈ kGsp.pre p, q) : BodyOK Tryd.prog cfgM1 Tryd.f86 (Tryd.f86.body.get rfl) kGsp p := by
  obtain ⟨(s : List UInt8), (t : List UInt8), (z : Int), (n : Int), u⟩ := p
  obtain ⟨h0, h1, h2, h3, _⟩ := Obs.of hp
  replace h0 : s.length ≤ 1000000000 := h0
  replace h1 : t.length = 1 := h1
  replace h2 : z = 0 := h2
  replace h3 : n = -1 := h3
  subst h2 h3
  have hk1 := spl_length (t.getD 0 0) _ s rfl
  have hk2 := cnt_le s (t.getD 0 0)
  refine ⟨?_, Nat.zero_le _, rfl, rfl⟩
  show Tri _ _ _ (Code.seq _ (Code.seq (Code.seq _ (Code.cond _ (Code.seq _ _) _)) (Code.seq (Code.seq _ (Code.cond _ (Code.seq _ _) _)) (Code.seq (Code.seq _ (Code.cond _ _ _)) (Code.seq _ (Code.seq _ (Code.seq _ (Code.seq _ (Code.seq (Code.block _ (Code.loop (Code.seq (Code.seq _ (Code.cond _ _ _)) (Code.block _ (Code.seq _ (Code.seq (Code.seq _ (Code.cond _ _ _)) (Code.seq _ (Code.seq _ _)))))))) (Code.seq _ (Code.seq _ _))))))))))) _
  generalize hc : t.getD 0 0 = c at hk1 hk2
  generalize hk : Lib.countByte s c = k at hk1 hk2
  have e1 : decide ((-1 : Int) = 0) = false := rfl
  have e2 : strEq t [] = false := decide_eq_false fun e => by rw [e] at h1; exact absurd h1 (by decide)
  have e3 : decide ((-1 : Int) < 0) = true := rfl
  have e4 : decide (((s.length + 1 : Nat) : Int) < ((k + 1 : Nat) : Int)) = false := decide_eq_false (by omega)
  refine Tri.at (by first | (simp only [Con.start, go_sem]; rfl) | rfl) ?_
  repeat (first | ((first | refine Tri.seq (Tri.regT (cfgM1_ok.pins _) ?_) | refine Tri.rgnT (cfgM1_ok.pins _) ?_); (repeat (first | refine RunT.oneA (hp := by simp (maxSteps := 2000000) (disch := first | decide | omega | (simp only [List.length_append, List.length_cons, List.length_nil, List.length_take, List.length_drop]; omega)) only [hc, hk, h1, e2, e4, cond_false, go_sem]; rfl) (h := ?_) | refine RunT.notA (h := ?_))); refine RunT.nil ?_; try simp only [Then]) | refine Tri.cF (by first | (simp only [go_sem]; done) | fail) ?_ | refine Tri.cT (by first | (simp only [go_sem]; done) | fail) ?_ | (refine Tri.skip ?_; try simp only [Then]) | (refine Tri.exit ?_; simp only [Then, InBlock, if_true, if_false, ↓reduceIte, Nat.reduceEqDiff]) | refine Tri.seq (Tri.block ?_) | refine Tri.block ?_ | refine Tri.seq ?_ | (refine Tri.ret ?_; refine Con.fin (.inl rfl) (by simp only [Tryd.f86, cfgM1, resA, resA1, go_sem]; rfl) (by simp only [Obs, and_true, true_and]) (by first | (simp only [kGsp, Con.of, Con.ofO, resV, hc, hk, h1, e1, e2, e3, e4, cond_true, cond_false, Int.natCast_one, go_sem]; done) | fail) trivial rfl rfl))
  refine Tri.loop (fun v : Nat × List (List UInt8) × List UInt8 => (⟨[some (.str v.2.2), some (.str t), some (.int .i64 (0 : Int)), some (.int .i64 (k : Int)), none, none, none, none, none, some (.tsl 0 [] 0 0 1 (k + 1)), some (.int .i64 (v.1 : Int))] ++ List.replicate 55 none, [.live (.pure (.arr (k + 1) .str) (v.2.1 ++ List.replicate (k + 1 - v.1) []))]⟩ : AS))
    (fun v => v.1 ≤ k ∧ v.2.1.length = v.1 ∧ splS c s = v.2.1 ++ splS c v.2.2 ∧ Lib.countByte v.2.2 c + v.1 = k ∧ v.2.2.length ≤ 1000000000) (fun v => k - v.1) (0, [], s) ?_ ⟨Nat.zero_le _, rfl, rfl, hk, h0⟩ ?_
  · refine Wk.of ?_ ?_ rfl rfl
    · simp only [lessTs, List.reduceReplicate, List.cons_append, List.nil_append, List.nil_append] <;> ((repeat' apply And.intro) <;> first | with_reducible rfl | exact True.intro | exact congrArg (fun z : Int => some (AV.int IntKind.i64 z)) (show (_ : Int) = _ by omega) | exact congrArg (fun z : Nat => some (AV.tsl _ _ _ _ _ z)) (show (_ : Nat) = _ by omega) | exact arrEq (by omega) (by with_reducible rfl))
    exact ⟨arrEq rfl rfl, trivial⟩
  · intro ⟨i, pc, x⟩ ⟨hi, hpl, hsp, hct, hxl⟩
    replace hi : i ≤ k := hi
    replace hpl : pc.length = i := hpl
    replace hsp : splS c s = pc ++ splS c x := hsp
    replace hct : Lib.countByte x c + i = k := hct
    replace hxl : x.length ≤ 1000000000 := hxl
    by_cases h4 : i < k
    · have h4' : decide ((i : Int) < (k : Int)) = true := decide_eq_true (by omega)
      obtain ⟨m, hm1, hm2⟩ := cnt_pos (c := c) (s := x) (by omega)
      obtain ⟨hs1, hs2⟩ := spl_some hm1
      have h5 : decide ((m : Int) < 0) = false := decide_eq_false (by omega)
      have hset := set_fill pc (x.take m) ([] : List UInt8) i (k + 1) hpl (by omega)
      have hlen : (pc ++ List.replicate (k + 1 - i) ([] : List UInt8)).length = k + 1 := by rw [List.length_append, List.length_replicate]; omega
      have htk : List.take (x.length - (m + 1)) (List.drop (m + 1) x) = List.drop (m + 1) x := List.take_of_length_le (by rw [List.length_drop]; exact Nat.le_refl _)
      refine Tri.at (by first | (simp only [go_sem]; rfl) | rfl) ?_
      repeat (first | ((first | refine Tri.seq (Tri.regT (cfgM1_ok.pins _) ?_) | refine Tri.rgnT (cfgM1_ok.pins _) ?_); (repeat (first | refine RunT.oneA (hp := by simp (maxSteps := 2000000) (disch := first | decide | omega | (simp only [List.length_append, List.length_cons, List.length_nil, List.length_take, List.length_drop]; omega)) only [hc, h1, h4', h5, hm1, hset, htk, Int.natCast_one, Int.add_zero, Nat.sub_zero, go_sem]; rfl) (h := ?_) | refine RunT.notA (h := ?_))); refine RunT.nil ?_; try simp only [InBlock, Then]) | refine Tri.cF (by first | (simp only [go_sem]; done) | fail) ?_ | refine Tri.cT (by first | (simp only [go_sem]; done) | fail) ?_ | (refine Tri.skip ?_; try simp only [Then]) | (refine Tri.exit ?_; simp only [Then, InBlock, if_true, if_false, ↓reduceIte, Nat.reduceEqDiff]) | refine Tri.seq (Tri.block ?_) | refine Tri.block ?_ | refine Tri.seq ?_ | (refine Tri.ret ?_; refine Con.fin (.inl rfl) (by simp only [Tryd.f86, cfgM1, resA, resA1, go_sem]; rfl) (by simp only [Obs, and_true, true_and]) (by first | (simp only [kGsp, Con.of, Con.ofO, resV, hc, h1, h4', h5, hm1, hset, hlen, htk, Int.natCast_one, Int.add_zero, Nat.sub_zero, go_sem]; done) | fail) trivial rfl rfl))
      refine ⟨(i + 1, pc ++ [x.take m], x.drop (m + 1)), ⟨(by show i + 1 ≤ k; omega), (by show (pc ++ [x.take m]).length = i + 1; rw [List.length_append, hpl]; rfl), (by show splS c s = (pc ++ [x.take m]) ++ splS c (x.drop (m + 1)); rw [hsp, hs1, List.append_assoc]; rfl), (by show Lib.countByte (x.drop (m + 1)) c + (i + 1) = k; omega), (by show (x.drop (m + 1)).length ≤ _; rw [List.length_drop]; omega)⟩, (by show k - (i + 1) < k - i; omega), Wk.of ?_ ?_ rfl rfl⟩
      · simp only [lessTs, List.reduceReplicate, List.cons_append, List.nil_append] <;> ((repeat' apply And.intro) <;> first | with_reducible rfl | exact True.intro | exact congrArg (fun z : Int => some (AV.int IntKind.i64 z)) (show (_ : Int) = _ by omega) | exact congrArg (fun z : Nat => some (AV.tsl _ _ _ _ _ z)) (show (_ : Nat) = _ by omega) | exact arrEq (by omega) (by with_reducible rfl))
      · exact ⟨arrEq rfl rfl, trivial⟩
    · have h4' : decide ((i : Int) < (k : Int)) = false := decide_eq_false (by omega)
      have hik : i = k := by omega
      subst hik
      have hset := set_fill pc x ([] : List UInt8) i (i + 1) hpl (by omega)
      have hlen : (pc ++ List.replicate (i + 1 - i) ([] : List UInt8)).length = i + 1 := by rw [List.length_append, List.length_replicate]; omega
      have hx1 : splS c x = [x] := by
        refine spl_one fun hh => ?_
        have := List.count_pos_iff.2 hh
        unfold Lib.countByte at hct
        omega
      have hfin : pc ++ [x] ++ List.replicate (i + 1 - (i + 1)) ([] : List UInt8) = splS c s := by rw [hsp, hx1, Nat.sub_self]; exact List.append_nil _
      refine Tri.at (by first | (simp only [go_sem]; rfl) | rfl) ?_
      repeat (first | ((first | refine Tri.seq (Tri.regT (cfgM1_ok.pins _) ?_) | refine Tri.rgnT (cfgM1_ok.pins _) ?_); (repeat (first | refine RunT.oneA (hp := by simp (maxSteps := 2000000) (disch := first | decide | omega | (simp only [List.length_append, List.length_cons, List.length_nil, List.length_take, List.length_drop]; omega)) only [h4', hset, hfin, Nat.sub_zero, go_sem]; rfl) (h := ?_) | refine RunT.notA (h := ?_))); refine RunT.nil ?_; try simp only []) | refine Tri.cF (by first | (simp only [go_sem]; done) | fail) ?_ | refine Tri.cT (by first | (simp only [go_sem]; done) | fail) ?_ | (refine Tri.skip ?_; try simp only [InBlock, Then]) | (refine Tri.exit ?_; simp only [Then, InBlock, ↓reduceIte]) | refine Tri.seq (Tri.block ?_) | refine Tri.block ?_ | refine Tri.seq ?_ | (refine Tri.ret ?_; refine Con.fin (.inl rfl) (by simp only [Tryd.f86, cfgM1, resA, resA1, go_sem]; rfl) (by simp only [Obs, and_true, true_and]) (by first | (simp only [kGsp, Con.of, Con.ofO, resV, hc, h4', hset, hlen, hfin, hk1, Int.natCast_one, Nat.sub_zero, go_sem]; done) | fail) trivial rfl rfl))
      refine Tri.ret ?_
      refine Con.fin (.inl rfl) (by simp only [Tryd.f86, cfgM1, resA, resA1, go_sem]; rfl) (by simp only [Obs]) ?_ ?_ rfl rfl
      · show AV.tsl 0 [] 0 0 1 (i + 1) = AV.tsl 0 [] 0 0 1 (splS (t.getD 0 0) s).length
        rw [hc, hk1]
      · exact ⟨arrEq (by show i + 1 = (splS (t.getD 0 0) s).length; rw [hc, hk1]) (by show splS c s = splS (t.getD 0 0) s; rw [hc]), trivial⟩
theorem gsp_sum : FSumOK Tryd.prog cfgM1.G 86 kGsp.sum := Con.sumOK cfgM1_ok kGsp Tryd.func86 rfl rfl (Con.of_inv _ _ _) gsp_body
end
def kSpl : Con := Con.of [.v .str, .v .str] (fun x => [List.length (α := UInt8) x.1 ≤ 1000000000, List.length (α := UInt8) x.2.1 = 1, (List.getD (α := UInt8) x.2.1 0 0).toNat = 47])
  (fun x => ⟨.tsl 0 [] 0 0 1 (splS 47 x.1).length, [.pure (.arr (splS 47 x.1).length .str) (splS 47 x.1)]⟩)
def cfgM2 : Cfg2 := { ty := tyTab, fn := fun | 86 => some kGsp.sum | _ => none, G := gNone, pin := [], eq := fun _ => none }
theorem cfgM2_ok : CfgOK Tryd.prog cfgM2 := ⟨tysOK, (fun f s h => by
  simp only [cfgM2] at h
  split at h
  · injection h with h; subst h; exact .inl gsp_sum
  · cases h), (fun t d h => by cases h)⟩
section
attribute [local go_sem] Tryd.f53 kSpl kGsp cfgM2 tyTab
theorem spl_body (p : kSpl.Par) (hp : ∀ q ∈ kSpl.pre p, q) : BodyOK Tryd.prog cfgM2 Tryd.f53 (Tryd.f53.body.get rfl) kSpl p := by
  obtain ⟨(s : List UInt8), (t : List UInt8), u⟩ := p
  obtain ⟨h0, h1, h2, _⟩ := Obs.of hp
  replace h0 : s.length ≤ 1000000000 := h0
  replace h1 : t.length = 1 := h1
  replace h2 : (t.getD 0 0).toNat = 47 := h2
  have hc : t.getD 0 0 = 47 := UInt8.toNat_inj.1 h2
  refine ⟨?_, Nat.zero_le _, rfl, rfl⟩
  show Tri _ _ _ (Code.seq _ (Code.seq _ _)) _
  refine Tri.at (by first | (simp only [Con.start, go_sem]; rfl) | rfl) ?_
  repeat (first | ((first | refine Tri.seq (Tri.regT (cfgM2_ok.pins _) ?_) | refine Tri.rgnT (cfgM2_ok.pins _) ?_); (repeat (first | refine RunT.oneA (hp := by simp (maxSteps := 2000000) (disch := first | decide | omega | (simp only [List.length_append, List.length_cons, List.length_nil, List.length_take, List.length_drop]; omega)) only [h1, go_sem]; rfl) (h := ?_) | refine RunT.notA (h := ?_))); refine RunT.nil ?_; try simp only [InBlock, Then]) | refine Tri.cF (by first | (simp only [go_sem]; done) | fail) ?_ | refine Tri.cT (by first | (simp only [go_sem]; done) | fail) ?_ | (refine Tri.skip ?_; try simp only [InBlock, Then]) | (refine Tri.exit ?_; simp only [Then, InBlock, if_true, if_false, ↓reduceIte, Nat.reduceEqDiff]) | refine Tri.seq (Tri.block ?_) | refine Tri.block ?_ | refine Tri.seq ?_ | (refine Tri.ret ?_; refine Con.fin (.inl rfl) (by simp only [Tryd.f53, cfgM2, resA, resA1, go_sem]; rfl) (by simp only [Obs, and_true, true_and]) (by first | (simp only [kSpl, Con.of, Con.ofO, resV, h1, go_sem]; done) | fail) trivial rfl rfl))
  refine Tri.ret ?_
  refine Con.fin (.inl rfl) (by simp only [Tryd.f53, cfgM2, resA, resA1, go_sem]; rfl) (by simp only [Obs]) ?_ ?_ rfl rfl
  · show AV.tsl 0 [] 0 0 1 (splS (t.getD 0 0) s).length = AV.tsl 0 [] 0 0 1 (splS 47 s).length
    rw [hc]
  · exact ⟨arrEq (by rw [hc]) (by rw [hc]), trivial⟩
theorem spl_sum : FSumOK Tryd.prog cfgM2.G 53 kSpl.sum := Con.sumOK cfgM2_ok kSpl Tryd.func53 rfl rfl (Con.of_inv _ _ _) spl_body
end
end Go.Proofs.YtjdeaphfamenaaaDoor

namespace Go.Proofs.YtjdeaphfamenaaaDoor
open Go.Vc Go.Proofs
set_option maxRecDepth 10000
set_option maxHeartbeats 4000000
def tnS (ps : List (List UInt8)) (r : List UInt8) : List UInt8 := if rgS (ps, r, ()) = true then txS (ps, r, ()) else []
def kTxt : Con := Con.ofO [.w nmL] [] (fun x => [List.length (α := List UInt8) x.1.1 ≤ 9223372036854775807, List.length (α := UInt8) x.1.2.1 ≤ 1000000000, ∀ y ∈ x.1.1, List.length (α := UInt8) y ≤ 1000000000]) (fun x => ⟨.tuple [.str (tnS x.1.1 x.1.2.1), .int .i64 (ckS x.1.1 x.1.2.1)], []⟩)
def cfgN1 : Cfg2 := { ty := tyTab, fn := fun | 18 => some kCheck.sum | 50 => some kJoin.sum | _ => none, G := gNone, pin := [], eq := fun _ => none }
theorem cfgN1_ok : CfgOK Tryd.prog cfgN1 := ⟨tysOK, (fun f s h => by
  simp only [cfgN1] at h
  split at h
  · injection h with h; subst h; exact .inl check_sum
  · injection h with h; subst h; exact .inl join_sum
  · cases h), (fun t d h => by cases h)⟩
section
attribute [local go_sem] Tryd.f23 kTxt kCheck kJoin cfgN1 tyTab
theorem txt_body (p : kTxt.Par) (hp : ∀ q ∈ kTxt.pre p, q) : BodyOK Tryd.prog cfgN1 Tryd.f23 (Tryd.f23.body.get rfl) kTxt p := by
  obtain ⟨⟨(ps : List (List UInt8)), (r : List UInt8), u1⟩, u⟩ := p
  obtain ⟨h0, h1, h2, _⟩ := Obs.of hp
  replace h0 : ps.length ≤ 9223372036854775807 := h0
  replace h1 : r.length ≤ 1000000000 := h1
  replace h2 : ∀ y ∈ ps, List.length y ≤ 1000000000 := h2
  refine ⟨?_, Nat.zero_le _, rfl, rfl⟩
  show Tri _ _ _ (Code.seq _ (Code.seq (Code.seq _ (Code.seq _ (Code.cond _ (Code.seq _ _) _))) (Code.seq _ _))) _
  cases hr : rgS (ps, r, ()) with
  | false =>
    have e1 : ckS ps r = 30 := by rw [ckS, hr]; rfl
    have e2 : tnS ps r = [] := by rw [tnS, hr]; rfl
    have e3 : decide ((30 : Int) = 0) = false := rfl
    refine Tri.at (by first | (simp only [Con.start, go_sem]; rfl) | rfl) ?_
    repeat (first | ((first | refine Tri.seq (Tri.regT (cfgN1_ok.pins _) ?_) | refine Tri.rgnT (cfgN1_ok.pins _) ?_); (repeat (first | refine RunT.oneA (hp := by simp (maxSteps := 2000000) (disch := first | decide | omega | (simp only [List.length_append, List.length_cons, List.length_nil, List.length_take, List.length_drop]; omega)) only [e1, go_sem]; rfl) (h := ?_) | refine RunT.notA (h := ?_))); refine RunT.nil ?_; try simp only [InBlock, Then]) | refine Tri.cF (by first | (simp only [go_sem]; done) | fail) ?_ | refine Tri.cT (by first | (simp only [go_sem]; done) | fail) ?_ | (refine Tri.skip ?_; try simp only [InBlock, Then]) | (refine Tri.exit ?_; simp only [Then, InBlock, if_true, if_false, ↓reduceIte, Nat.reduceEqDiff]) | refine Tri.seq (Tri.block ?_) | refine Tri.block ?_ | refine Tri.seq ?_ | (refine Tri.ret ?_; refine Con.fin (.inl rfl) (by simp only [Tryd.f23, cfgN1, resA, resA1, go_sem]; rfl) (by simp only [Obs]) (by first | (simp only [kTxt, Con.ofO, resV, e1, e2, go_sem]; done) | fail) trivial rfl rfl))
  | true =>
    have e1 : ckS ps r = 0 := by rw [ckS, hr]; rfl
    have e2 : tnS ps r = jn 47 ps ++ [64] ++ r := by rw [tnS, hr, List.append_assoc]; rfl
    have e3 : decide ((0 : Int) = 0) = true := rfl
    obtain ⟨⟨g1, g2⟩, g3, g4⟩ := rg_parts hr
    replace g1 : 1 ≤ ps.length := g1
    replace g2 : ps.length ≤ 3 := g2
    have g5 : (jn 47 ps).length ≤ 51 := by
      have := jn_length 47 16 ps fun x hx => (pr_len (g4 x hx)).2
      exact Nat.le_trans this (Nat.mul_le_mul_right (16 + 1) g2)
    have g6 : (Lib.join ps [47]).length ≤ 51 := by rw [jn_join]; exact g5
    refine Tri.at (by first | (simp only [Con.start, go_sem]; rfl) | rfl) ?_
    repeat (first | ((first | refine Tri.seq (Tri.regT (cfgN1_ok.pins _) ?_) | refine Tri.rgnT (cfgN1_ok.pins _) ?_); (repeat (first | refine RunT.oneA (hp := by simp (maxSteps := 2000000) (disch := first | decide | omega | (simp only [List.length_append, List.length_cons, List.length_nil, List.length_take, List.length_drop]; omega)) only [e1, go_sem]; rfl) (h := ?_) | refine RunT.notA (h := ?_))); refine RunT.nil ?_; try simp only [InBlock, Then]) | ((first | refine Tri.seq (Tri.drwT (mixed) (cfgN1_ok.pins _) ?_) | refine Tri.drnT (mixed) (cfgN1_ok.pins _) ?_); (repeat (first | refine RunD.oneA (hp := by simp (maxSteps := 2000000) (disch := first | decide | omega | (simp only [List.length_append, List.length_cons, List.length_nil, List.length_take, List.length_drop]; omega)) only [jn_join, go_sem]; rfl) (h := ?_) | refine RunD.notA (h := ?_))); refine RunD.nil ?_; refine ⟨by kernel_rfl, ?_⟩; try simp only [InBlock, Then]) | refine Tri.cF (by first | (simp only [go_sem]; done) | fail) ?_ | refine Tri.cT (by first | (simp only [go_sem]; done) | fail) ?_ | (refine Tri.skip ?_; try simp only [Then]) | (refine Tri.exit ?_; simp only [Then, InBlock, if_true, if_false, ↓reduceIte, Nat.reduceEqDiff]) | refine Tri.seq (Tri.block ?_) | refine Tri.block ?_ | refine Tri.seq ?_ | (refine Tri.ret ?_; refine Con.fin (.inl rfl) (by simp only [Tryd.f23, cfgN1, resA, resA1, go_sem]; rfl) (by simp only [Obs]) (by first | (simp only [kTxt, Con.ofO, resV, e1, e2, go_sem]; done) | fail) trivial rfl rfl))
theorem txt_sum : FSumOK Tryd.prog cfgN1.G 23 kTxt.sum := Con.sumOK cfgN1_ok kTxt Tryd.func23 rfl rfl (Con.ofO_inv _ _ _ _) txt_body
end
def cfgN2 : Cfg2 := { ty := tyTab, fn := fun | 18 => some kCheck.sum | 52 => some kCut.sum | 53 => some kSpl.sum | _ => none, G := gNone, pin := [], eq := fun _ => none }
theorem cfgN2_ok : CfgOK Tryd.prog cfgN2 := ⟨tysOK, (fun f s h => by
  simp only [cfgN2] at h
  split at h
  · injection h with h; subst h; exact .inl check_sum
  · injection h with h; subst h; exact .inl cut2_sum
  · injection h with h; subst h; exact .inl spl_sum
  · cases h), (fun t d h => by cases h)⟩
def prV (s : List UInt8) : AV := if rgS (pwS s) = true then .agg [.pure (.slice true .str) (splS 47 (cutA s 64)), .str (cutR s 64)] else .pure nmK ([], [], ())
def pcS (s : List UInt8) : Int := ckS (splS 47 (cutA s 64)) (cutR s 64)
def kPrs : Con := Con.of [.v .str] (fun x => [List.length (α := UInt8) x.1 ≤ 1000000000]) (fun x => ⟨.tuple [prV x.1, .int .i64 (pcS x.1)], []⟩)
theorem cutA_len (s : List UInt8) (c : UInt8) : (cutA s c).length ≤ s.length := by
  unfold cutA; split
  · exact Nat.le_refl _
  · rw [List.length_take]; omega
theorem cutR_len (s : List UInt8) (c : UInt8) : (cutR s c).length ≤ s.length := by
  unfold cutR; split
  · exact Nat.zero_le _
  · rw [List.length_drop]; omega
theorem spl_mem (c : UInt8) : ∀ (s : List UInt8), ∀ x ∈ splS c s, x.length ≤ s.length
  | [], x, h => by simp [splS] at h; simp [h]
  | b :: r, x, h => by
    have ih := spl_mem c r
    unfold splS at h
    split at h
    · rcases List.mem_cons.1 h with rfl | h
      · simp
      · have := ih x h; rw [List.length_cons]; omega
    · split at h
      · rename_i y t e
        rw [e] at ih
        rcases List.mem_cons.1 h with rfl | h
        · have := ih y (by simp); rw [List.length_cons, List.length_cons]; omega
        · have := ih x (by simp [h]); rw [List.length_cons]; omega
      · simp at h; simp [h]
theorem spl_len_le (c : UInt8) (s : List UInt8) : (splS c s).length ≤ s.length + 1 := by
  rw [spl_length c _ s rfl]
  have := cnt_le s c
  omega
section
attribute [local go_sem] Tryd.f25 kPrs kCheck kCut kSpl cfgN2 tyTab
theorem prs_body (p : kPrs.Par) (hp : ∀ q ∈ kPrs.pre p, q) : BodyOK Tryd.prog cfgN2 Tryd.f25 (Tryd.f25.body.get rfl) kPrs p := by
  obtain ⟨(s : List UInt8), u⟩ := p
  obtain ⟨h0, _⟩ := Obs.of hp
  replace h0 : s.length ≤ 1000000000 := h0
  have hA := cutA_len s 64
  have hR := cutR_len s 64
  refine ⟨?_, Nat.zero_le _, (by show (AV.tuple [prV s, .int .i64 (pcS s)]).strict = true; unfold prV; split <;> rfl), rfl⟩
  show Tri _ _ _ (Code.seq _ (Code.seq _ (Code.seq _ (Code.seq (Code.seq _ (Code.seq _ (Code.cond _ (Code.seq _ _) _))) (Code.seq _ _))))) _
  have hl0 := spl_len_le 47 (cutA s 64)
  have hl2 : ∀ y ∈ splS 47 (cutA s 64), List.length y ≤ 1000000000 := by
    intro y hy; have := spl_mem 47 _ y hy; omega
  cases hr : rgS (pwS s) with
  | false =>
    have e1 : ckS (splS 47 (cutA s 64)) (cutR s 64) = 30 := by
      have : rgS (splS 47 (cutA s 64), cutR s 64, ()) = false := hr
      rw [ckS, this]; rfl
    have e2 : prV s = .pure nmK ([], [], ()) := by rw [prV, hr]; rfl
    have e3 : decide ((30 : Int) = 0) = false := rfl
    have e4 : pcS s = 30 := e1
    refine Tri.at (by first | (simp only [Con.start, go_sem]; rfl) | rfl) ?_
    repeat (first | ((first | refine Tri.seq (Tri.regT (cfgN2_ok.pins _) ?_) | refine Tri.rgnT (cfgN2_ok.pins _) ?_); (repeat (first | refine RunT.oneA (hp := by simp (maxSteps := 2000000) (disch := first | decide | omega | (simp only [List.length_append, List.length_cons, List.length_nil, List.length_take, List.length_drop]; omega)) only [List.take_length, e1, go_sem]; rfl) (h := ?_) | refine RunT.notA (h := ?_))); refine RunT.nil ?_; try simp only [InBlock, Then]) | refine Tri.cF (by first | (simp only [go_sem]; done) | fail) ?_ | refine Tri.cT (by first | (simp only [go_sem]; done) | fail) ?_ | (refine Tri.skip ?_; try simp only [InBlock, Then]) | (refine Tri.exit ?_; simp only [Then, InBlock, if_true, if_false, ↓reduceIte, Nat.reduceEqDiff]) | refine Tri.seq (Tri.block ?_) | refine Tri.block ?_ | refine Tri.seq ?_ | (refine Tri.ret ?_; refine Con.fin (.inl rfl) (by simp only [Tryd.f25, cfgN2, resA, resA1, go_sem]; rfl) (by simp only [Obs, and_true]) (by first | (simp only [kPrs, Con.of, resV, e2, e4, go_sem]; done) | fail) trivial rfl rfl))
    refine Tri.ret ?_
    refine Con.fin (.inl rfl) (by simp only [Tryd.f25, cfgN2, resA, resA1, go_sem]; rfl) (by simp only [Obs, and_true]) ?_ ?_ ?_ rfl
    · show AV.tuple [.pure nmK ([], [], ()), .int .i64 30] = AV.tuple [prV s, .int .i64 (pcS s)]
      rw [e2, e4]
    · exact True.intro
    · show (AS.mk [some (.tuple [prV s, .int .i64 (pcS s)])] []).closed = true
      rw [e2]; rfl
  | true =>
    have e1 : ckS (splS 47 (cutA s 64)) (cutR s 64) = 0 := by
      have : rgS (splS 47 (cutA s 64), cutR s 64, ()) = true := hr
      rw [ckS, this]; rfl
    have e2 : prV s = .agg [.pure (.slice true .str) (splS 47 (cutA s 64)), .str (cutR s 64)] := by rw [prV, hr]; rfl
    have e3 : decide ((0 : Int) = 0) = true := rfl
    have e4 : pcS s = 0 := e1
    refine Tri.at (by first | (simp only [Con.start, go_sem]; rfl) | rfl) ?_
    repeat (first | ((first | refine Tri.seq (Tri.regT (cfgN2_ok.pins _) ?_) | refine Tri.rgnT (cfgN2_ok.pins _) ?_); (repeat (first | refine RunT.oneA (hp := by simp (maxSteps := 2000000) (disch := first | decide | omega | (simp only [List.length_append, List.length_cons, List.length_nil, List.length_take, List.length_drop]; omega)) only [List.take_length, e1, go_sem]; rfl) (h := ?_) | refine RunT.notA (h := ?_))); refine RunT.nil ?_; try simp only [InBlock, Then]) | refine Tri.cF (by first | (simp only [go_sem]; done) | fail) ?_ | refine Tri.cT (by first | (simp only [go_sem]; done) | fail) ?_ | (refine Tri.skip ?_; try simp only [Then]) | (refine Tri.exit ?_; simp only [Then, InBlock, if_true, if_false, ↓reduceIte, Nat.reduceEqDiff]) | refine Tri.seq (Tri.block ?_) | refine Tri.block ?_ | refine Tri.seq ?_ | (refine Tri.ret ?_; refine Con.fin (.inl rfl) (by simp only [Tryd.f25, cfgN2, resA, resA1, go_sem]; rfl) (by simp only [Obs, and_true]) (by first | (simp only [kPrs, Con.of, resV, e2, e4, go_sem]; done) | fail) trivial rfl rfl))
    refine Tri.rel true 1 rfl ?_ rfl rfl ?_
    · simp only [go_sem]
      repeat' constructor
    refine Tri.at (by first | (simp only [List.take_length, go_sem]; rfl) | rfl) ?_
    repeat (first | ((first | refine Tri.seq (Tri.regT (cfgN2_ok.pins _) ?_) | refine Tri.rgnT (cfgN2_ok.pins _) ?_); (repeat (first | refine RunT.oneA (hp := by simp (maxSteps := 2000000) (disch := first | decide | omega | (simp only [List.length_append, List.length_cons, List.length_nil, List.length_take, List.length_drop]; omega)) only [Int.natCast_one, List.take_length, e1, e2, e3, e4, go_sem]; rfl) (h := ?_) | refine RunT.notA (h := ?_))); refine RunT.nil ?_; try simp only [InBlock, Then]) | refine Tri.cF (by first | (simp only [go_sem]; done) | fail) ?_ | refine Tri.cT (by first | (simp only [go_sem]; done) | fail) ?_ | (refine Tri.skip ?_; try simp only [InBlock, Then]) | (refine Tri.exit ?_; simp only [Then, InBlock, if_true, if_false, ↓reduceIte, Nat.reduceEqDiff]) | refine Tri.seq (Tri.block ?_) | refine Tri.block ?_ | refine Tri.seq ?_ | (refine Tri.ret ?_; refine Con.fin (.inl rfl) (by simp only [Tryd.f25, cfgN2, resA, resA1, go_sem]; rfl) (by simp only [Obs, and_true]) (by first | (simp only [kPrs, Con.of, resV, e2, e4, go_sem]; done) | fail) trivial rfl rfl))
    refine Tri.ret ?_
    refine Con.fin (.inl rfl) (by simp only [Tryd.f25, cfgN2, resA, resA1, go_sem]; rfl) (by simp only [Obs, and_true]) ?_ ?_ ?_ rfl
    · show AV.tuple [.agg [.pure (.slice true .str) (splS 47 (cutA s 64)), .str (cutR s 64)], .int .i64 0] = AV.tuple [prV s, .int .i64 (pcS s)]
      rw [e2, e4]
    · exact True.intro
    · show (AS.mk [some (.tuple [prV s, .int .i64 (pcS s)])] []).closed = true
      rw [e2]; rfl
theorem prs_sum : FSumOK Tryd.prog cfgN2.G 25 kPrs.sum := Con.sumOK cfgN2_ok kPrs Tryd.func25 rfl rfl (Con.of_inv _ _ _) prs_body
end
end Go.Proofs.YtjdeaphfamenaaaDoor

namespace Go.Proofs.YtjdeaphfamenaaaDoor
open Go.Vc Go.Proofs
set_option maxRecDepth 10000
set_option maxHeartbeats 4000000
def kSpk : Con := Con.of [] (fun _ => []) (fun _ => ⟨.bool true, []⟩)
theorem sp_1 : prV [104, 111, 115, 116, 47, 98, 108, 117, 101, 64, 76, 65, 78, 68] = .agg [.pure (.slice true .str) [[104, 111, 115, 116], [98, 108, 117, 101]], .str [76, 65, 78, 68]] := by
  rw [prV, if_pos (by decide)]; rfl
theorem sp_2 : pcS [104, 111, 115, 116, 47, 98, 108, 117, 101, 64, 76, 65, 78, 68] = 0 := by decide
theorem sp_3 : prV [97, 64, 98, 64, 99] = .pure nmK ([], [], ()) := by
  rw [prV, if_neg (by decide)]
theorem sp_4 : pcS [97, 64, 98, 64, 99] = 30 := by decide
def cfgO1 : Cfg2 := { ty := tyTab, fn := fun | 25 => some kPrs.sum | _ => none, G := gNone, pin := [], eq := fun _ => none }
theorem cfgO1_ok : CfgOK Tryd.prog cfgO1 := ⟨tysOK, (fun f s h => by
  simp only [cfgO1] at h
  split at h
  · injection h with h; subst h; exact .inl prs_sum
  · cases h), (fun t d h => by cases h)⟩
section
attribute [local go_sem] Tryd.f17 kSpk kPrs cfgO1 tyTab
theorem spk_body (p : kSpk.Par) (hp : ∀ q ∈ kSpk.pre p, q) : BodyOK Tryd.prog cfgO1 Tryd.f17 (Tryd.f17.body.get rfl) kSpk p := by
  obtain ⟨⟩ := p
  refine ⟨?_, Nat.zero_le _, rfl, rfl⟩
  show Tri _ _ _ (Code.seq _ (Code.seq _ (Code.seq _ (Code.seq _ _)))) _
  have e1 : decide ((0 : Int) = 0) = true := rfl
  have e2 : decide (((2 : Nat) : Int) = 2) = true := rfl
  have e3 : strEq [98, 108, 117, 101] [98, 108, 117, 101] = true := rfl
  have e4 : strEq [76, 65, 78, 68] [76, 65, 78, 68] = true := rfl
  have e5 : decide ((30 : Int) = 30) = true := rfl
  refine Tri.at (by first | (simp only [sp_1, sp_2, sp_3, sp_4, e1, e2, e3, e4, e5, Int.reduceToNat, List.getD_cons_succ, Con.start, go_sem]; rfl) | rfl) ?_
  repeat (first | ((first | refine Tri.seq (Tri.regT (cfgO1_ok.pins _) ?_) | refine Tri.rgnT (cfgO1_ok.pins _) ?_); (repeat (first | refine RunT.oneA (hp := by simp (maxSteps := 2000000) (disch := first | decide | omega | (simp only [List.length_append, List.length_cons, List.length_nil, List.length_take, List.length_drop]; omega)) only [sp_1, sp_2, sp_3, sp_4, e1, e2, e3, e4, e5, Int.reduceToNat, List.getD_cons_succ, go_sem]; rfl) (h := ?_) | refine RunT.notA (h := ?_))); refine RunT.nil ?_; try simp only [InBlock, Then]) | refine Tri.cF (by first | (simp only [sp_1, sp_2, sp_3, sp_4, e1, e2, e3, e4, e5, Int.reduceToNat, List.getD_cons_succ, go_sem]; done) | fail) ?_ | refine Tri.cT (by first | (simp only [sp_1, sp_2, sp_3, sp_4, e1, e2, e3, e4, e5, Int.reduceToNat, List.getD_cons_succ, go_sem]; done) | fail) ?_ | (refine Tri.skip ?_; try simp only [InBlock, Then]) | (refine Tri.exit ?_; simp only [Then, InBlock, if_true, if_false, ↓reduceIte, Nat.reduceEqDiff]) | refine Tri.seq (Tri.block ?_) | refine Tri.block ?_ | refine Tri.seq ?_ | (refine Tri.ret ?_; refine Con.fin (.inl rfl) (by simp only [Tryd.f17, cfgO1, resA, resA1, go_sem]; rfl) (by simp only [Obs, and_true, true_and]) (by first | (simp only [kSpk, Con.of, Con.ofO, resV, sp_1, sp_2, sp_3, sp_4, e1, e2, e3, e4, e5, Int.reduceToNat, List.getD_cons_succ, go_sem]; done) | fail) trivial rfl rfl))
theorem spk_sum : FSumOK Tryd.prog cfgO1.G 17 kSpk.sum := Con.sumOK cfgO1_ok kSpk Tryd.func17 rfl rfl (Con.of_inv _ _ _) spk_body
end
end Go.Proofs.YtjdeaphfamenaaaDoor
