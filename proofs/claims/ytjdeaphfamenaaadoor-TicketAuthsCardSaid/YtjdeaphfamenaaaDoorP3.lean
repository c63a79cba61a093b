/- Part of a proof: authenticators are written and read as the document says -/
import Derived.Shelf.Bytes.SlClone
import Derived.Test.YtjdeaphfamenaaaDoorP1
import Derived.Test.YtjdeaphfamenaaaDoorVc4
import Derived.Test.YtjdeaphfamenaaaDoorP2
set_option linter.unusedVariables false
set_option linter.unusedSimpArgs false
set_option linter.unusedSectionVars false
namespace Go.Proofs
open Go.Shelf
def Tryd.laysSlK4_ren : Go.Shelf.Ren := ⟨fun | 4 => 96 | n => n, fun | 22 => 47 | 4 => 4 | 5 => 5 | n => n, fun | n => n⟩
theorem Tryd.laysSlK4 : Go.Proofs.SlLaysK.n4 Tryd.prog Tryd.laysSlK4_ren := {
  mixed := by kernel_rfl
  f4 := Tryd.func96.trans (congrArg some (by kernel_rfl))
  t4 := Tryd.underlying4
  a4 := Tryd.isAgg4
  z4 := Tryd.sizeOf4
  v4 := Tryd.zeroValue4
  t22 := Tryd.underlying47
  a22 := Tryd.isAgg47
  z22 := Tryd.sizeOf47
  v22 := Tryd.zeroValue47
  t5 := Tryd.underlying5
  i5 := by kernel_rfl }
end Go.Proofs
namespace Go.Proofs.YtjdeaphfamenaaaDoor
open Go.Vc Go.Proofs
set_option maxRecDepth 10000
set_option maxHeartbeats 4000000
def kClo : Con := Con.ofO [.a (.v (.slice false (.int .u8)))] [] (fun x => [List.length (α := UInt8) x.1 ≤ 140737488355328]) (fun x => ⟨.pure (.slice true (.int .u8)) x.1, []⟩)
theorem clo_sum : FSumOK Tryd.prog gNone 96 kClo.sum := by
  refine Con.sumOKn kClo Tryd.func96 rfl rfl (Con.ofO_inv _ _ _ _) rfl ?_
  rintro ⟨(xs : List UInt8), u⟩ hp
  obtain ⟨h0, _⟩ := Obs.of hp
  replace h0 : xs.length ≤ 140737488355328 := h0
  refine ⟨rfl, rfl, fun x w V hx hV => ?_⟩
  have hV' : RVs x [.pure (.slice false (.int .u8)) xs] V := hV
  clear hV
  cases hV' with
  | cons _ _ X1 _ h2 hr =>
    cases hr
    obtain ⟨A, cap, e1, h4, h5⟩ := h2.slice_inv
    injection e1 with e1 _
    subst e1
    have hlast : ∀ (e : Ending) (w' : World) (v' : Value), e = .returned v' → w'.ownsRow w.heap.size 5 1 v' xs.length (xs.map fun b => Value.int .u8 (UInt8.toNat b : Int)) → RowKit.Below w.heap.size w w' →
        ∃ X, e = .returned X ∧ RowKit.Below w.heap.size w w' ∧ ∀ x' : Ctx, x'.hp = (fun b => w'.heap[b]?) → (∀ own b, w.heap.size ≤ b → x'.ok own b) → RV x' (.pure (.slice true (.int .u8)) xs) X := by
      intro e w' v' he hown hb
      refine ⟨v', he, hb, fun x' hx' hok => ?_⟩
      obtain ⟨_, h | ⟨g, cp, cur, hv, hg, hh, hn, _, hsz, htk⟩⟩ := hown
      · have hx0 : xs = [] := List.eq_nil_of_length_eq_zero h.2
        subst hx0
        rw [h.1]
        exact .one _ _ rfl (.pure _ _ _ ⟨none, 0, rfl, Nat.le_refl _, .inl rfl⟩)
      · rw [hv]
        refine .one _ _ rfl (.pure _ _ _ ⟨_, cp, rfl, hn, .inr ⟨g, 0, cur, 5, (0, 0), _, rfl, hok true g hg, by rw [hx']; exact hh, RL.u8s xs, ?_⟩⟩)
        rw [List.drop_zero, List.length_map]
        rw [Nat.mul_one] at htk
        exact htk
    cases A with
    | none =>
      have hx0 : xs = [] := by
        rcases h5 with h5 | ⟨b, o, rc, el, fr, flat, h6, _⟩
        · exact h5
        · cases h6
      subst hx0
      exact (Any.bytes_Clone_nil (P := Tryd.prog) Tryd.laysSlK4 0 cap w).mono fun e w' ⟨h, hw⟩ => hlast e w' _ h ⟨rfl, .inl ⟨rfl, rfl⟩⟩ (hw ▸ RowKit.Below.refl _ _)
    | some a =>
      have hcl := Any.bytes_Clone_at (P := Tryd.prog) Tryd.laysSlK4 a xs.length cap (xs.map fun b => (UInt8.toNat b : Int)) w (by rw [List.length_map]) h0 (fun i hi => by
        rcases h5 with h5 | ⟨b, o, rc, el, fr, flat, h6, _, h7, h8, h9⟩
        · have : xs = [] := h5
          subst this
          simp at hi
        · injection h6 with h6
          subst h6
          have hfl := Reads.u8s h8
          rw [hx] at h7
          have h7' : w.heap[b]? = some (.cells rc el fr) := h7
          have hj1 : flat[i]? = some (.int .u8 (UInt8.toNat (xs[i]) : Int)) := by rw [hfl, List.getElem?_map, List.getElem?_eq_getElem hi]; rfl
          have hjl : i < flat.length := (List.getElem?_eq_some_iff.1 hj1).1
          rw [← h9, List.getElem?_take, if_pos hjl, List.getElem?_drop, Array.getElem?_toList] at hj1
          have hadd : (⟨b, o, none⟩ : Addr).add i = ⟨b, o + i, none⟩ := by
            by_cases hi0 : i = 0
            · subst hi0; rfl
            · simp [Addr.add, hi0]
          rw [hadd]
          simp only [World.cell?, h7', Option.isSome_none, Bool.false_eq_true, if_false]
          rw [hj1, List.getD_eq_getElem?_getD, List.getElem?_map, List.getElem?_eq_getElem hi]
          rfl)
      refine hcl.mono fun e w' ⟨v', he, hown, _, hb⟩ => hlast e w' v' he ?_ hb
      rw [List.map_map] at hown
      exact hown
def kNumP : Con := Con.of [.v (.int .u64)] (fun _ => []) (fun x => ⟨.pure (.slice true (.int .u8)) (numS x.1), []⟩)
section
attribute [local go_sem] Tryd.f60 kNumP kRev cfgR2 tyTab
theorem numP_body (p : kNumP.Par) (hp : ∀ q ∈ kNumP.pre p, q) : BodyOK Tryd.prog cfgR2 Tryd.f60 (Tryd.f60.body.get rfl) kNumP p := by
  obtain ⟨(n0 : UInt64), u⟩ := p
  refine ⟨?_, Nat.zero_le _, rfl, rfl⟩
  show Tri _ _ _ (Code.seq _ (Code.seq (Code.block _ (Code.loop (Code.seq (Code.seq _ (Code.cond _ _ _)) (Code.seq (Code.block _ _) _)))) (Code.seq _ (Code.seq _ _)))) _
  refine Tri.at (by first | (simp only [Con.start, go_sem]; rfl) | rfl) ?_
  repeat (first | ((first | refine Tri.seq (Tri.regT (cfgR2_ok.pins _) ?_) | refine Tri.rgnT (cfgR2_ok.pins _) ?_); (repeat (first | refine RunT.oneA (hp := by simp (maxSteps := 2000000) (disch := first | decide | omega | (simp only [List.length_append, List.length_cons, List.length_nil, List.length_take, List.length_drop]; omega)) only [go_sem]; rfl) (h := ?_) | refine RunT.notA (h := ?_))); refine RunT.nil ?_; try simp only [InBlock, Then]) | ((first | refine Tri.seq (Tri.drwT (mixed) (cfgR2_ok.pins _) ?_) | refine Tri.drnT (mixed) (cfgR2_ok.pins _) ?_); (repeat (first | refine RunD.oneA (hp := by simp (maxSteps := 2000000) (disch := first | decide | omega | (simp only [List.length_append, List.length_cons, List.length_nil, List.length_take, List.length_drop]; omega)) only [List.take_of_length_le, go_sem]; rfl) (h := ?_) | refine RunD.notA (h := ?_))); refine RunD.nil ?_; refine ⟨by kernel_rfl, ?_⟩; try simp only [InBlock, Then]) | refine Tri.cF (by first | (simp only [go_sem]; done) | fail) ?_ | refine Tri.cT (by first | (simp only [go_sem]; done) | fail) ?_ | (refine Tri.skip ?_; try simp only [InBlock, Then]) | (refine Tri.exit ?_; simp only [Then, InBlock, if_true, if_false, ↓reduceIte, Nat.reduceEqDiff]) | refine Tri.seq (Tri.block ?_) | refine Tri.block ?_ | refine Tri.seq ?_ | (refine Tri.ret ?_; refine Con.fin (.inl rfl) (by simp only [Tryd.f60, cfgR2, resA, resA1, go_sem]; rfl) (by simp only [Obs, and_true, true_and]) (by first | (simp only [kNumP, Con.of, Con.ofO, resV, List.take_of_length_le, go_sem]; done) | fail) trivial rfl rfl))
  refine Tri.phT 2 (.int .u8) 1 rfl rfl ?_
  refine Tri.loop (fun s : UInt64 × List UInt8 => (⟨[some (.int .u64 s.1), none, some (.tsl 0 [] 0 0 1 s.2.length)] ++ List.replicate 12 none, [.live (.pure (.arr s.2.length (.int .u8)) s.2)]⟩ : AS)) (fun s => s.2.length ≤ 8 ∧ s.1.toNat < 256 ^ (8 - s.2.length) ∧ s.2 ++ leN (8 - s.2.length) s.1 = leN 8 n0) (fun s => 8 - s.2.length) (n0, []) ?_ ⟨Nat.zero_le _, UInt64.toNat_lt n0, rfl⟩ ?_
  · refine Wk.of ?_ ?_ rfl rfl
    · simp only [List.reduceReplicate, List.cons_append, List.nil_append, List.length_nil] <;> ((repeat' apply And.intro) <;> first | with_reducible rfl | exact True.intro | exact congrArg (fun z : Int => some (AV.int IntKind.i64 z)) (show (_ : Int) = _ by omega) | exact congrArg (fun z : Nat => some (AV.tsl _ _ _ _ _ z)) (show (_ : Nat) = _ by omega) | exact arrEq (by omega) (by with_reducible rfl))
    · simp only [List.length_nil] <;> ((repeat' apply And.intro) <;> first | with_reducible rfl | exact True.intro | exact congrArg (fun z : Int => some (AV.int IntKind.i64 z)) (show (_ : Int) = _ by omega) | exact congrArg (fun z : Nat => some (AV.tsl _ _ _ _ _ z)) (show (_ : Nat) = _ by omega) | exact arrEq (by omega) (by with_reducible rfl))
  · intro ⟨n, acc⟩ ⟨ha, hn, he⟩
    replace ha : acc.length ≤ 8 := ha
    replace hn : n.toNat < 256 ^ (8 - acc.length) := hn
    replace he : acc ++ leN (8 - acc.length) n = leN 8 n0 := he
    have htk : List.take acc.length acc = acc := List.take_length
    by_cases hz : n = 0
    · have hz' : decide ((0 : UInt64) < n) = false := by rw [hz]; rfl
      have hl : leN (8 - acc.length) n = [] := by
        subst hz
        cases 8 - acc.length <;> rfl
      rw [hl, List.append_nil] at he
      subst he
      refine Tri.at (by first | (simp only [go_sem]; rfl) | rfl) ?_
      repeat (first | ((first | refine Tri.seq (Tri.regT (cfgR2_ok.pins _) ?_) | refine Tri.rgnT (cfgR2_ok.pins _) ?_); (repeat (first | refine RunT.oneA (hp := by simp (maxSteps := 2000000) (disch := first | decide | omega | (simp only [List.length_append, List.length_cons, List.length_nil, List.length_take, List.length_drop]; omega)) only [hz', go_sem]; rfl) (h := ?_) | refine RunT.notA (h := ?_))); refine RunT.nil ?_; try simp only []) | ((first | refine Tri.seq (Tri.drwT (mixed) (cfgR2_ok.pins _) ?_) | refine Tri.drnT (mixed) (cfgR2_ok.pins _) ?_); (repeat (first | refine RunD.oneA (hp := by simp (maxSteps := 2000000) (disch := first | decide | omega | (simp only [List.length_append, List.length_cons, List.length_nil, List.length_take, List.length_drop]; omega)) only [hz', htk, go_sem]; rfl) (h := ?_) | refine RunD.notA (h := ?_))); refine RunD.nil ?_; refine ⟨by kernel_rfl, ?_⟩; try simp only [InBlock, Then]) | refine Tri.cF (by first | (simp only [go_sem]; done) | fail) ?_ | refine Tri.cT (by first | (simp only [go_sem]; done) | fail) ?_ | (refine Tri.skip ?_; try simp only [InBlock, Then]) | (refine Tri.exit ?_; simp only [Then, InBlock, ↓reduceIte]) | refine Tri.seq (Tri.block ?_) | refine Tri.block ?_ | refine Tri.seq ?_ | (refine Tri.ret ?_; refine Con.fin (.inl rfl) (by simp only [Tryd.f60, cfgR2, resA, resA1, go_sem]; rfl) (by simp only [Obs]) (by first | (simp only [kNumP, Con.of, resV, go_sem]; done) | fail) trivial rfl rfl))
      have hrl : List.take (leN 8 n0).length (leN 8 n0).reverse = (leN 8 n0).reverse := List.take_of_length_le (by rw [List.length_reverse]; exact Nat.le_refl _)
      refine Tri.rel true 0 rfl ?_ rfl rfl ?_
      · simp only [go_sem]
        repeat' constructor
      refine Tri.at (by first | (simp only [hrl, go_sem]; rfl) | rfl) ?_
      refine Tri.ret ?_
      refine Con.fin (.inl rfl) (by simp only [Tryd.f60, cfgR2, resA, resA1, go_sem]; rfl) (by simp only [Obs]) ?_ ?_ rfl rfl
      · rfl
      · exact True.intro
    · have hz' : decide ((0 : UInt64) < n) = true := by
        refine decide_eq_true ?_
        rw [UInt64.lt_iff_toNat_lt]
        have : n.toNat ≠ 0 := fun e => hz (UInt64.toNat_inj.1 e)
        show 0 < n.toNat
        omega
      obtain ⟨k, hk⟩ : ∃ k, 8 - acc.length = k + 1 := by
        cases h8 : 8 - acc.length with
        | zero => rw [h8] at hn; have : n.toNat = 0 := by simpa using hn
                  exact absurd (UInt64.toNat_inj.1 this) hz
        | succ k => exact ⟨k, rfl⟩
      refine Tri.at (by first | (simp only [go_sem]; rfl) | rfl) ?_
      repeat (first | ((first | refine Tri.seq (Tri.regT (cfgR2_ok.pins _) ?_) | refine Tri.rgnT (cfgR2_ok.pins _) ?_); (repeat (first | refine RunT.oneA (hp := by simp (maxSteps := 2000000) (disch := first | decide | omega | (simp only [List.length_append, List.length_cons, List.length_nil, List.length_take, List.length_drop]; omega)) only [hz', htk, go_sem]; rfl) (h := ?_) | refine RunT.notA (h := ?_))); refine RunT.nil ?_; try simp only [InBlock, Then]) | ((first | refine Tri.seq (Tri.drwT (mixed) (cfgR2_ok.pins _) ?_) | refine Tri.drnT (mixed) (cfgR2_ok.pins _) ?_); (repeat (first | refine RunD.oneA (hp := by simp (maxSteps := 2000000) (disch := first | decide | omega | (simp only [List.length_append, List.length_cons, List.length_nil, List.length_take, List.length_drop]; omega)) only [hz', htk, go_sem]; rfl) (h := ?_) | refine RunD.notA (h := ?_))); refine RunD.nil ?_; refine ⟨by kernel_rfl, ?_⟩; try simp only [InBlock, Then]) | refine Tri.cF (by first | (simp only [go_sem]; done) | fail) ?_ | refine Tri.cT (by first | (simp only [go_sem]; done) | fail) ?_ | (refine Tri.skip ?_; try simp only [Then]) | (refine Tri.exit ?_; simp only [Then, InBlock, if_true, if_false, ↓reduceIte, Nat.reduceEqDiff]) | refine Tri.seq (Tri.block ?_) | refine Tri.block ?_ | refine Tri.seq ?_ | (refine Tri.ret ?_; refine Con.fin (.inl rfl) (by simp only [Tryd.f60, cfgR2, resA, resA1, go_sem]; rfl) (by simp only [Obs, and_true, true_and]) (by first | (simp only [kNumP, Con.of, Con.ofO, resV, hz', htk, go_sem]; done) | fail) trivial rfl rfl))
      have h8 : 8 - (acc ++ [n.toUInt8]).length = k := by rw [List.length_append]; simp; omega
      refine ⟨(n >>> 8, acc ++ [n.toUInt8]), ⟨?_, ?_, ?_⟩, ?_, Wk.of ?_ ?_ rfl rfl⟩
      · rw [List.length_append]; simp; omega
      · show (n >>> 8).toNat < 256 ^ (8 - (acc ++ [n.toUInt8]).length)
        rw [h8]
        rw [hk] at hn
        exact shr8_lt hn
      · show (acc ++ [n.toUInt8]) ++ leN (8 - (acc ++ [n.toUInt8]).length) (n >>> 8) = _
        rw [h8, ← he, hk]
        conv => rhs; unfold leN
        rw [if_neg hz]
        simp
      · show 8 - (acc ++ [n.toUInt8]).length < 8 - acc.length
        omega
      · simp only [lessTs, List.reduceReplicate, List.cons_append, List.nil_append, List.length_append, List.length_cons, List.length_nil] <;> ((repeat' apply And.intro) <;> first | with_reducible rfl | exact True.intro | exact congrArg (fun z : Int => some (AV.int IntKind.i64 z)) (show (_ : Int) = _ by omega) | exact congrArg (fun z : Nat => some (AV.tsl _ _ _ _ _ z)) (show (_ : Nat) = _ by omega) | exact arrEq (by omega) (by with_reducible rfl))
      · exact ⟨arrEq (by simp) rfl, trivial⟩
theorem numP_sum : FSumOK Tryd.prog cfgR2.G 60 kNumP.sum := Con.sumOK cfgR2_ok kNumP Tryd.func60 rfl rfl (Con.of_inv _ _ _) numP_body
end
def kBEq : Con := Con.of [.v (.slice false (.int .u8)), .v (.slice false (.int .u8))] (fun _ => []) (fun x => ⟨.bool (strEq x.1 x.2.1), []⟩)
def cfgK0 : Cfg2 := { ty := tyTab, fn := fun  | _ => none, G := gNone, pin := [], eq := fun _ => none }
theorem cfgK0_ok : CfgOK Tryd.prog cfgK0 := ⟨tysOK, (fun f s h => by cases h), (fun t d h => by cases h)⟩
section
attribute [local go_sem] Tryd.f105 kBEq cfgK0 tyTab
theorem beq_body (p : kBEq.Par) (hp : ∀ q ∈ kBEq.pre p, q) : BodyOK Tryd.prog cfgK0 Tryd.f105 (Tryd.f105.body.get rfl) kBEq p := by
  obtain ⟨(a : List UInt8), (b : List UInt8), u⟩ := p
  refine ⟨?_, Nat.zero_le _, rfl, rfl⟩
  show Tri _ _ _ (Code.seq _ (Code.seq _ _)) _
  refine Tri.at (by first | (simp only [go_sem, Con.start, go_sem]; rfl) | rfl) ?_
  repeat (first | ((first | refine Tri.seq (Tri.regT (cfgK0_ok.pins _) ?_) | refine Tri.rgnT (cfgK0_ok.pins _) ?_); (repeat (first | refine RunT.oneA (hp := by simp (maxSteps := 2000000) (disch := first | decide | omega | (simp only [List.length_append, List.length_cons, List.length_nil, List.length_take, List.length_drop]; omega)) only [go_sem, go_sem]; rfl) (h := ?_) | refine RunT.notA (h := ?_))); refine RunT.nil ?_; try simp only [InBlock, Then]) | refine Tri.cF (by first | (simp only [go_sem, go_sem]; done) | fail) ?_ | refine Tri.cT (by first | (simp only [go_sem, go_sem]; done) | fail) ?_ | (refine Tri.skip ?_; try simp only [InBlock, Then]) | (refine Tri.exit ?_; simp only [Then, InBlock, if_true, if_false, ↓reduceIte, Nat.reduceEqDiff]) | refine Tri.seq (Tri.block ?_) | refine Tri.block ?_ | refine Tri.seq ?_ | (refine Tri.ret ?_; refine Con.fin (.inl rfl) (by simp only [Tryd.f105, cfgK0, resA, resA1, go_sem]; rfl) (by simp only [Obs]) (by first | (simp only [kBEq, Con.of, resV, go_sem, go_sem]; done) | fail) trivial rfl rfl))
theorem beq_sum : FSumOK Tryd.prog cfgK0.G 105 kBEq.sum := Con.sumOK cfgK0_ok kBEq Tryd.func105 rfl rfl (Con.of_inv _ _ _) beq_body
end
end Go.Proofs.YtjdeaphfamenaaaDoor

namespace Go.Proofs.YtjdeaphfamenaaaDoor
open Go.Vc Go.Proofs
set_option maxRecDepth 10000
set_option maxHeartbeats 4000000
def rdI (b : List UInt8) : Nat → UInt64
  | 0 => 0
  | i + 1 => (rdI b i <<< 8) ||| (b.getD i 0).toUInt64
def rdB (b : List UInt8) : Bool := !(decide ((8 : Int) < (b.length : Int)) || (decide ((0 : Int) < (b.length : Int)) && decide (b.getD 0 0 = 0)))
def rdU (b : List UInt8) : UInt64 := if rdB b = true then rdI b b.length else 0
def kRd : Con := Con.of [.v (.slice false (.int .u8))] (fun x => [List.length (α := UInt8) x.1 ≤ 9223372036854775807]) (fun x => ⟨.tuple [.int .u64 (rdU x.1), .bool (rdB x.1)], []⟩)
def cfgKB0 : Cfg2 := { ty := tyTab, fn := fun  | _ => none, G := gNone, pin := [], eq := fun _ => none }
theorem cfgKB0_ok : CfgOK Tryd.prog cfgKB0 := ⟨tysOK, (fun f s h => by cases h), (fun t d h => by cases h)⟩
section
attribute [local go_sem] Tryd.f94 kRd cfgKB0 tyTab
theorem trd_body (p : kRd.Par) (hp : ∀ q ∈ kRd.pre p, q) : BodyOK Tryd.prog cfgKB0 Tryd.f94 (Tryd.f94.body.get rfl) kRd p := by
  obtain ⟨(b : List UInt8), u⟩ := p
  obtain ⟨h0, _⟩ := Obs.of hp
  replace h0 : b.length ≤ 9223372036854775807 := h0
  refine ⟨?_, Nat.zero_le _, rfl, rfl⟩
  show Tri _ _ _ (Code.seq _ (Code.seq (Code.seq _ (Code.cond _ (Code.seq _ _) _)) (Code.seq (Code.seq _ (Code.block _ (Code.loop (Code.seq _ (Code.seq (Code.cond _ _ _) (Code.seq (Code.block _ (Code.seq _ _)) _)))))) (Code.seq _ _)))) _
  cases b1 : decide ((8 : Int) < (b.length : Int)) with
  | true =>
    have e1 : rdB b = false := by rw [rdB, b1]; rfl
    have e2 : rdU b = 0 := by rw [rdU, e1]; rfl
    refine Tri.at (by first | (simp only [Con.start, go_sem]; rfl) | rfl) ?_
    repeat (first | ((first | refine Tri.seq (Tri.regT (cfgKB0_ok.pins _) ?_) | refine Tri.rgnT (cfgKB0_ok.pins _) ?_); (repeat (first | refine RunT.oneA (hp := by simp (maxSteps := 2000000) (disch := first | decide | omega | (simp only [List.length_append, List.length_cons, List.length_nil, List.length_take, List.length_drop]; omega)) only [b1, go_sem]; rfl) (h := ?_) | refine RunT.notA (h := ?_))); refine RunT.nil ?_; try simp only [InBlock, Then]) | refine Tri.cF (by first | (simp only [go_sem]; done) | fail) ?_ | refine Tri.cT (by first | (simp only [go_sem]; done) | fail) ?_ | (refine Tri.skip ?_; try simp only [InBlock, Then]) | (refine Tri.exit ?_; simp only [Then, InBlock, if_true, if_false, ↓reduceIte, Nat.reduceEqDiff]) | refine Tri.seq (Tri.block ?_) | refine Tri.block ?_ | refine Tri.seq ?_ | (refine Tri.ret ?_; refine Con.fin (.inl rfl) (by simp only [Tryd.f94, cfgKB0, resA, resA1, go_sem]; rfl) (by simp only [Obs]) (by first | (simp only [kRd, Con.of, resV, e1, e2, go_sem]; done) | fail) trivial rfl rfl))
  | false =>
  cases b2 : decide ((0 : Int) < (b.length : Int)) && decide (b.getD 0 0 = 0) with
  | true =>
    have b2' := b2
    rw [Bool.and_eq_true] at b2'
    obtain ⟨b3, b4⟩ := b2'
    have hpos : 0 < b.length := by have := of_decide_eq_true b3; omega
    have e1 : rdB b = false := by rw [rdB, b1, b2]; rfl
    have e2 : rdU b = 0 := by rw [rdU, e1]; rfl
    refine Tri.at (by first | (simp only [Con.start, go_sem]; rfl) | rfl) ?_
    repeat (first | ((first | refine Tri.seq (Tri.regT (cfgKB0_ok.pins _) ?_) | refine Tri.rgnT (cfgKB0_ok.pins _) ?_); (repeat (first | refine RunT.oneA (hp := by simp (maxSteps := 2000000) (disch := first | decide | omega | (simp only [List.length_append, List.length_cons, List.length_nil, List.length_take, List.length_drop]; omega)) only [b1, b3, b4, go_sem]; rfl) (h := ?_) | refine RunT.notA (h := ?_))); refine RunT.nil ?_; try simp only [InBlock, Then]) | refine Tri.cF (by first | (simp only [go_sem]; done) | fail) ?_ | refine Tri.cT (by first | (simp only [go_sem]; done) | fail) ?_ | (refine Tri.skip ?_; try simp only [InBlock, Then]) | (refine Tri.exit ?_; simp only [Then, InBlock, if_true, if_false, ↓reduceIte, Nat.reduceEqDiff]) | refine Tri.seq (Tri.block ?_) | refine Tri.block ?_ | refine Tri.seq ?_ | (refine Tri.ret ?_; refine Con.fin (.inl rfl) (by simp only [Tryd.f94, cfgKB0, resA, resA1, go_sem]; rfl) (by simp only [Obs]) (by first | (simp only [kRd, Con.of, resV, e1, e2, go_sem]; done) | fail) trivial rfl rfl))
  | false =>
    have e1 : rdB b = true := by rw [rdB, b1, b2]; rfl
    have e2 : rdU b = rdI b b.length := by rw [rdU, if_pos e1]
    cases b3 : decide ((0 : Int) < (b.length : Int))
    · have hz : b.length = 0 := by have := of_decide_eq_false b3; omega
      refine Tri.at (by first | (simp only [Con.start, go_sem]; rfl) | rfl) ?_
      repeat (first | ((first | refine Tri.seq (Tri.regT (cfgKB0_ok.pins _) ?_) | refine Tri.rgnT (cfgKB0_ok.pins _) ?_); (repeat (first | refine RunT.oneA (hp := by simp (maxSteps := 2000000) (disch := first | decide | omega | (simp only [List.length_append, List.length_cons, List.length_nil, List.length_take, List.length_drop]; omega)) only [b1, b3, go_sem]; rfl) (h := ?_) | refine RunT.notA (h := ?_))); refine RunT.nil ?_; try simp only [InBlock, Then]) | refine Tri.cF (by first | (simp only [go_sem]; done) | fail) ?_ | refine Tri.cT (by first | (simp only [go_sem]; done) | fail) ?_ | (refine Tri.skip ?_; try simp only [Then]) | (refine Tri.exit ?_; simp only [Then, InBlock, if_true, if_false, ↓reduceIte, Nat.reduceEqDiff]) | refine Tri.seq (Tri.block ?_) | refine Tri.block ?_ | refine Tri.seq ?_ | (refine Tri.ret ?_; refine Con.fin (.inl rfl) (by simp only [Tryd.f94, cfgKB0, resA, resA1, go_sem]; rfl) (by simp only [Obs, and_true, true_and]) (by first | (simp only [kRd, Con.of, Con.ofO, resV, b1, b3, go_sem]; done) | fail) trivial rfl rfl))
      have hb0 : b = [] := List.eq_nil_of_length_eq_zero hz
      subst hb0
      refine Tri.loop (fun i : Nat => (⟨[some (.pure (.slice false (.int .u8)) []), none, some (.int .u64 (0 : UInt64)), none, none, none, none, none, none, none, none, none, none, none, none, none, none, none, none, none, some (.pure (.slice false (.int .u8)) []), some (.int .i64 (0 : Int)), some (.int .i64 (0 : Int))] ++ List.replicate 10 none, []⟩ : AS)) (fun i => True) (fun i => 0) 0 ?_ True.intro ?_
      · refine Wk.of ?_ ?_ rfl rfl
        · simp only [lessTs, List.reduceReplicate, List.cons_append, List.nil_append, List.length_nil] <;> ((repeat' apply And.intro) <;> first | with_reducible rfl | exact True.intro | exact congrArg (fun z : Int => some (AV.int IntKind.i64 z)) (show (_ : Int) = _ by omega) | exact congrArg (fun z : Nat => some (AV.tsl _ _ _ _ _ z)) (show (_ : Nat) = _ by omega) | exact arrEq (by omega) (by with_reducible rfl))
        · simp only [lessHs] <;> ((repeat' apply And.intro) <;> first | with_reducible rfl | exact True.intro | exact congrArg (fun z : Int => some (AV.int IntKind.i64 z)) (show (_ : Int) = _ by omega) | exact congrArg (fun z : Nat => some (AV.tsl _ _ _ _ _ z)) (show (_ : Nat) = _ by omega) | exact arrEq (by omega) (by with_reducible rfl))
      · intro i _
        have z1 : decide ((0 : Int) < 0) = false := rfl
        refine Tri.at (by first | (simp only [go_sem]; rfl) | rfl) ?_
        repeat (first | ((first | refine Tri.seq (Tri.regT (cfgKB0_ok.pins _) ?_) | refine Tri.rgnT (cfgKB0_ok.pins _) ?_); (repeat (first | refine RunT.oneA (hp := by simp (maxSteps := 2000000) (disch := first | decide | omega | (simp only [List.length_append, List.length_cons, List.length_nil, List.length_take, List.length_drop]; omega)) only [go_sem]; rfl) (h := ?_) | refine RunT.notA (h := ?_))); refine RunT.nil ?_; try simp only [InBlock, Then]) | refine Tri.cF (by first | (simp only [go_sem]; done) | fail) ?_ | refine Tri.cT (by first | (simp only [go_sem]; done) | fail) ?_ | (refine Tri.skip ?_; try simp only [InBlock, Then]) | (refine Tri.exit ?_; simp only [Then, InBlock, ↓reduceIte]) | refine Tri.seq (Tri.block ?_) | refine Tri.block ?_ | refine Tri.seq ?_ | (refine Tri.ret ?_; refine Con.fin (.inl rfl) (by simp only [Tryd.f94, cfgKB0, resA, resA1, go_sem]; rfl) (by simp only [Obs]) (by first | (simp only [kRd, Con.of, resV, e1, e2, List.length_nil, rdI, go_sem]; done) | fail) trivial rfl rfl))
    · have hpos : 0 < b.length := by have := of_decide_eq_true b3; omega
      have b4 : decide (b.getD 0 0 = 0) = false := by rw [b3] at b2; simpa using b2
      refine Tri.at (by first | (simp only [Con.start, go_sem]; rfl) | rfl) ?_
      repeat (first | ((first | refine Tri.seq (Tri.regT (cfgKB0_ok.pins _) ?_) | refine Tri.rgnT (cfgKB0_ok.pins _) ?_); (repeat (first | refine RunT.oneA (hp := by simp (maxSteps := 2000000) (disch := first | decide | omega | (simp only [List.length_append, List.length_cons, List.length_nil, List.length_take, List.length_drop]; omega)) only [b1, b3, b4, go_sem]; rfl) (h := ?_) | refine RunT.notA (h := ?_))); refine RunT.nil ?_; try simp only [InBlock, Then]) | refine Tri.cF (by first | (simp only [go_sem]; done) | fail) ?_ | refine Tri.cT (by first | (simp only [go_sem]; done) | fail) ?_ | (refine Tri.skip ?_; try simp only [Then]) | (refine Tri.exit ?_; simp only [Then, InBlock, if_true, if_false, ↓reduceIte, Nat.reduceEqDiff]) | refine Tri.seq (Tri.block ?_) | refine Tri.block ?_ | refine Tri.seq ?_ | (refine Tri.ret ?_; refine Con.fin (.inl rfl) (by simp only [Tryd.f94, cfgKB0, resA, resA1, go_sem]; rfl) (by simp only [Obs, and_true, true_and]) (by first | (simp only [kRd, Con.of, Con.ofO, resV, b1, b3, b4, go_sem]; done) | fail) trivial rfl rfl))
      refine Tri.loop (fun i : Nat => (⟨[some (.pure (.slice false (.int .u8)) b), none, some (.int .u64 (rdI b i)), none, none, none, none, none, none, none, none, none, none, none, none, none, none, none, none, none, some (.pure (.slice false (.int .u8)) b), some (.int .i64 (b.length : Int)), some (.int .i64 (i : Int))] ++ List.replicate 10 none, []⟩ : AS)) (fun i => i ≤ b.length) (fun i => b.length - i) 0 ?_ (Nat.zero_le _) ?_
      · refine Wk.of ?_ ?_ rfl rfl
        · simp only [lessTs, List.reduceReplicate, List.cons_append, List.nil_append, rdI] <;> ((repeat' apply And.intro) <;> first | with_reducible rfl | exact True.intro | exact congrArg (fun z : Int => some (AV.int IntKind.i64 z)) (show (_ : Int) = _ by omega) | exact congrArg (fun z : Nat => some (AV.tsl _ _ _ _ _ z)) (show (_ : Nat) = _ by omega) | exact arrEq (by omega) (by with_reducible rfl))
        · simp only [lessHs] <;> ((repeat' apply And.intro) <;> first | with_reducible rfl | exact True.intro | exact congrArg (fun z : Int => some (AV.int IntKind.i64 z)) (show (_ : Int) = _ by omega) | exact congrArg (fun z : Nat => some (AV.tsl _ _ _ _ _ z)) (show (_ : Nat) = _ by omega) | exact arrEq (by omega) (by with_reducible rfl))
      · intro i hi
        by_cases h1 : i < b.length
        · have h1' : decide ((i : Int) < (b.length : Int)) = true := decide_eq_true (by omega)
          have hrd : rdI b (i + 1) = (rdI b i <<< 8) ||| (b.getD i 0).toUInt64 := rfl
          refine Tri.at (by first | (simp only [go_sem]; rfl) | rfl) ?_
          repeat (first | ((first | refine Tri.seq (Tri.regT (cfgKB0_ok.pins _) ?_) | refine Tri.rgnT (cfgKB0_ok.pins _) ?_); (repeat (first | refine RunT.oneA (hp := by simp (maxSteps := 2000000) (disch := first | decide | omega | (simp only [List.length_append, List.length_cons, List.length_nil, List.length_take, List.length_drop]; omega)) only [h1', go_sem]; rfl) (h := ?_) | refine RunT.notA (h := ?_))); refine RunT.nil ?_; try simp only [InBlock, Then]) | refine Tri.cF (by first | (simp only [go_sem]; done) | fail) ?_ | refine Tri.cT (by first | (simp only [go_sem]; done) | fail) ?_ | (refine Tri.skip ?_; try simp only [Then]) | (refine Tri.exit ?_; simp only [Then, InBlock, if_true, if_false, ↓reduceIte, Nat.reduceEqDiff]) | refine Tri.seq (Tri.block ?_) | refine Tri.block ?_ | refine Tri.seq ?_ | (refine Tri.ret ?_; refine Con.fin (.inl rfl) (by simp only [Tryd.f94, cfgKB0, resA, resA1, go_sem]; rfl) (by simp only [Obs, and_true, true_and]) (by first | (simp only [kRd, Con.of, Con.ofO, resV, h1', go_sem]; done) | fail) trivial rfl rfl))
          refine ⟨i + 1, (by omega), (by omega), Wk.of ?_ ?_ rfl rfl⟩
          · simp only [lessTs, List.reduceReplicate, List.cons_append, List.nil_append, hrd] <;> ((repeat' apply And.intro) <;> first | with_reducible rfl | exact True.intro | exact congrArg (fun z : Int => some (AV.int IntKind.i64 z)) (show (_ : Int) = _ by omega) | exact congrArg (fun z : Nat => some (AV.tsl _ _ _ _ _ z)) (show (_ : Nat) = _ by omega) | exact arrEq (by omega) (by with_reducible rfl))
          · trivial
        · have h1' : decide ((i : Int) < (b.length : Int)) = false := decide_eq_false (by omega)
          have hib : i = b.length := by omega
          subst hib
          refine Tri.at (by first | (simp only [go_sem]; rfl) | rfl) ?_
          repeat (first | ((first | refine Tri.seq (Tri.regT (cfgKB0_ok.pins _) ?_) | refine Tri.rgnT (cfgKB0_ok.pins _) ?_); (repeat (first | refine RunT.oneA (hp := by simp (maxSteps := 2000000) (disch := first | decide | omega | (simp only [List.length_append, List.length_cons, List.length_nil, List.length_take, List.length_drop]; omega)) only [h1', go_sem]; rfl) (h := ?_) | refine RunT.notA (h := ?_))); refine RunT.nil ?_; try simp only [InBlock, Then]) | refine Tri.cF (by first | (simp only [go_sem]; done) | fail) ?_ | refine Tri.cT (by first | (simp only [go_sem]; done) | fail) ?_ | (refine Tri.skip ?_; try simp only [InBlock, Then]) | (refine Tri.exit ?_; simp only [Then, InBlock, ↓reduceIte]) | refine Tri.seq (Tri.block ?_) | refine Tri.block ?_ | refine Tri.seq ?_ | (refine Tri.ret ?_; refine Con.fin (.inl rfl) (by simp only [Tryd.f94, cfgKB0, resA, resA1, go_sem]; rfl) (by simp only [Obs]) (by first | (simp only [kRd, Con.of, resV, e1, e2, go_sem]; done) | fail) trivial rfl rfl))
theorem trd_sum : FSumOK Tryd.prog cfgKB0.G 94 kRd.sum := Con.sumOK cfgKB0_ok kRd Tryd.func94 rfl rfl (Con.of_inv _ _ _) trd_body
end
def kN1 : Con := Con.of [.v (.int .i64), .v (.int .i64)] (fun _ => []) (fun x => ⟨.tuple [.pure (.slice true (.int .u8)) (numS (UInt64.ofInt (toI .i64 x.1))), .bool (!decide (toI .i64 x.1 < 0) && !decide (toI .i64 x.2.1 < toI .i64 x.1))], []⟩)
def cfgKB1 : Cfg2 := { ty := tyTab, fn := fun | 60 => some kNumP.sum | _ => none, G := gNone, pin := [], eq := fun _ => none }
theorem cfgKB1_ok : CfgOK Tryd.prog cfgKB1 := ⟨tysOK, (fun f s h => by
  simp only [cfgKB1] at h
  split at h
  · injection h with h; subst h; exact .inl numP_sum
  · cases h), (fun t d h => by cases h)⟩
section
attribute [local go_sem] Tryd.f103 kN1 kNumP cfgKB1 tyTab
theorem kn1_body (p : kN1.Par) (hp : ∀ q ∈ kN1.pre p, q) : BodyOK Tryd.prog cfgKB1 Tryd.f103 (Tryd.f103.body.get rfl) kN1 p := by
  obtain ⟨(n : Int), (mo : Int), u⟩ := p
  refine ⟨?_, Nat.zero_le _, rfl, rfl⟩
  show Tri _ _ _ (Code.seq _ (Code.seq _ _)) _
  cases b1 : decide (n < 0) with
  | false =>
    have e : (!decide (n < 0) && !decide (mo < n)) = !decide (mo < n) := by rw [b1]; rfl
    refine Tri.at (by first | (simp only [Con.start, go_sem]; rfl) | rfl) ?_
    repeat (first | ((first | refine Tri.seq (Tri.regT (cfgKB1_ok.pins _) ?_) | refine Tri.rgnT (cfgKB1_ok.pins _) ?_); (repeat (first | refine RunT.oneA (hp := by simp (maxSteps := 2000000) (disch := first | decide | omega | (simp only [List.length_append, List.length_cons, List.length_nil, List.length_take, List.length_drop]; omega)) only [b1, go_sem]; rfl) (h := ?_) | refine RunT.notA (h := ?_))); refine RunT.nil ?_; try simp only [InBlock, Then]) | refine Tri.cF (by first | (simp only [go_sem]; done) | fail) ?_ | refine Tri.cT (by first | (simp only [go_sem]; done) | fail) ?_ | (refine Tri.skip ?_; try simp only [InBlock, Then]) | (refine Tri.exit ?_; simp only [Then, InBlock, if_true, if_false, ↓reduceIte, Nat.reduceEqDiff]) | refine Tri.seq (Tri.block ?_) | refine Tri.block ?_ | refine Tri.seq ?_ | (refine Tri.ret ?_; refine Con.fin (.inl rfl) (by simp only [Tryd.f103, cfgKB1, resA, resA1, go_sem]; rfl) (by simp only [Obs]) (by first | (simp only [kN1, Con.of, resV, go_sem]; done) | fail) trivial rfl rfl))
    refine Tri.ret ?_
    refine Con.fin (.inl rfl) (by simp only [Tryd.f103, cfgKB1, resA, resA1, go_sem]; rfl) (by simp only [Obs]) ?_ ?_ rfl rfl
    · show AV.tuple [.pure (.slice true (.int .u8)) (numS (UInt64.ofInt n)), .bool (!decide (mo < n))] = AV.tuple [.pure (.slice true (.int .u8)) (numS (UInt64.ofInt n)), .bool (!decide (n < 0) && !decide (mo < n))]
      rw [e]
    · exact True.intro
  | true =>
    have e : (!decide (n < 0) && !decide (mo < n)) = false := by rw [b1]; rfl
    refine Tri.at (by first | (simp only [Con.start, go_sem]; rfl) | rfl) ?_
    repeat (first | ((first | refine Tri.seq (Tri.regT (cfgKB1_ok.pins _) ?_) | refine Tri.rgnT (cfgKB1_ok.pins _) ?_); (repeat (first | refine RunT.oneA (hp := by simp (maxSteps := 2000000) (disch := first | decide | omega | (simp only [List.length_append, List.length_cons, List.length_nil, List.length_take, List.length_drop]; omega)) only [b1, go_sem]; rfl) (h := ?_) | refine RunT.notA (h := ?_))); refine RunT.nil ?_; try simp only [InBlock, Then]) | refine Tri.cF (by first | (simp only [go_sem]; done) | fail) ?_ | refine Tri.cT (by first | (simp only [go_sem]; done) | fail) ?_ | (refine Tri.skip ?_; try simp only [InBlock, Then]) | (refine Tri.exit ?_; simp only [Then, InBlock, if_true, if_false, ↓reduceIte, Nat.reduceEqDiff]) | refine Tri.seq (Tri.block ?_) | refine Tri.block ?_ | refine Tri.seq ?_ | (refine Tri.ret ?_; refine Con.fin (.inl rfl) (by simp only [Tryd.f103, cfgKB1, resA, resA1, go_sem]; rfl) (by simp only [Obs]) (by first | (simp only [kN1, Con.of, resV, go_sem]; done) | fail) trivial rfl rfl))
    refine Tri.ret ?_
    refine Con.fin (.inl rfl) (by simp only [Tryd.f103, cfgKB1, resA, resA1, go_sem]; rfl) (by simp only [Obs]) ?_ ?_ rfl rfl
    · show AV.tuple [.pure (.slice true (.int .u8)) (numS (UInt64.ofInt n)), .bool false] = AV.tuple [.pure (.slice true (.int .u8)) (numS (UInt64.ofInt n)), .bool (!decide (n < 0) && !decide (mo < n))]
      rw [e]
    · exact True.intro
theorem kn1_sum : FSumOK Tryd.prog cfgKB1.G 103 kN1.sum := Con.sumOK cfgKB1_ok kN1 Tryd.func103 rfl rfl (Con.of_inv _ _ _) kn1_body
end
def kN2 : Con := Con.of [.v .str] (fun x => [List.length (α := UInt8) x.1 ≤ 1000000000]) (fun x => ⟨.tuple [.pure (.slice true (.int .u8)) x.1, .bool (rgS (pwS x.1))], []⟩)
def cfgKB2 : Cfg2 := { ty := tyTab, fn := fun | 25 => some kPrs.sum | _ => none, G := gNone, pin := [], eq := fun _ => none }
theorem cfgKB2_ok : CfgOK Tryd.prog cfgKB2 := ⟨tysOK, (fun f s h => by
  simp only [cfgKB2] at h
  split at h
  · injection h with h; subst h; exact .inl prs_sum
  · cases h), (fun t d h => by cases h)⟩
section
attribute [local go_sem] Tryd.f104 kN2 kPrs cfgKB2 tyTab
theorem kn2_body (p : kN2.Par) (hp : ∀ q ∈ kN2.pre p, q) : BodyOK Tryd.prog cfgKB2 Tryd.f104 (Tryd.f104.body.get rfl) kN2 p := by
  obtain ⟨(s : List UInt8), u⟩ := p
  obtain ⟨h0, _⟩ := Obs.of hp
  replace h0 : s.length ≤ 1000000000 := h0
  refine ⟨?_, Nat.zero_le _, rfl, rfl⟩
  show Tri _ _ _ (Code.seq _ (Code.seq _ (Code.seq _ _))) _
  have z1 : decide ((0 : Int) = 0) = true := rfl
  have z2 : decide ((30 : Int) = 0) = false := rfl
  have htk : List.take s.length s = s := List.take_length
  cases hr : rgS (pwS s) with
  | false =>
    have e1 : prV s = .pure nmK ([], [], ()) := by rw [prV, hr]; rfl
    have e3 : pcS s = 30 := by
      have : rgS (splS 47 (cutA s 64), cutR s 64, ()) = false := hr
      rw [pcS, ckS, this]; rfl
    refine Tri.at (by first | (simp only [Con.start, go_sem]; rfl) | rfl) ?_
    repeat (first | ((first | refine Tri.seq (Tri.regT (cfgKB2_ok.pins _) ?_) | refine Tri.rgnT (cfgKB2_ok.pins _) ?_); (repeat (first | refine RunT.oneA (hp := by simp (maxSteps := 2000000) (disch := first | decide | omega | (simp only [List.length_append, List.length_cons, List.length_nil, List.length_take, List.length_drop]; omega)) only [e1, e3, go_sem]; rfl) (h := ?_) | refine RunT.notA (h := ?_))); refine RunT.nil ?_; try simp only [InBlock, Then]) | refine Tri.cF (by first | (simp only [go_sem]; done) | fail) ?_ | refine Tri.cT (by first | (simp only [go_sem]; done) | fail) ?_ | (refine Tri.skip ?_; try simp only [InBlock, Then]) | (refine Tri.exit ?_; simp only [Then, InBlock, if_true, if_false, ↓reduceIte, Nat.reduceEqDiff]) | refine Tri.seq (Tri.block ?_) | refine Tri.block ?_ | refine Tri.seq ?_ | (refine Tri.ret ?_; refine Con.fin (.inl rfl) (by simp only [Tryd.f104, cfgKB2, resA, resA1, go_sem]; rfl) (by simp only [Obs]) (by first | (simp only [kN2, Con.of, resV, hr, go_sem]; done) | fail) trivial rfl rfl))
    refine Tri.rel true 1 rfl ?_ rfl rfl ?_
    · simp only [go_sem]
      repeat' constructor
    refine Tri.at (by first | (simp only [htk, go_sem]; rfl) | rfl) ?_
    repeat (first | ((first | refine Tri.seq (Tri.regT (cfgKB2_ok.pins _) ?_) | refine Tri.rgnT (cfgKB2_ok.pins _) ?_); (repeat (first | refine RunT.oneA (hp := by simp (maxSteps := 2000000) (disch := first | decide | omega | (simp only [List.length_append, List.length_cons, List.length_nil, List.length_take, List.length_drop]; omega)) only [hr, e1, e3, z2, htk, go_sem]; rfl) (h := ?_) | refine RunT.notA (h := ?_))); refine RunT.nil ?_; try simp only [InBlock, Then]) | refine Tri.cF (by first | (simp only [go_sem]; done) | fail) ?_ | refine Tri.cT (by first | (simp only [go_sem]; done) | fail) ?_ | (refine Tri.skip ?_; try simp only [InBlock, Then]) | (refine Tri.exit ?_; simp only [Then, InBlock, if_true, if_false, ↓reduceIte, Nat.reduceEqDiff]) | refine Tri.seq (Tri.block ?_) | refine Tri.block ?_ | refine Tri.seq ?_ | (refine Tri.ret ?_; refine Con.fin (.inl rfl) (by simp only [Tryd.f104, cfgKB2, resA, resA1, go_sem]; rfl) (by simp only [Obs]) (by first | (simp only [kN2, Con.of, resV, hr, go_sem]; done) | fail) trivial rfl rfl))
  | true =>
    have e1 : prV s = .agg [.pure (.slice true .str) (splS 47 (cutA s 64)), .str (cutR s 64)] := by rw [prV, hr]; rfl
    have e3 : pcS s = 0 := by
      have : rgS (splS 47 (cutA s 64), cutR s 64, ()) = true := hr
      rw [pcS, ckS, this]; rfl
    refine Tri.at (by first | (simp only [Con.start, go_sem]; rfl) | rfl) ?_
    repeat (first | ((first | refine Tri.seq (Tri.regT (cfgKB2_ok.pins _) ?_) | refine Tri.rgnT (cfgKB2_ok.pins _) ?_); (repeat (first | refine RunT.oneA (hp := by simp (maxSteps := 2000000) (disch := first | decide | omega | (simp only [List.length_append, List.length_cons, List.length_nil, List.length_take, List.length_drop]; omega)) only [e1, e3, go_sem]; rfl) (h := ?_) | refine RunT.notA (h := ?_))); refine RunT.nil ?_; try simp only [InBlock, Then]) | refine Tri.cF (by first | (simp only [go_sem]; done) | fail) ?_ | refine Tri.cT (by first | (simp only [go_sem]; done) | fail) ?_ | (refine Tri.skip ?_; try simp only [InBlock, Then]) | (refine Tri.exit ?_; simp only [Then, InBlock, if_true, if_false, ↓reduceIte, Nat.reduceEqDiff]) | refine Tri.seq (Tri.block ?_) | refine Tri.block ?_ | refine Tri.seq ?_ | (refine Tri.ret ?_; refine Con.fin (.inl rfl) (by simp only [Tryd.f104, cfgKB2, resA, resA1, go_sem]; rfl) (by simp only [Obs]) (by first | (simp only [kN2, Con.of, resV, hr, go_sem]; done) | fail) trivial rfl rfl))
    refine Tri.rel true 1 rfl ?_ rfl rfl ?_
    · simp only [go_sem]
      repeat' constructor
    refine Tri.at (by first | (simp only [htk, go_sem]; rfl) | rfl) ?_
    repeat (first | ((first | refine Tri.seq (Tri.regT (cfgKB2_ok.pins _) ?_) | refine Tri.rgnT (cfgKB2_ok.pins _) ?_); (repeat (first | refine RunT.oneA (hp := by simp (maxSteps := 2000000) (disch := first | decide | omega | (simp only [List.length_append, List.length_cons, List.length_nil, List.length_take, List.length_drop]; omega)) only [hr, e1, e3, z1, htk, go_sem]; rfl) (h := ?_) | refine RunT.notA (h := ?_))); refine RunT.nil ?_; try simp only [InBlock, Then]) | refine Tri.cF (by first | (simp only [go_sem]; done) | fail) ?_ | refine Tri.cT (by first | (simp only [go_sem]; done) | fail) ?_ | (refine Tri.skip ?_; try simp only [InBlock, Then]) | (refine Tri.exit ?_; simp only [Then, InBlock, if_true, if_false, ↓reduceIte, Nat.reduceEqDiff]) | refine Tri.seq (Tri.block ?_) | refine Tri.block ?_ | refine Tri.seq ?_ | (refine Tri.ret ?_; refine Con.fin (.inl rfl) (by simp only [Tryd.f104, cfgKB2, resA, resA1, go_sem]; rfl) (by simp only [Obs]) (by first | (simp only [kN2, Con.of, resV, hr, go_sem]; done) | fail) trivial rfl rfl))
theorem kn2_sum : FSumOK Tryd.prog cfgKB2.G 104 kN2.sum := Con.sumOK cfgKB2_ok kN2 Tryd.func104 rfl rfl (Con.of_inv _ _ _) kn2_body
end
def tyTabK : TypeId → Option TyI := fun t => if t = 134 then some (.slice1 3) else tyTab t
theorem tyTabK_ok : TysOK Tryd.prog tyTabK := by
  intro t i h
  unfold tyTabK at h
  split at h
  · rename_i e
    injection h with h
    subst h e
    exact TyOK.slice1 Tryd.underlying134 (by kernel_rfl)
  · exact tysOK t i h
def hasK (k : Int) : List Int :=
  if k = 1 then [32, 33, 34, 35, 36] else if k = 2 then [33, 34, 35, 36, 37, 38] else if k = 3 then [34, 37, 38] else if k = 4 then [34, 37, 38] else if k = 5 then [34, 38] else if k = 6 then [34, 38] else if k = 7 then [34, 39] else []
def kHas : Con := Con.of [.v (.int .i64)] (fun _ => []) (fun x => ⟨.pure (.slice true (.int .i64)) (hasK (toI .i64 x.1)), []⟩)
def cfgKB3 : Cfg2 := { ty := tyTabK, fn := fun  | _ => none, G := gNone, pin := [], eq := fun _ => none }
theorem cfgKB3_ok : CfgOK Tryd.prog cfgKB3 := ⟨tyTabK_ok, (fun f s h => by cases h), (fun t d h => by cases h)⟩
section
attribute [local go_sem] Tryd.f87 kHas cfgKB3 tyTabK tyTab
theorem has_body (p : kHas.Par) (hp : ∀ q ∈ kHas.pre p, q) : BodyOK Tryd.prog cfgKB3 Tryd.f87 (Tryd.f87.body.get rfl) kHas p := by
  obtain ⟨(k : Int), u⟩ := p
  refine ⟨?_, Nat.zero_le _, rfl, rfl⟩
  show Tri _ _ _ (Code.seq _ (Code.seq (Code.seq _ (Code.block _ (Code.seq (Code.block _ (Code.seq (Code.block _ (Code.seq (Code.block _ (Code.seq (Code.block _ (Code.seq (Code.block _ (Code.seq (Code.seq (Code.seq _ (Code.cond _ _ _)) (Code.seq (Code.seq _ (Code.cond _ _ _)) (Code.seq (Code.seq (Code.seq _ (Code.cond _ _ _)) (Code.cond _ _ _)) (Code.seq (Code.seq (Code.seq _ (Code.cond _ _ _)) (Code.cond _ _ _)) (Code.seq _ (Code.cond _ _ _)))))) _)) _)) (Code.seq (Code.seq _ (Code.seq _ (Code.cond _ _ _))) _))) (Code.seq _ _))) (Code.seq _ _))) (Code.seq _ _)))) (Code.seq _ _))) _
  have t1 : List.take 1 [(32 : Int)] = [32] := rfl
  have t2 : List.take 4 [(33 : Int), 34, 35, 36] = [33, 34, 35, 36] := rfl
  have t3 : List.take 2 [(37 : Int), 38] = [37, 38] := rfl
  have t4 : List.take 3 [(34 : Int), 37, 38] = [34, 37, 38] := rfl
  have t5 : List.take 2 [(34 : Int), 38] = [34, 38] := rfl
  have t6 : List.take 2 [(34 : Int), 39] = [34, 39] := rfl
  have t7 : List.take 1 [(32 : Int)] = [32] := rfl
  have t8 : List.take 4 [(33 : Int), 34, 35, 36] = [33, 34, 35, 36] := rfl
  have t9 : List.take 5 [(32 : Int), 33, 34, 35, 36] = [32, 33, 34, 35, 36] := rfl
  have t10 : List.take 6 [(33 : Int), 34, 35, 36, 37, 38] = [33, 34, 35, 36, 37, 38] := rfl
  by_cases k1 : k = 1
  · subst k1
    have z1 : decide ((1 : Int) = 1) = true := rfl
    have z2 : decide ((1 : Int) = 2) = false := rfl
    have z3 : decide ((1 : Int) = 3) = false := rfl
    have z4 : decide ((1 : Int) = 4) = false := rfl
    have z5 : decide ((1 : Int) = 5) = false := rfl
    have z6 : decide ((1 : Int) = 6) = false := rfl
    have z7 : decide ((1 : Int) = 7) = false := rfl
    refine Tri.at (by first | (simp only [Con.start, go_sem]; rfl) | rfl) ?_
    repeat (first | ((first | refine Tri.seq (Tri.regT (cfgKB3_ok.pins _) ?_) | refine Tri.rgnT (cfgKB3_ok.pins _) ?_); (repeat (first | refine RunT.oneA (hp := by simp (maxSteps := 2000000) (disch := first | decide | omega | (simp only [List.length_append, List.length_cons, List.length_nil, List.length_take, List.length_drop]; omega)) only [t1, t2, go_sem]; rfl) (h := ?_) | refine RunT.notA (h := ?_))); refine RunT.nil ?_; try simp only [InBlock, Then]) | refine Tri.cF (by first | (simp only [go_sem]; done) | fail) ?_ | refine Tri.cT (by first | (simp only [go_sem]; done) | fail) ?_ | (refine Tri.skip ?_; try simp only [Then]) | (refine Tri.exit ?_; simp only [Then, InBlock, ↓reduceIte, Nat.reduceEqDiff]) | refine Tri.seq (Tri.block ?_) | refine Tri.block ?_ | refine Tri.seq ?_ | (refine Tri.ret ?_; refine Con.fin (.inl rfl) (by simp only [Tryd.f87, cfgKB3, resA, resA1, go_sem]; rfl) (by simp only [Obs]) (by first | (simp only [kHas, Con.of, resV, go_sem]; done) | fail) trivial rfl rfl))
    refine Tri.rel true 1 rfl ?_ rfl rfl ?_
    · simp only [go_sem]
      repeat' constructor
    refine Tri.at (by first | (simp only [t9, go_sem]; rfl) | rfl) ?_
    refine Tri.ret ?_
    refine Con.fin (.inl rfl) (by simp only [Tryd.f87, cfgKB3, resA, resA1, go_sem]; rfl) (by simp only [Obs]) ?_ ?_ rfl rfl
    · rfl
    · exact True.intro
  by_cases k2 : k = 2
  · subst k2
    have z1 : decide ((2 : Int) = 1) = false := rfl
    have z2 : decide ((2 : Int) = 2) = true := rfl
    have z3 : decide ((2 : Int) = 3) = false := rfl
    have z4 : decide ((2 : Int) = 4) = false := rfl
    have z5 : decide ((2 : Int) = 5) = false := rfl
    have z6 : decide ((2 : Int) = 6) = false := rfl
    have z7 : decide ((2 : Int) = 7) = false := rfl
    refine Tri.at (by first | (simp only [Con.start, go_sem]; rfl) | rfl) ?_
    repeat (first | ((first | refine Tri.seq (Tri.regT (cfgKB3_ok.pins _) ?_) | refine Tri.rgnT (cfgKB3_ok.pins _) ?_); (repeat (first | refine RunT.oneA (hp := by simp (maxSteps := 2000000) (disch := first | decide | omega | (simp only [List.length_append, List.length_cons, List.length_nil, List.length_take, List.length_drop]; omega)) only [t2, t3, go_sem]; rfl) (h := ?_) | refine RunT.notA (h := ?_))); refine RunT.nil ?_; try simp only [Then]) | refine Tri.cF (by first | (simp only [go_sem]; done) | fail) ?_ | refine Tri.cT (by first | (simp only [go_sem]; done) | fail) ?_ | (refine Tri.skip ?_; try simp only [Then]) | (refine Tri.exit ?_; simp only [Then, InBlock, ↓reduceIte, Nat.reduceEqDiff]) | refine Tri.seq (Tri.block ?_) | refine Tri.block ?_ | refine Tri.seq ?_ | (refine Tri.ret ?_; refine Con.fin (.inl rfl) (by simp only [Tryd.f87, cfgKB3, resA, resA1, go_sem]; rfl) (by simp only [Obs]) (by first | (simp only [kHas, Con.of, resV, go_sem]; done) | fail) trivial rfl rfl))
    refine Tri.rel true 1 rfl ?_ rfl rfl ?_
    · simp only [go_sem]
      repeat' constructor
    refine Tri.at (by first | (simp only [t10, go_sem]; rfl) | rfl) ?_
    refine Tri.ret ?_
    refine Con.fin (.inl rfl) (by simp only [Tryd.f87, cfgKB3, resA, resA1, go_sem]; rfl) (by simp only [Obs]) ?_ ?_ rfl rfl
    · rfl
    · exact True.intro
  by_cases k3 : k = 3
  · subst k3
    have z1 : decide ((3 : Int) = 1) = false := rfl
    have z2 : decide ((3 : Int) = 2) = false := rfl
    have z3 : decide ((3 : Int) = 3) = true := rfl
    have z4 : decide ((3 : Int) = 4) = false := rfl
    have z5 : decide ((3 : Int) = 5) = false := rfl
    have z6 : decide ((3 : Int) = 6) = false := rfl
    have z7 : decide ((3 : Int) = 7) = false := rfl
    refine Tri.at (by first | (simp only [Con.start, go_sem]; rfl) | rfl) ?_
    repeat (first | ((first | refine Tri.seq (Tri.regT (cfgKB3_ok.pins _) ?_) | refine Tri.rgnT (cfgKB3_ok.pins _) ?_); (repeat (first | refine RunT.oneA (hp := by simp (maxSteps := 2000000) (disch := first | decide | omega | (simp only [List.length_append, List.length_cons, List.length_nil, List.length_take, List.length_drop]; omega)) only [t4, go_sem]; rfl) (h := ?_) | refine RunT.notA (h := ?_))); refine RunT.nil ?_; try simp only [InBlock, Then]) | refine Tri.cF (by first | (simp only [go_sem]; done) | fail) ?_ | refine Tri.cT (by first | (simp only [go_sem]; done) | fail) ?_ | (refine Tri.skip ?_; try simp only [Then]) | (refine Tri.exit ?_; simp only [Then, InBlock, ↓reduceIte, Nat.reduceEqDiff]) | refine Tri.seq (Tri.block ?_) | refine Tri.block ?_ | refine Tri.seq ?_ | (refine Tri.ret ?_; refine Con.fin (.inl rfl) (by simp only [Tryd.f87, cfgKB3, resA, resA1, go_sem]; rfl) (by simp only [Obs]) (by first | (simp only [kHas, Con.of, resV, go_sem]; done) | fail) trivial rfl rfl))
    refine Tri.rel true 1 rfl ?_ rfl rfl ?_
    · simp only [go_sem]
      repeat' constructor
    refine Tri.at (by first | (simp only [t4, go_sem]; rfl) | rfl) ?_
    refine Tri.ret ?_
    refine Con.fin (.inl rfl) (by simp only [Tryd.f87, cfgKB3, resA, resA1, go_sem]; rfl) (by simp only [Obs]) ?_ ?_ rfl rfl
    · rfl
    · exact True.intro
  by_cases k4 : k = 4
  · subst k4
    have z1 : decide ((4 : Int) = 1) = false := rfl
    have z2 : decide ((4 : Int) = 2) = false := rfl
    have z3 : decide ((4 : Int) = 3) = false := rfl
    have z4 : decide ((4 : Int) = 4) = true := rfl
    have z5 : decide ((4 : Int) = 5) = false := rfl
    have z6 : decide ((4 : Int) = 6) = false := rfl
    have z7 : decide ((4 : Int) = 7) = false := rfl
    refine Tri.at (by first | (simp only [Con.start, go_sem]; rfl) | rfl) ?_
    repeat (first | ((first | refine Tri.seq (Tri.regT (cfgKB3_ok.pins _) ?_) | refine Tri.rgnT (cfgKB3_ok.pins _) ?_); (repeat (first | refine RunT.oneA (hp := by simp (maxSteps := 2000000) (disch := first | decide | omega | (simp only [List.length_append, List.length_cons, List.length_nil, List.length_take, List.length_drop]; omega)) only [t4, go_sem]; rfl) (h := ?_) | refine RunT.notA (h := ?_))); refine RunT.nil ?_; try simp only [Then]) | refine Tri.cF (by first | (simp only [go_sem]; done) | fail) ?_ | refine Tri.cT (by first | (simp only [go_sem]; done) | fail) ?_ | (refine Tri.skip ?_; try simp only [Then]) | (refine Tri.exit ?_; simp only [Then, InBlock, ↓reduceIte, Nat.reduceEqDiff]) | refine Tri.seq (Tri.block ?_) | refine Tri.block ?_ | refine Tri.seq ?_ | (refine Tri.ret ?_; refine Con.fin (.inl rfl) (by simp only [Tryd.f87, cfgKB3, resA, resA1, go_sem]; rfl) (by simp only [Obs]) (by first | (simp only [kHas, Con.of, resV, go_sem]; done) | fail) trivial rfl rfl))
    refine Tri.rel true 1 rfl ?_ rfl rfl ?_
    · simp only [go_sem]
      repeat' constructor
    refine Tri.at (by first | (simp only [t4, go_sem]; rfl) | rfl) ?_
    refine Tri.ret ?_
    refine Con.fin (.inl rfl) (by simp only [Tryd.f87, cfgKB3, resA, resA1, go_sem]; rfl) (by simp only [Obs]) ?_ ?_ rfl rfl
    · rfl
    · exact True.intro
  by_cases k5 : k = 5
  · subst k5
    have z1 : decide ((5 : Int) = 1) = false := rfl
    have z2 : decide ((5 : Int) = 2) = false := rfl
    have z3 : decide ((5 : Int) = 3) = false := rfl
    have z4 : decide ((5 : Int) = 4) = false := rfl
    have z5 : decide ((5 : Int) = 5) = true := rfl
    have z6 : decide ((5 : Int) = 6) = false := rfl
    have z7 : decide ((5 : Int) = 7) = false := rfl
    refine Tri.at (by first | (simp only [Con.start, go_sem]; rfl) | rfl) ?_
    repeat (first | ((first | refine Tri.seq (Tri.regT (cfgKB3_ok.pins _) ?_) | refine Tri.rgnT (cfgKB3_ok.pins _) ?_); (repeat (first | refine RunT.oneA (hp := by simp (maxSteps := 2000000) (disch := first | decide | omega | (simp only [List.length_append, List.length_cons, List.length_nil, List.length_take, List.length_drop]; omega)) only [t5, go_sem]; rfl) (h := ?_) | refine RunT.notA (h := ?_))); refine RunT.nil ?_; try simp only [Then]) | refine Tri.cF (by first | (simp only [go_sem]; done) | fail) ?_ | refine Tri.cT (by first | (simp only [go_sem]; done) | fail) ?_ | (refine Tri.skip ?_; try simp only [Then]) | (refine Tri.exit ?_; simp only [Then, InBlock, ↓reduceIte, Nat.reduceEqDiff]) | refine Tri.seq (Tri.block ?_) | refine Tri.block ?_ | refine Tri.seq ?_ | (refine Tri.ret ?_; refine Con.fin (.inl rfl) (by simp only [Tryd.f87, cfgKB3, resA, resA1, go_sem]; rfl) (by simp only [Obs]) (by first | (simp only [kHas, Con.of, resV, go_sem]; done) | fail) trivial rfl rfl))
    refine Tri.rel true 1 rfl ?_ rfl rfl ?_
    · simp only [go_sem]
      repeat' constructor
    refine Tri.at (by first | (simp only [t5, go_sem]; rfl) | rfl) ?_
    refine Tri.ret ?_
    refine Con.fin (.inl rfl) (by simp only [Tryd.f87, cfgKB3, resA, resA1, go_sem]; rfl) (by simp only [Obs]) ?_ ?_ rfl rfl
    · rfl
    · exact True.intro
  by_cases k6 : k = 6
  · subst k6
    have z1 : decide ((6 : Int) = 1) = false := rfl
    have z2 : decide ((6 : Int) = 2) = false := rfl
    have z3 : decide ((6 : Int) = 3) = false := rfl
    have z4 : decide ((6 : Int) = 4) = false := rfl
    have z5 : decide ((6 : Int) = 5) = false := rfl
    have z6 : decide ((6 : Int) = 6) = true := rfl
    have z7 : decide ((6 : Int) = 7) = false := rfl
    refine Tri.at (by first | (simp only [Con.start, go_sem]; rfl) | rfl) ?_
    repeat (first | ((first | refine Tri.seq (Tri.regT (cfgKB3_ok.pins _) ?_) | refine Tri.rgnT (cfgKB3_ok.pins _) ?_); (repeat (first | refine RunT.oneA (hp := by simp (maxSteps := 2000000) (disch := first | decide | omega | (simp only [List.length_append, List.length_cons, List.length_nil, List.length_take, List.length_drop]; omega)) only [t5, go_sem]; rfl) (h := ?_) | refine RunT.notA (h := ?_))); refine RunT.nil ?_; try simp only [Then]) | refine Tri.cF (by first | (simp only [go_sem]; done) | fail) ?_ | refine Tri.cT (by first | (simp only [go_sem]; done) | fail) ?_ | (refine Tri.skip ?_; try simp only [Then]) | (refine Tri.exit ?_; simp only [Then, InBlock, ↓reduceIte, Nat.reduceEqDiff]) | refine Tri.seq (Tri.block ?_) | refine Tri.block ?_ | refine Tri.seq ?_ | (refine Tri.ret ?_; refine Con.fin (.inl rfl) (by simp only [Tryd.f87, cfgKB3, resA, resA1, go_sem]; rfl) (by simp only [Obs]) (by first | (simp only [kHas, Con.of, resV, go_sem]; done) | fail) trivial rfl rfl))
    refine Tri.rel true 1 rfl ?_ rfl rfl ?_
    · simp only [go_sem]
      repeat' constructor
    refine Tri.at (by first | (simp only [t5, go_sem]; rfl) | rfl) ?_
    refine Tri.ret ?_
    refine Con.fin (.inl rfl) (by simp only [Tryd.f87, cfgKB3, resA, resA1, go_sem]; rfl) (by simp only [Obs]) ?_ ?_ rfl rfl
    · rfl
    · exact True.intro
  by_cases k7 : k = 7
  · subst k7
    have z1 : decide ((7 : Int) = 1) = false := rfl
    have z2 : decide ((7 : Int) = 2) = false := rfl
    have z3 : decide ((7 : Int) = 3) = false := rfl
    have z4 : decide ((7 : Int) = 4) = false := rfl
    have z5 : decide ((7 : Int) = 5) = false := rfl
    have z6 : decide ((7 : Int) = 6) = false := rfl
    have z7 : decide ((7 : Int) = 7) = true := rfl
    refine Tri.at (by first | (simp only [Con.start, go_sem]; rfl) | rfl) ?_
    repeat (first | ((first | refine Tri.seq (Tri.regT (cfgKB3_ok.pins _) ?_) | refine Tri.rgnT (cfgKB3_ok.pins _) ?_); (repeat (first | refine RunT.oneA (hp := by simp (maxSteps := 2000000) (disch := first | decide | omega | (simp only [List.length_append, List.length_cons, List.length_nil, List.length_take, List.length_drop]; omega)) only [t6, go_sem]; rfl) (h := ?_) | refine RunT.notA (h := ?_))); refine RunT.nil ?_; try simp only [Then]) | refine Tri.cF (by first | (simp only [go_sem]; done) | fail) ?_ | refine Tri.cT (by first | (simp only [go_sem]; done) | fail) ?_ | (refine Tri.skip ?_; try simp only [Then]) | (refine Tri.exit ?_; simp only [Then, InBlock, ↓reduceIte, Nat.reduceEqDiff]) | refine Tri.seq (Tri.block ?_) | refine Tri.block ?_ | refine Tri.seq ?_ | (refine Tri.ret ?_; refine Con.fin (.inl rfl) (by simp only [Tryd.f87, cfgKB3, resA, resA1, go_sem]; rfl) (by simp only [Obs]) (by first | (simp only [kHas, Con.of, resV, go_sem]; done) | fail) trivial rfl rfl))
    refine Tri.rel true 1 rfl ?_ rfl rfl ?_
    · simp only [go_sem]
      repeat' constructor
    refine Tri.at (by first | (simp only [t6, go_sem]; rfl) | rfl) ?_
    refine Tri.ret ?_
    refine Con.fin (.inl rfl) (by simp only [Tryd.f87, cfgKB3, resA, resA1, go_sem]; rfl) (by simp only [Obs]) ?_ ?_ rfl rfl
    · rfl
    · exact True.intro
  have z1 : decide (k = 1) = false := decide_eq_false k1
  have z2 : decide (k = 2) = false := decide_eq_false k2
  have z3 : decide (k = 3) = false := decide_eq_false k3
  have z4 : decide (k = 4) = false := decide_eq_false k4
  have z5 : decide (k = 5) = false := decide_eq_false k5
  have z6 : decide (k = 6) = false := decide_eq_false k6
  have z7 : decide (k = 7) = false := decide_eq_false k7
  have e : hasK k = [] := by rw [hasK, if_neg k1, if_neg k2, if_neg k3, if_neg k4, if_neg k5, if_neg k6, if_neg k7]
  refine Tri.at (by first | (simp only [Con.start, go_sem]; rfl) | rfl) ?_
  repeat (first | ((first | refine Tri.seq (Tri.regT (cfgKB3_ok.pins _) ?_) | refine Tri.rgnT (cfgKB3_ok.pins _) ?_); (repeat (first | refine RunT.oneA (hp := by simp (maxSteps := 2000000) (disch := first | decide | omega | (simp only [List.length_append, List.length_cons, List.length_nil, List.length_take, List.length_drop]; omega)) only [z1, z2, z3, z4, z5, z6, z7, go_sem]; rfl) (h := ?_) | refine RunT.notA (h := ?_))); refine RunT.nil ?_; try simp only [Then]) | refine Tri.cF (by first | (simp only [go_sem]; done) | fail) ?_ | refine Tri.cT (by first | (simp only [go_sem]; done) | fail) ?_ | (refine Tri.skip ?_; try simp only [Then]) | (refine Tri.exit ?_; simp only [Then, InBlock, ↓reduceIte, Nat.reduceEqDiff]) | refine Tri.seq (Tri.block ?_) | refine Tri.block ?_ | refine Tri.seq ?_ | (refine Tri.ret ?_; refine Con.fin (.inl rfl) (by simp only [Tryd.f87, cfgKB3, resA, resA1, go_sem]; rfl) (by simp only [Obs]) (by first | (simp only [kHas, Con.of, resV, go_sem]; done) | fail) trivial rfl rfl))
  refine Tri.phT 2 (.int .i64) 1 rfl rfl ?_
  refine Tri.at (by first | (simp only [go_sem, go_sem]; rfl) | rfl) ?_
  refine Tri.rel true 0 rfl ?_ rfl rfl ?_
  · simp only [go_sem]
    repeat' constructor
  refine Tri.at (by first | (simp only [List.take_nil, List.drop_nil, go_sem]; rfl) | rfl) ?_
  refine Tri.ret ?_
  refine Con.fin (.inl rfl) (by simp only [Tryd.f87, cfgKB3, resA, resA1, go_sem]; rfl) (by simp only [Obs]) ?_ ?_ rfl rfl
  · show AV.pure (.slice true (.int .i64)) ([] : List Int) = AV.pure (.slice true (.int .i64)) (hasK k)
    rw [e]
  · exact True.intro
theorem has_sum : FSumOK Tryd.prog cfgKB3.G 87 kHas.sum := Con.sumOK cfgKB3_ok kHas Tryd.func87 rfl rfl (Con.of_inv _ _ _) has_body
end
end Go.Proofs.YtjdeaphfamenaaaDoor

namespace Go.Proofs.YtjdeaphfamenaaaDoor
open Go.Vc Go.Proofs
set_option maxRecDepth 10000
set_option maxHeartbeats 4000000
abbrev krK : Kd := .st (.pair (.int .i64) (.pair .str (.pair .str (.pair (.int .u64) (.pair (.int .i64) (.pair (.int .i64) (.pair (.slice true (.int .u8)) (.pair (.slice true (.int .u8)) (.pair (.int .i64) .unit)))))))))
abbrev flK : Kd := .st (.pair (.int .i64) (.pair (.slice true (.int .u8)) .unit))
abbrev krTD : TD := .st [(3, 0, 1), (9, 1, 1), (9, 2, 1), (46, 3, 1), (2, 4, 1), (3, 5, 1), (47, 6, 1), (47, 7, 1), (3, 8, 1)]
def tyTabM : TypeId → Option TyI := fun t => if t = 49 then some (.kd1 krTD krK 120) else if t = 114 then some (.ptr1 49) else if t = 82 then some (.slice1 112) else if t = 112 then some (.kd1 (.st [(3, 0, 1), (47, 1, 1)]) flK 32) else tyTabK t
theorem tyTabM_ok : TysOK Tryd.prog tyTabM := by
  intro t i h
  unfold tyTabM at h
  split at h
  · rename_i e
    injection h with h
    subst h e
    exact TyOK.kd1 (td := krTD) ⟨_, Tryd.underlying49, by kernel_rfl, by kernel_rfl⟩ (by kernel_rfl)
  · split at h
    · rename_i e
      injection h with h
      subst h e
      exact TyOK.ptr1 Tryd.underlying114 (by kernel_rfl)
    · split at h
      · rename_i e
        injection h with h
        subst h e
        exact TyOK.slice1 Tryd.underlying82 (by kernel_rfl)
      · split at h
        · rename_i e
          injection h with h
          subst h e
          exact TyOK.kd1 (td := .st [(3, 0, 1), (47, 1, 1)]) ⟨_, Tryd.underlying112, by kernel_rfl, by kernel_rfl⟩ (by kernel_rfl)
        · exact tyTabK_ok t i h
def smM (a b : krK.T) : Bool := decide ((a.1 : Int) = b.1) && (strEq a.2.1 b.2.1 && (strEq a.2.2.1 b.2.2.1 && (decide ((a.2.2.2.1 : UInt64) = b.2.2.2.1) && (decide ((a.2.2.2.2.1 : Int) = b.2.2.2.2.1) && (decide ((a.2.2.2.2.2.1 : Int) = b.2.2.2.2.2.1) && (decide ((a.2.2.2.2.2.2.2.2.1 : Int) = b.2.2.2.2.2.2.2.2.1) && (strEq a.2.2.2.2.2.2.1 b.2.2.2.2.2.2.1 && (strEq a.2.2.2.2.2.2.2.1 b.2.2.2.2.2.2.2.1))))))))
def kSmM : Con := Con.of [.v krK, .v krK] (fun _ => []) (fun x => ⟨.bool (smM x.1 x.2.1), []⟩)
def cfgKC1 : Cfg2 := { ty := tyTabM, fn := fun | 105 => some kBEq.sum | _ => none, G := gNone, pin := [], eq := fun _ => none }
theorem cfgKC1_ok : CfgOK Tryd.prog cfgKC1 := ⟨tyTabM_ok, (fun f s h => by
  simp only [cfgKC1] at h
  split at h
  · injection h with h; subst h; exact .inl beq_sum
  · cases h), (fun t d h => by cases h)⟩
section
attribute [local go_sem] Tryd.f89 kSmM kBEq cfgKC1 tyTabM tyTabK tyTab
theorem smm_body (p : kSmM.Par) (hp : ∀ q ∈ kSmM.pre p, q) : BodyOK Tryd.prog cfgKC1 Tryd.f89 (Tryd.f89.body.get rfl) kSmM p := by
  obtain ⟨⟨(akd : Int), (acl : List UInt8), (asv : List UInt8), (ano : UInt64), (aen : Int), (afl : Int), (ati : List UInt8), (ase : List UInt8), (aco : Int), u1⟩, ⟨(bkd : Int), (bcl : List UInt8), (bsv : List UInt8), (bno : UInt64), (ben : Int), (bfl : Int), (bti : List UInt8), (bse : List UInt8), (bco : Int), u2⟩, u⟩ := p
  refine ⟨?_, Nat.zero_le _, rfl, rfl⟩
  show Tri _ _ _ (Code.seq _ (Code.seq _ (Code.seq _ _))) _
  have e : smM (akd, acl, asv, ano, aen, afl, ati, ase, aco, u1) (bkd, bcl, bsv, bno, ben, bfl, bti, bse, bco, u2) = (decide ((akd : Int) = bkd) && (strEq acl bcl && (strEq asv bsv && (decide ((ano : UInt64) = bno) && (decide ((aen : Int) = ben) && (decide ((afl : Int) = bfl) && (decide ((aco : Int) = bco) && (strEq ati bti && (strEq ase bse))))))))) := rfl
  cases c0 : decide ((akd : Int) = bkd) with
  | false =>
    rw [c0] at e
    replace e : smM (akd, acl, asv, ano, aen, afl, ati, ase, aco, u1) (bkd, bcl, bsv, bno, ben, bfl, bti, bse, bco, u2) = false := e
    refine Tri.at (by first | (simp only [Con.start, go_sem]; rfl) | rfl) ?_
    repeat (first | ((first | refine Tri.seq (Tri.regT (cfgKC1_ok.pins _) ?_) | refine Tri.rgnT (cfgKC1_ok.pins _) ?_); (repeat (first | refine RunT.oneA (hp := by simp (maxSteps := 2000000) (disch := first | decide | omega | (simp only [List.length_append, List.length_cons, List.length_nil, List.length_take, List.length_drop]; omega)) only [c0, go_sem]; rfl) (h := ?_) | refine RunT.notA (h := ?_))); refine RunT.nil ?_; try simp only [InBlock, Then]) | refine Tri.cF (by first | (simp only [go_sem]; done) | fail) ?_ | refine Tri.cT (by first | (simp only [go_sem]; done) | fail) ?_ | (refine Tri.skip ?_; try simp only [InBlock, Then]) | (refine Tri.exit ?_; simp only [Then, InBlock, if_true, if_false, ↓reduceIte, Nat.reduceEqDiff]) | refine Tri.seq (Tri.block ?_) | refine Tri.block ?_ | refine Tri.seq ?_ | (refine Tri.ret ?_; refine Con.fin (.inl rfl) (by simp only [Tryd.f89, cfgKC1, resA, resA1, go_sem]; rfl) (by simp only [Obs]) (by first | (simp only [kSmM, Con.of, resV, e, go_sem]; done) | fail) trivial rfl rfl))
  | true =>
  cases c1 : strEq acl bcl with
  | false =>
    rw [c0, c1] at e
    replace e : smM (akd, acl, asv, ano, aen, afl, ati, ase, aco, u1) (bkd, bcl, bsv, bno, ben, bfl, bti, bse, bco, u2) = false := e
    refine Tri.at (by first | (simp only [Con.start, go_sem]; rfl) | rfl) ?_
    repeat (first | ((first | refine Tri.seq (Tri.regT (cfgKC1_ok.pins _) ?_) | refine Tri.rgnT (cfgKC1_ok.pins _) ?_); (repeat (first | refine RunT.oneA (hp := by simp (maxSteps := 2000000) (disch := first | decide | omega | (simp only [List.length_append, List.length_cons, List.length_nil, List.length_take, List.length_drop]; omega)) only [c0, c1, go_sem]; rfl) (h := ?_) | refine RunT.notA (h := ?_))); refine RunT.nil ?_; try simp only [InBlock, Then]) | refine Tri.cF (by first | (simp only [go_sem]; done) | fail) ?_ | refine Tri.cT (by first | (simp only [go_sem]; done) | fail) ?_ | (refine Tri.skip ?_; try simp only [InBlock, Then]) | (refine Tri.exit ?_; simp only [Then, InBlock, if_true, if_false, ↓reduceIte, Nat.reduceEqDiff]) | refine Tri.seq (Tri.block ?_) | refine Tri.block ?_ | refine Tri.seq ?_ | (refine Tri.ret ?_; refine Con.fin (.inl rfl) (by simp only [Tryd.f89, cfgKC1, resA, resA1, go_sem]; rfl) (by simp only [Obs]) (by first | (simp only [kSmM, Con.of, resV, e, go_sem]; done) | fail) trivial rfl rfl))
  | true =>
  cases c2 : strEq asv bsv with
  | false =>
    rw [c0, c1, c2] at e
    replace e : smM (akd, acl, asv, ano, aen, afl, ati, ase, aco, u1) (bkd, bcl, bsv, bno, ben, bfl, bti, bse, bco, u2) = false := e
    refine Tri.at (by first | (simp only [Con.start, go_sem]; rfl) | rfl) ?_
    repeat (first | ((first | refine Tri.seq (Tri.regT (cfgKC1_ok.pins _) ?_) | refine Tri.rgnT (cfgKC1_ok.pins _) ?_); (repeat (first | refine RunT.oneA (hp := by simp (maxSteps := 2000000) (disch := first | decide | omega | (simp only [List.length_append, List.length_cons, List.length_nil, List.length_take, List.length_drop]; omega)) only [c0, c1, c2, go_sem]; rfl) (h := ?_) | refine RunT.notA (h := ?_))); refine RunT.nil ?_; try simp only [InBlock, Then]) | refine Tri.cF (by first | (simp only [go_sem]; done) | fail) ?_ | refine Tri.cT (by first | (simp only [go_sem]; done) | fail) ?_ | (refine Tri.skip ?_; try simp only [InBlock, Then]) | (refine Tri.exit ?_; simp only [Then, InBlock, if_true, if_false, ↓reduceIte, Nat.reduceEqDiff]) | refine Tri.seq (Tri.block ?_) | refine Tri.block ?_ | refine Tri.seq ?_ | (refine Tri.ret ?_; refine Con.fin (.inl rfl) (by simp only [Tryd.f89, cfgKC1, resA, resA1, go_sem]; rfl) (by simp only [Obs]) (by first | (simp only [kSmM, Con.of, resV, e, go_sem]; done) | fail) trivial rfl rfl))
  | true =>
  cases c3 : decide ((ano : UInt64) = bno) with
  | false =>
    rw [c0, c1, c2, c3] at e
    replace e : smM (akd, acl, asv, ano, aen, afl, ati, ase, aco, u1) (bkd, bcl, bsv, bno, ben, bfl, bti, bse, bco, u2) = false := e
    refine Tri.at (by first | (simp only [Con.start, go_sem]; rfl) | rfl) ?_
    repeat (first | ((first | refine Tri.seq (Tri.regT (cfgKC1_ok.pins _) ?_) | refine Tri.rgnT (cfgKC1_ok.pins _) ?_); (repeat (first | refine RunT.oneA (hp := by simp (maxSteps := 2000000) (disch := first | decide | omega | (simp only [List.length_append, List.length_cons, List.length_nil, List.length_take, List.length_drop]; omega)) only [c0, c1, c2, c3, go_sem]; rfl) (h := ?_) | refine RunT.notA (h := ?_))); refine RunT.nil ?_; try simp only [InBlock, Then]) | refine Tri.cF (by first | (simp only [go_sem]; done) | fail) ?_ | refine Tri.cT (by first | (simp only [go_sem]; done) | fail) ?_ | (refine Tri.skip ?_; try simp only [InBlock, Then]) | (refine Tri.exit ?_; simp only [Then, InBlock, if_true, if_false, ↓reduceIte, Nat.reduceEqDiff]) | refine Tri.seq (Tri.block ?_) | refine Tri.block ?_ | refine Tri.seq ?_ | (refine Tri.ret ?_; refine Con.fin (.inl rfl) (by simp only [Tryd.f89, cfgKC1, resA, resA1, go_sem]; rfl) (by simp only [Obs]) (by first | (simp only [kSmM, Con.of, resV, e, go_sem]; done) | fail) trivial rfl rfl))
  | true =>
  cases c4 : decide ((aen : Int) = ben) with
  | false =>
    rw [c0, c1, c2, c3, c4] at e
    replace e : smM (akd, acl, asv, ano, aen, afl, ati, ase, aco, u1) (bkd, bcl, bsv, bno, ben, bfl, bti, bse, bco, u2) = false := e
    refine Tri.at (by first | (simp only [Con.start, go_sem]; rfl) | rfl) ?_
    repeat (first | ((first | refine Tri.seq (Tri.regT (cfgKC1_ok.pins _) ?_) | refine Tri.rgnT (cfgKC1_ok.pins _) ?_); (repeat (first | refine RunT.oneA (hp := by simp (maxSteps := 2000000) (disch := first | decide | omega | (simp only [List.length_append, List.length_cons, List.length_nil, List.length_take, List.length_drop]; omega)) only [c0, c1, c2, c3, c4, go_sem]; rfl) (h := ?_) | refine RunT.notA (h := ?_))); refine RunT.nil ?_; try simp only [InBlock, Then]) | refine Tri.cF (by first | (simp only [go_sem]; done) | fail) ?_ | refine Tri.cT (by first | (simp only [go_sem]; done) | fail) ?_ | (refine Tri.skip ?_; try simp only [InBlock, Then]) | (refine Tri.exit ?_; simp only [Then, InBlock, if_true, if_false, ↓reduceIte, Nat.reduceEqDiff]) | refine Tri.seq (Tri.block ?_) | refine Tri.block ?_ | refine Tri.seq ?_ | (refine Tri.ret ?_; refine Con.fin (.inl rfl) (by simp only [Tryd.f89, cfgKC1, resA, resA1, go_sem]; rfl) (by simp only [Obs]) (by first | (simp only [kSmM, Con.of, resV, e, go_sem]; done) | fail) trivial rfl rfl))
  | true =>
  cases c5 : decide ((afl : Int) = bfl) with
  | false =>
    rw [c0, c1, c2, c3, c4, c5] at e
    replace e : smM (akd, acl, asv, ano, aen, afl, ati, ase, aco, u1) (bkd, bcl, bsv, bno, ben, bfl, bti, bse, bco, u2) = false := e
    refine Tri.at (by first | (simp only [Con.start, go_sem]; rfl) | rfl) ?_
    repeat (first | ((first | refine Tri.seq (Tri.regT (cfgKC1_ok.pins _) ?_) | refine Tri.rgnT (cfgKC1_ok.pins _) ?_); (repeat (first | refine RunT.oneA (hp := by simp (maxSteps := 2000000) (disch := first | decide | omega | (simp only [List.length_append, List.length_cons, List.length_nil, List.length_take, List.length_drop]; omega)) only [c0, c1, c2, c3, c4, c5, go_sem]; rfl) (h := ?_) | refine RunT.notA (h := ?_))); refine RunT.nil ?_; try simp only [InBlock, Then]) | refine Tri.cF (by first | (simp only [go_sem]; done) | fail) ?_ | refine Tri.cT (by first | (simp only [go_sem]; done) | fail) ?_ | (refine Tri.skip ?_; try simp only [InBlock, Then]) | (refine Tri.exit ?_; simp only [Then, InBlock, if_true, if_false, ↓reduceIte, Nat.reduceEqDiff]) | refine Tri.seq (Tri.block ?_) | refine Tri.block ?_ | refine Tri.seq ?_ | (refine Tri.ret ?_; refine Con.fin (.inl rfl) (by simp only [Tryd.f89, cfgKC1, resA, resA1, go_sem]; rfl) (by simp only [Obs]) (by first | (simp only [kSmM, Con.of, resV, e, go_sem]; done) | fail) trivial rfl rfl))
  | true =>
  cases c6 : decide ((aco : Int) = bco) with
  | false =>
    rw [c0, c1, c2, c3, c4, c5, c6] at e
    replace e : smM (akd, acl, asv, ano, aen, afl, ati, ase, aco, u1) (bkd, bcl, bsv, bno, ben, bfl, bti, bse, bco, u2) = false := e
    refine Tri.at (by first | (simp only [Con.start, go_sem]; rfl) | rfl) ?_
    repeat (first | ((first | refine Tri.seq (Tri.regT (cfgKC1_ok.pins _) ?_) | refine Tri.rgnT (cfgKC1_ok.pins _) ?_); (repeat (first | refine RunT.oneA (hp := by simp (maxSteps := 2000000) (disch := first | decide | omega | (simp only [List.length_append, List.length_cons, List.length_nil, List.length_take, List.length_drop]; omega)) only [c0, c1, c2, c3, c4, c5, c6, go_sem]; rfl) (h := ?_) | refine RunT.notA (h := ?_))); refine RunT.nil ?_; try simp only [InBlock, Then]) | refine Tri.cF (by first | (simp only [go_sem]; done) | fail) ?_ | refine Tri.cT (by first | (simp only [go_sem]; done) | fail) ?_ | (refine Tri.skip ?_; try simp only [InBlock, Then]) | (refine Tri.exit ?_; simp only [Then, InBlock, if_true, if_false, ↓reduceIte, Nat.reduceEqDiff]) | refine Tri.seq (Tri.block ?_) | refine Tri.block ?_ | refine Tri.seq ?_ | (refine Tri.ret ?_; refine Con.fin (.inl rfl) (by simp only [Tryd.f89, cfgKC1, resA, resA1, go_sem]; rfl) (by simp only [Obs]) (by first | (simp only [kSmM, Con.of, resV, e, go_sem]; done) | fail) trivial rfl rfl))
  | true =>
  cases c7 : strEq ati bti with
  | false =>
    rw [c0, c1, c2, c3, c4, c5, c6, c7] at e
    replace e : smM (akd, acl, asv, ano, aen, afl, ati, ase, aco, u1) (bkd, bcl, bsv, bno, ben, bfl, bti, bse, bco, u2) = false := e
    refine Tri.at (by first | (simp only [Con.start, go_sem]; rfl) | rfl) ?_
    repeat (first | ((first | refine Tri.seq (Tri.regT (cfgKC1_ok.pins _) ?_) | refine Tri.rgnT (cfgKC1_ok.pins _) ?_); (repeat (first | refine RunT.oneA (hp := by simp (maxSteps := 2000000) (disch := first | decide | omega | (simp only [List.length_append, List.length_cons, List.length_nil, List.length_take, List.length_drop]; omega)) only [c0, c1, c2, c3, c4, c5, c6, c7, go_sem]; rfl) (h := ?_) | refine RunT.notA (h := ?_))); refine RunT.nil ?_; try simp only [InBlock, Then]) | refine Tri.cF (by first | (simp only [go_sem]; done) | fail) ?_ | refine Tri.cT (by first | (simp only [go_sem]; done) | fail) ?_ | (refine Tri.skip ?_; try simp only [InBlock, Then]) | (refine Tri.exit ?_; simp only [Then, InBlock, if_true, if_false, ↓reduceIte, Nat.reduceEqDiff]) | refine Tri.seq (Tri.block ?_) | refine Tri.block ?_ | refine Tri.seq ?_ | (refine Tri.ret ?_; refine Con.fin (.inl rfl) (by simp only [Tryd.f89, cfgKC1, resA, resA1, go_sem]; rfl) (by simp only [Obs]) (by first | (simp only [kSmM, Con.of, resV, e, go_sem]; done) | fail) trivial rfl rfl))
  | true =>
  cases c8 : strEq ase bse with
  | false =>
    rw [c0, c1, c2, c3, c4, c5, c6, c7, c8] at e
    replace e : smM (akd, acl, asv, ano, aen, afl, ati, ase, aco, u1) (bkd, bcl, bsv, bno, ben, bfl, bti, bse, bco, u2) = false := e
    refine Tri.at (by first | (simp only [Con.start, go_sem]; rfl) | rfl) ?_
    repeat (first | ((first | refine Tri.seq (Tri.regT (cfgKC1_ok.pins _) ?_) | refine Tri.rgnT (cfgKC1_ok.pins _) ?_); (repeat (first | refine RunT.oneA (hp := by simp (maxSteps := 2000000) (disch := first | decide | omega | (simp only [List.length_append, List.length_cons, List.length_nil, List.length_take, List.length_drop]; omega)) only [c0, c1, c2, c3, c4, c5, c6, c7, c8, go_sem]; rfl) (h := ?_) | refine RunT.notA (h := ?_))); refine RunT.nil ?_; try simp only [InBlock, Then]) | refine Tri.cF (by first | (simp only [go_sem]; done) | fail) ?_ | refine Tri.cT (by first | (simp only [go_sem]; done) | fail) ?_ | (refine Tri.skip ?_; try simp only [InBlock, Then]) | (refine Tri.exit ?_; simp only [Then, InBlock, if_true, if_false, ↓reduceIte, Nat.reduceEqDiff]) | refine Tri.seq (Tri.block ?_) | refine Tri.block ?_ | refine Tri.seq ?_ | (refine Tri.ret ?_; refine Con.fin (.inl rfl) (by simp only [Tryd.f89, cfgKC1, resA, resA1, go_sem]; rfl) (by simp only [Obs]) (by first | (simp only [kSmM, Con.of, resV, e, go_sem]; done) | fail) trivial rfl rfl))
  | true =>
    rw [c0, c1, c2, c3, c4, c5, c6, c7, c8] at e
    replace e : smM (akd, acl, asv, ano, aen, afl, ati, ase, aco, u1) (bkd, bcl, bsv, bno, ben, bfl, bti, bse, bco, u2) = true := e
    refine Tri.at (by first | (simp only [Con.start, go_sem]; rfl) | rfl) ?_
    repeat (first | ((first | refine Tri.seq (Tri.regT (cfgKC1_ok.pins _) ?_) | refine Tri.rgnT (cfgKC1_ok.pins _) ?_); (repeat (first | refine RunT.oneA (hp := by simp (maxSteps := 2000000) (disch := first | decide | omega | (simp only [List.length_append, List.length_cons, List.length_nil, List.length_take, List.length_drop]; omega)) only [c0, c1, c2, c3, c4, c5, c6, c7, c8, go_sem]; rfl) (h := ?_) | refine RunT.notA (h := ?_))); refine RunT.nil ?_; try simp only [InBlock, Then]) | refine Tri.cF (by first | (simp only [go_sem]; done) | fail) ?_ | refine Tri.cT (by first | (simp only [go_sem]; done) | fail) ?_ | (refine Tri.skip ?_; try simp only [InBlock, Then]) | (refine Tri.exit ?_; simp only [Then, InBlock, if_true, if_false, ↓reduceIte, Nat.reduceEqDiff]) | refine Tri.seq (Tri.block ?_) | refine Tri.block ?_ | refine Tri.seq ?_ | (refine Tri.ret ?_; refine Con.fin (.inl rfl) (by simp only [Tryd.f89, cfgKC1, resA, resA1, go_sem]; rfl) (by simp only [Obs]) (by first | (simp only [kSmM, Con.of, resV, e, go_sem]; done) | fail) trivial rfl rfl))
theorem smm_sum : FSumOK Tryd.prog cfgKC1.G 89 kSmM.sum := Con.sumOK cfgKC1_ok kSmM Tryd.func89 rfl rfl (Con.of_inv _ _ _) smm_body
end
def vaB (m : krK.T) (tag : Int) : List UInt8 :=
  if tag = 32 then m.2.1 else if tag = 33 then m.2.2.1 else if tag = 34 then numS m.2.2.2.1 else if tag = 35 then numS (UInt64.ofInt m.2.2.2.2.1) else if tag = 36 then numS (UInt64.ofInt m.2.2.2.2.2.1) else if tag = 37 then m.2.2.2.2.2.2.1 else if tag = 38 then m.2.2.2.2.2.2.2.1 else numS (UInt64.ofInt m.2.2.2.2.2.2.2.2.1)
def vaO (m : krK.T) (tag : Int) : Bool :=
  if tag = 32 then rgS (pwS m.2.1) else if tag = 33 then rgS (pwS m.2.2.1) else if tag = 34 then true else if tag = 35 then !decide ((m.2.2.2.2.1 : Int) < 0) && !decide ((1099511627776 : Int) < m.2.2.2.2.1) else if tag = 36 then !decide ((m.2.2.2.2.2.1 : Int) < 0) && !decide ((3 : Int) < m.2.2.2.2.2.1) else if tag = 37 then !decide ((3000 : Int) < ((List.length (α := UInt8) m.2.2.2.2.2.2.1 : Nat) : Int)) else if tag = 38 then !decide ((3000 : Int) < ((List.length (α := UInt8) m.2.2.2.2.2.2.2.1 : Nat) : Int)) else !decide ((m.2.2.2.2.2.2.2.2.1 : Int) < 1) && !decide ((999 : Int) < m.2.2.2.2.2.2.2.2.1)
def kVal : Con := Con.ofO [.rd krK, .a (.v (.int .i64))] [] (fun x => [List.length (α := UInt8) x.1.2.1 ≤ 1000000000, List.length (α := UInt8) x.1.2.2.1 ≤ 1000000000]) (fun x => ⟨.tuple [.pure (.slice true (.int .u8)) (vaB x.1 (toI .i64 x.2.1)), .bool (vaO x.1 (toI .i64 x.2.1))], []⟩)
def cfgKC2 : Cfg2 := { ty := tyTabM, fn := fun | 60 => some kNumP.sum | 103 => some kN1.sum | 104 => some kN2.sum | _ => none, G := gNone, pin := [], eq := fun _ => none }
theorem cfgKC2_ok : CfgOK Tryd.prog cfgKC2 := ⟨tyTabM_ok, (fun f s h => by
  simp only [cfgKC2] at h
  split at h
  · injection h with h; subst h; exact .inl numP_sum
  · injection h with h; subst h; exact .inl kn1_sum
  · injection h with h; subst h; exact .inl kn2_sum
  · cases h), (fun t d h => by cases h)⟩
section
attribute [local go_sem] Tryd.f88 kVal kNumP kN1 kN2 cfgKC2 tyTabM tyTabK tyTab
theorem val_body (p : kVal.Par) (hp : ∀ q ∈ kVal.pre p, q) : BodyOK Tryd.prog cfgKC2 Tryd.f88 (Tryd.f88.body.get rfl) kVal p := by
  obtain ⟨⟨(kd : Int), (cl : List UInt8), (sv : List UInt8), (no : UInt64), (en : Int), (fl : Int), (ti : List UInt8), (se : List UInt8), (co : Int), u1⟩, (tag : Int), u⟩ := p
  obtain ⟨h0, h1, _⟩ := Obs.of hp
  replace h0 : cl.length ≤ 1000000000 := h0
  replace h1 : sv.length ≤ 1000000000 := h1
  refine ⟨?_, Nat.zero_le _, rfl, rfl⟩
  show Tri _ _ _ (Code.seq _ (Code.seq _ (Code.seq _ (Code.seq (Code.seq _ (Code.block _ (Code.seq _ (Code.cond _ (Code.seq _ _) (Code.seq _ (Code.cond _ (Code.seq _ _) (Code.seq _ (Code.cond _ (Code.seq _ _) (Code.seq _ (Code.cond _ (Code.seq _ _) (Code.seq _ (Code.cond _ (Code.seq _ _) (Code.seq _ (Code.cond _ (Code.seq _ _) (Code.seq _ (Code.cond _ (Code.seq _ _) _)))))))))))))))) (Code.seq _ (Code.seq _ _)))))) _
  by_cases k32 : tag = 32
  · subst k32
    have z32 : decide ((32 : Int) = 32) = true := rfl
    have e1 : vaB (kd, cl, sv, no, en, fl, ti, se, co, u1) 32 = cl := rfl
    have e2 : vaO (kd, cl, sv, no, en, fl, ti, se, co, u1) 32 = rgS (pwS cl) := rfl
    refine Tri.at (by first | (simp only [Con.start, go_sem]; rfl) | rfl) ?_
    repeat (first | ((first | refine Tri.seq (Tri.regT (cfgKC2_ok.pins _) ?_) | refine Tri.rgnT (cfgKC2_ok.pins _) ?_); (repeat (first | refine RunT.oneA (hp := by simp (maxSteps := 2000000) (disch := first | decide | omega | (simp only [List.length_append, List.length_cons, List.length_nil, List.length_take, List.length_drop]; omega)) only [go_sem]; rfl) (h := ?_) | refine RunT.notA (h := ?_))); refine RunT.nil ?_; try simp only [InBlock, Then]) | ((first | refine Tri.seq (Tri.drwT (mixed) (cfgKC2_ok.pins _) ?_) | refine Tri.drnT (mixed) (cfgKC2_ok.pins _) ?_); (repeat (first | refine RunD.oneA (hp := by simp (maxSteps := 2000000) (disch := first | decide | omega | (simp only [List.length_append, List.length_cons, List.length_nil, List.length_take, List.length_drop]; omega)) only [z32, e1, e2, go_sem]; rfl) (h := ?_) | refine RunD.notA (h := ?_))); refine RunD.nil ?_; refine ⟨by kernel_rfl, ?_⟩; try simp only [InBlock, Then]) | refine Tri.cF (by first | (simp only [go_sem]; done) | fail) ?_ | refine Tri.cT (by first | (simp only [go_sem]; done) | fail) ?_ | (refine Tri.skip ?_; try simp only [InBlock, Then]) | (refine Tri.exit ?_; simp only [Then, InBlock, if_true, if_false, ↓reduceIte, Nat.reduceEqDiff]) | refine Tri.seq (Tri.block ?_) | refine Tri.block ?_ | refine Tri.seq ?_ | (refine Tri.ret ?_; refine Con.fin (.inl rfl) (by simp only [Tryd.f88, cfgKC2, resA, resA1, go_sem]; rfl) (by simp only [Obs]) (by first | (simp only [kVal, Con.ofO, resV, e1, e2, go_sem]; done) | fail) trivial rfl rfl))
  by_cases k33 : tag = 33
  · subst k33
    have z32 : decide ((33 : Int) = 32) = false := rfl
    have z33 : decide ((33 : Int) = 33) = true := rfl
    have e1 : vaB (kd, cl, sv, no, en, fl, ti, se, co, u1) 33 = sv := rfl
    have e2 : vaO (kd, cl, sv, no, en, fl, ti, se, co, u1) 33 = rgS (pwS sv) := rfl
    refine Tri.at (by first | (simp only [Con.start, go_sem]; rfl) | rfl) ?_
    repeat (first | ((first | refine Tri.seq (Tri.regT (cfgKC2_ok.pins _) ?_) | refine Tri.rgnT (cfgKC2_ok.pins _) ?_); (repeat (first | refine RunT.oneA (hp := by simp (maxSteps := 2000000) (disch := first | decide | omega | (simp only [List.length_append, List.length_cons, List.length_nil, List.length_take, List.length_drop]; omega)) only [go_sem]; rfl) (h := ?_) | refine RunT.notA (h := ?_))); refine RunT.nil ?_; try simp only [InBlock, Then]) | ((first | refine Tri.seq (Tri.drwT (mixed) (cfgKC2_ok.pins _) ?_) | refine Tri.drnT (mixed) (cfgKC2_ok.pins _) ?_); (repeat (first | refine RunD.oneA (hp := by simp (maxSteps := 2000000) (disch := first | decide | omega | (simp only [List.length_append, List.length_cons, List.length_nil, List.length_take, List.length_drop]; omega)) only [z32, z33, e1, e2, go_sem]; rfl) (h := ?_) | refine RunD.notA (h := ?_))); refine RunD.nil ?_; refine ⟨by kernel_rfl, ?_⟩; try simp only [InBlock, Then]) | refine Tri.cF (by first | (simp only [go_sem]; done) | fail) ?_ | refine Tri.cT (by first | (simp only [go_sem]; done) | fail) ?_ | (refine Tri.skip ?_; try simp only [InBlock, Then]) | (refine Tri.exit ?_; simp only [Then, InBlock, if_true, if_false, ↓reduceIte, Nat.reduceEqDiff]) | refine Tri.seq (Tri.block ?_) | refine Tri.block ?_ | refine Tri.seq ?_ | (refine Tri.ret ?_; refine Con.fin (.inl rfl) (by simp only [Tryd.f88, cfgKC2, resA, resA1, go_sem]; rfl) (by simp only [Obs]) (by first | (simp only [kVal, Con.ofO, resV, e1, e2, go_sem]; done) | fail) trivial rfl rfl))
  by_cases k34 : tag = 34
  · subst k34
    have z32 : decide ((34 : Int) = 32) = false := rfl
    have z33 : decide ((34 : Int) = 33) = false := rfl
    have z34 : decide ((34 : Int) = 34) = true := rfl
    have e1 : vaB (kd, cl, sv, no, en, fl, ti, se, co, u1) 34 = numS no := rfl
    have e2 : vaO (kd, cl, sv, no, en, fl, ti, se, co, u1) 34 = true := rfl
    refine Tri.at (by first | (simp only [Con.start, go_sem]; rfl) | rfl) ?_
    repeat (first | ((first | refine Tri.seq (Tri.regT (cfgKC2_ok.pins _) ?_) | refine Tri.rgnT (cfgKC2_ok.pins _) ?_); (repeat (first | refine RunT.oneA (hp := by simp (maxSteps := 2000000) (disch := first | decide | omega | (simp only [List.length_append, List.length_cons, List.length_nil, List.length_take, List.length_drop]; omega)) only [go_sem]; rfl) (h := ?_) | refine RunT.notA (h := ?_))); refine RunT.nil ?_; try simp only [InBlock, Then]) | ((first | refine Tri.seq (Tri.drwT (mixed) (cfgKC2_ok.pins _) ?_) | refine Tri.drnT (mixed) (cfgKC2_ok.pins _) ?_); (repeat (first | refine RunD.oneA (hp := by simp (maxSteps := 2000000) (disch := first | decide | omega | (simp only [List.length_append, List.length_cons, List.length_nil, List.length_take, List.length_drop]; omega)) only [z32, z33, z34, e1, e2, go_sem]; rfl) (h := ?_) | refine RunD.notA (h := ?_))); refine RunD.nil ?_; refine ⟨by kernel_rfl, ?_⟩; try simp only [InBlock, Then]) | refine Tri.cF (by first | (simp only [go_sem]; done) | fail) ?_ | refine Tri.cT (by first | (simp only [go_sem]; done) | fail) ?_ | (refine Tri.skip ?_; try simp only [InBlock, Then]) | (refine Tri.exit ?_; simp only [Then, InBlock, if_true, if_false, ↓reduceIte, Nat.reduceEqDiff]) | refine Tri.seq (Tri.block ?_) | refine Tri.block ?_ | refine Tri.seq ?_ | (refine Tri.ret ?_; refine Con.fin (.inl rfl) (by simp only [Tryd.f88, cfgKC2, resA, resA1, go_sem]; rfl) (by simp only [Obs]) (by first | (simp only [kVal, Con.ofO, resV, e1, e2, go_sem]; done) | fail) trivial rfl rfl))
  by_cases k35 : tag = 35
  · subst k35
    have z32 : decide ((35 : Int) = 32) = false := rfl
    have z33 : decide ((35 : Int) = 33) = false := rfl
    have z34 : decide ((35 : Int) = 34) = false := rfl
    have z35 : decide ((35 : Int) = 35) = true := rfl
    have e1 : vaB (kd, cl, sv, no, en, fl, ti, se, co, u1) 35 = numS (UInt64.ofInt en) := rfl
    have e2 : vaO (kd, cl, sv, no, en, fl, ti, se, co, u1) 35 = (!decide (en < 0) && !decide ((1099511627776 : Int) < en)) := rfl
    refine Tri.at (by first | (simp only [Con.start, go_sem]; rfl) | rfl) ?_
    repeat (first | ((first | refine Tri.seq (Tri.regT (cfgKC2_ok.pins _) ?_) | refine Tri.rgnT (cfgKC2_ok.pins _) ?_); (repeat (first | refine RunT.oneA (hp := by simp (maxSteps := 2000000) (disch := first | decide | omega | (simp only [List.length_append, List.length_cons, List.length_nil, List.length_take, List.length_drop]; omega)) only [go_sem]; rfl) (h := ?_) | refine RunT.notA (h := ?_))); refine RunT.nil ?_; try simp only [InBlock, Then]) | ((first | refine Tri.seq (Tri.drwT (mixed) (cfgKC2_ok.pins _) ?_) | refine Tri.drnT (mixed) (cfgKC2_ok.pins _) ?_); (repeat (first | refine RunD.oneA (hp := by simp (maxSteps := 2000000) (disch := first | decide | omega | (simp only [List.length_append, List.length_cons, List.length_nil, List.length_take, List.length_drop]; omega)) only [z32, z33, z34, z35, go_sem]; rfl) (h := ?_) | refine RunD.notA (h := ?_))); refine RunD.nil ?_; refine ⟨by kernel_rfl, ?_⟩; try simp only [InBlock, Then]) | refine Tri.cF (by first | (simp only [go_sem]; done) | fail) ?_ | refine Tri.cT (by first | (simp only [go_sem]; done) | fail) ?_ | (refine Tri.skip ?_; try simp only [InBlock, Then]) | (refine Tri.exit ?_; simp only [Then, InBlock, if_true, if_false, ↓reduceIte, Nat.reduceEqDiff]) | refine Tri.seq (Tri.block ?_) | refine Tri.block ?_ | refine Tri.seq ?_ | (refine Tri.ret ?_; refine Con.fin (.inl rfl) (by simp only [Tryd.f88, cfgKC2, resA, resA1, go_sem]; rfl) (by simp only [Obs]) (by first | (simp only [kVal, Con.ofO, resV, go_sem]; done) | fail) trivial rfl rfl))
    refine Tri.ret ?_
    refine Con.fin (.inl rfl) (by simp only [Tryd.f88, cfgKC2, resA, resA1, go_sem]; rfl) (by simp only [Obs]) ?_ ?_ rfl rfl
    · show AV.tuple [.pure (.slice true (.int .u8)) (numS (UInt64.ofInt en)), .bool (!decide (en < 0) && !decide ((1099511627776 : Int) < en))] = AV.tuple [.pure (.slice true (.int .u8)) (vaB (kd, cl, sv, no, en, fl, ti, se, co, u1) 35), .bool (vaO (kd, cl, sv, no, en, fl, ti, se, co, u1) 35)]
      rw [e1, e2]
    · exact True.intro
  by_cases k36 : tag = 36
  · subst k36
    have z32 : decide ((36 : Int) = 32) = false := rfl
    have z33 : decide ((36 : Int) = 33) = false := rfl
    have z34 : decide ((36 : Int) = 34) = false := rfl
    have z35 : decide ((36 : Int) = 35) = false := rfl
    have z36 : decide ((36 : Int) = 36) = true := rfl
    have e1 : vaB (kd, cl, sv, no, en, fl, ti, se, co, u1) 36 = numS (UInt64.ofInt fl) := rfl
    have e2 : vaO (kd, cl, sv, no, en, fl, ti, se, co, u1) 36 = (!decide (fl < 0) && !decide ((3 : Int) < fl)) := rfl
    refine Tri.at (by first | (simp only [Con.start, go_sem]; rfl) | rfl) ?_
    repeat (first | ((first | refine Tri.seq (Tri.regT (cfgKC2_ok.pins _) ?_) | refine Tri.rgnT (cfgKC2_ok.pins _) ?_); (repeat (first | refine RunT.oneA (hp := by simp (maxSteps := 2000000) (disch := first | decide | omega | (simp only [List.length_append, List.length_cons, List.length_nil, List.length_take, List.length_drop]; omega)) only [go_sem]; rfl) (h := ?_) | refine RunT.notA (h := ?_))); refine RunT.nil ?_; try simp only [InBlock, Then]) | ((first | refine Tri.seq (Tri.drwT (mixed) (cfgKC2_ok.pins _) ?_) | refine Tri.drnT (mixed) (cfgKC2_ok.pins _) ?_); (repeat (first | refine RunD.oneA (hp := by simp (maxSteps := 2000000) (disch := first | decide | omega | (simp only [List.length_append, List.length_cons, List.length_nil, List.length_take, List.length_drop]; omega)) only [z32, z33, z34, z35, z36, go_sem]; rfl) (h := ?_) | refine RunD.notA (h := ?_))); refine RunD.nil ?_; refine ⟨by kernel_rfl, ?_⟩; try simp only [InBlock, Then]) | refine Tri.cF (by first | (simp only [go_sem]; done) | fail) ?_ | refine Tri.cT (by first | (simp only [go_sem]; done) | fail) ?_ | (refine Tri.skip ?_; try simp only [InBlock, Then]) | (refine Tri.exit ?_; simp only [Then, InBlock, if_true, if_false, ↓reduceIte, Nat.reduceEqDiff]) | refine Tri.seq (Tri.block ?_) | refine Tri.block ?_ | refine Tri.seq ?_ | (refine Tri.ret ?_; refine Con.fin (.inl rfl) (by simp only [Tryd.f88, cfgKC2, resA, resA1, go_sem]; rfl) (by simp only [Obs]) (by first | (simp only [kVal, Con.ofO, resV, go_sem]; done) | fail) trivial rfl rfl))
    refine Tri.ret ?_
    refine Con.fin (.inl rfl) (by simp only [Tryd.f88, cfgKC2, resA, resA1, go_sem]; rfl) (by simp only [Obs]) ?_ ?_ rfl rfl
    · show AV.tuple [.pure (.slice true (.int .u8)) (numS (UInt64.ofInt fl)), .bool (!decide (fl < 0) && !decide ((3 : Int) < fl))] = AV.tuple [.pure (.slice true (.int .u8)) (vaB (kd, cl, sv, no, en, fl, ti, se, co, u1) 36), .bool (vaO (kd, cl, sv, no, en, fl, ti, se, co, u1) 36)]
      rw [e1, e2]
    · exact True.intro
  by_cases k37 : tag = 37
  · subst k37
    have z32 : decide ((37 : Int) = 32) = false := rfl
    have z33 : decide ((37 : Int) = 33) = false := rfl
    have z34 : decide ((37 : Int) = 34) = false := rfl
    have z35 : decide ((37 : Int) = 35) = false := rfl
    have z36 : decide ((37 : Int) = 36) = false := rfl
    have z37 : decide ((37 : Int) = 37) = true := rfl
    have e1 : vaB (kd, cl, sv, no, en, fl, ti, se, co, u1) 37 = ti := rfl
    have e2 : vaO (kd, cl, sv, no, en, fl, ti, se, co, u1) 37 = !decide ((3000 : Int) < (ti.length : Int)) := rfl
    refine Tri.at (by first | (simp only [Con.start, go_sem]; rfl) | rfl) ?_
    repeat (first | ((first | refine Tri.seq (Tri.regT (cfgKC2_ok.pins _) ?_) | refine Tri.rgnT (cfgKC2_ok.pins _) ?_); (repeat (first | refine RunT.oneA (hp := by simp (maxSteps := 2000000) (disch := first | decide | omega | (simp only [List.length_append, List.length_cons, List.length_nil, List.length_take, List.length_drop]; omega)) only [go_sem]; rfl) (h := ?_) | refine RunT.notA (h := ?_))); refine RunT.nil ?_; try simp only [InBlock, Then]) | ((first | refine Tri.seq (Tri.drwT (mixed) (cfgKC2_ok.pins _) ?_) | refine Tri.drnT (mixed) (cfgKC2_ok.pins _) ?_); (repeat (first | refine RunD.oneA (hp := by simp (maxSteps := 2000000) (disch := first | decide | omega | (simp only [List.length_append, List.length_cons, List.length_nil, List.length_take, List.length_drop]; omega)) only [go_sem]; rfl) (h := ?_) | refine RunD.notA (h := ?_))); refine RunD.nil ?_; refine ⟨by kernel_rfl, ?_⟩; try simp only [InBlock, Then]) | refine Tri.cF (by first | (simp only [go_sem]; done) | fail) ?_ | refine Tri.cT (by first | (simp only [go_sem]; done) | fail) ?_ | (refine Tri.skip ?_; try simp only [InBlock, Then]) | (refine Tri.exit ?_; simp only [Then, InBlock, if_true, if_false, ↓reduceIte, Nat.reduceEqDiff]) | refine Tri.seq (Tri.block ?_) | refine Tri.block ?_ | refine Tri.seq ?_ | (refine Tri.ret ?_; refine Con.fin (.inl rfl) (by simp only [Tryd.f88, cfgKC2, resA, resA1, go_sem]; rfl) (by simp only [Obs]) (by first | (simp only [kVal, Con.ofO, resV, e1, e2, go_sem]; done) | fail) trivial rfl rfl))
  by_cases k38 : tag = 38
  · subst k38
    have z32 : decide ((38 : Int) = 32) = false := rfl
    have z33 : decide ((38 : Int) = 33) = false := rfl
    have z34 : decide ((38 : Int) = 34) = false := rfl
    have z35 : decide ((38 : Int) = 35) = false := rfl
    have z36 : decide ((38 : Int) = 36) = false := rfl
    have z37 : decide ((38 : Int) = 37) = false := rfl
    have z38 : decide ((38 : Int) = 38) = true := rfl
    have e1 : vaB (kd, cl, sv, no, en, fl, ti, se, co, u1) 38 = se := rfl
    have e2 : vaO (kd, cl, sv, no, en, fl, ti, se, co, u1) 38 = !decide ((3000 : Int) < (se.length : Int)) := rfl
    refine Tri.at (by first | (simp only [Con.start, go_sem]; rfl) | rfl) ?_
    repeat (first | ((first | refine Tri.seq (Tri.regT (cfgKC2_ok.pins _) ?_) | refine Tri.rgnT (cfgKC2_ok.pins _) ?_); (repeat (first | refine RunT.oneA (hp := by simp (maxSteps := 2000000) (disch := first | decide | omega | (simp only [List.length_append, List.length_cons, List.length_nil, List.length_take, List.length_drop]; omega)) only [go_sem]; rfl) (h := ?_) | refine RunT.notA (h := ?_))); refine RunT.nil ?_; try simp only [InBlock, Then]) | ((first | refine Tri.seq (Tri.drwT (mixed) (cfgKC2_ok.pins _) ?_) | refine Tri.drnT (mixed) (cfgKC2_ok.pins _) ?_); (repeat (first | refine RunD.oneA (hp := by simp (maxSteps := 2000000) (disch := first | decide | omega | (simp only [List.length_append, List.length_cons, List.length_nil, List.length_take, List.length_drop]; omega)) only [go_sem]; rfl) (h := ?_) | refine RunD.notA (h := ?_))); refine RunD.nil ?_; refine ⟨by kernel_rfl, ?_⟩; try simp only [InBlock, Then]) | refine Tri.cF (by first | (simp only [go_sem]; done) | fail) ?_ | refine Tri.cT (by first | (simp only [go_sem]; done) | fail) ?_ | (refine Tri.skip ?_; try simp only [InBlock, Then]) | (refine Tri.exit ?_; simp only [Then, InBlock, if_true, if_false, ↓reduceIte, Nat.reduceEqDiff]) | refine Tri.seq (Tri.block ?_) | refine Tri.block ?_ | refine Tri.seq ?_ | (refine Tri.ret ?_; refine Con.fin (.inl rfl) (by simp only [Tryd.f88, cfgKC2, resA, resA1, go_sem]; rfl) (by simp only [Obs]) (by first | (simp only [kVal, Con.ofO, resV, e1, e2, go_sem]; done) | fail) trivial rfl rfl))
  have z32 : decide (tag = 32) = false := decide_eq_false k32
  have z33 : decide (tag = 33) = false := decide_eq_false k33
  have z34 : decide (tag = 34) = false := decide_eq_false k34
  have z35 : decide (tag = 35) = false := decide_eq_false k35
  have z36 : decide (tag = 36) = false := decide_eq_false k36
  have z37 : decide (tag = 37) = false := decide_eq_false k37
  have z38 : decide (tag = 38) = false := decide_eq_false k38
  have e1 : vaB (kd, cl, sv, no, en, fl, ti, se, co, u1) tag = numS (UInt64.ofInt co) := by simp only [vaB, k32, k33, k34, k35, k36, k37, k38, if_false]
  have e2 : vaO (kd, cl, sv, no, en, fl, ti, se, co, u1) tag = (!decide (co < 1) && !decide ((999 : Int) < co)) := by simp only [vaO, k32, k33, k34, k35, k36, k37, k38, if_false]
  cases b1 : decide (co < 1)
  all_goals
    rw [b1] at e2
    simp only [Bool.not_true, Bool.not_false, Bool.true_and, Bool.false_and] at e2
    refine Tri.at (by first | (simp only [Con.start, go_sem]; rfl) | rfl) ?_
    repeat (first | ((first | refine Tri.seq (Tri.regT (cfgKC2_ok.pins _) ?_) | refine Tri.rgnT (cfgKC2_ok.pins _) ?_); (repeat (first | refine RunT.oneA (hp := by simp (maxSteps := 2000000) (disch := first | decide | omega | (simp only [List.length_append, List.length_cons, List.length_nil, List.length_take, List.length_drop]; omega)) only [z32, z33, z34, z35, z36, z37, z38, go_sem]; rfl) (h := ?_) | refine RunT.notA (h := ?_))); refine RunT.nil ?_; try simp only [InBlock, Then]) | ((first | refine Tri.seq (Tri.drwT (mixed) (cfgKC2_ok.pins _) ?_) | refine Tri.drnT (mixed) (cfgKC2_ok.pins _) ?_); (repeat (first | refine RunD.oneA (hp := by simp (maxSteps := 2000000) (disch := first | decide | omega | (simp only [List.length_append, List.length_cons, List.length_nil, List.length_take, List.length_drop]; omega)) only [b1, go_sem]; rfl) (h := ?_) | refine RunD.notA (h := ?_))); refine RunD.nil ?_; refine ⟨by kernel_rfl, ?_⟩; try simp only [InBlock, Then]) | refine Tri.cF (by first | (simp only [go_sem]; done) | fail) ?_ | refine Tri.cT (by first | (simp only [go_sem]; done) | fail) ?_ | (refine Tri.skip ?_; try simp only [InBlock, Then]) | (refine Tri.exit ?_; simp only [Then, InBlock, if_true, if_false, ↓reduceIte, Nat.reduceEqDiff]) | refine Tri.seq (Tri.block ?_) | refine Tri.block ?_ | refine Tri.seq ?_ | (refine Tri.ret ?_; refine Con.fin (.inl rfl) (by simp only [Tryd.f88, cfgKC2, resA, resA1, go_sem]; rfl) (by simp only [Obs]) (by first | (simp only [kVal, Con.ofO, resV, e1, e2, go_sem]; done) | fail) trivial rfl rfl))
theorem val_sum : FSumOK Tryd.prog cfgKC2.G 88 kVal.sum := Con.sumOK cfgKC2_ok kVal Tryd.func88 rfl rfl (Con.ofO_inv _ _ _ _) val_body
end
end Go.Proofs.YtjdeaphfamenaaaDoor

namespace Go.Proofs.YtjdeaphfamenaaaDoor
open Go.Vc Go.Proofs
set_option maxRecDepth 10000
set_option maxHeartbeats 4000000
def spN (d : List UInt8) : Nat := (d.getD 1 0).toNat * 256 + (d.getD 2 0).toNat
def spF : Nat → List UInt8 → List flK.T → Option (List flK.T) × Int
  | 0, _, acc => (some acc, 0)
  | k + 1, d, acc =>
    if d.length = 0 then (some acc, 0)
    else if d.getD 0 0 = 0 then (none, 21)
    else if d.length < 3 then (none, 20)
    else if d.length - 3 < spN d then (none, 20)
    else spF k (List.drop (spN d) (List.drop 3 d)) (acc ++ [((((d.getD 0 0).toNat : Int), List.take (spN d) (List.drop 3 d), ()) : flK.T)])
def spV (d : List UInt8) : AV := match spF d.length d [] with
  | (none, e) => .tuple [.nilsl, .int .i64 e]
  | (some fs, _) => .tuple [.pure (.slice true flK) fs, .int .i64 (0 : Int)]
theorem sp_or (a b : UInt8) : orT .i64 (shlT .i64 ((a.toNat : Nat) : Int) 8) ((b.toNat : Nat) : Int) = ((a.toNat * 256 + b.toNat : Nat) : Int) := by
  have ha := UInt8.toNat_lt a
  have hb := UInt8.toNat_lt b
  have h1 : (shlT .i64 ((a.toNat : Nat) : Int) 8 : Int) = ((a.toNat * 256 : Nat) : Int) := by
    have h := toI_shlT .i64 ((a.toNat : Nat) : Int) 8
    have e : toI .i64 (shlT .i64 ((a.toNat : Nat) : Int) 8) = (shlT .i64 ((a.toNat : Nat) : Int) 8 : Int) := rfl
    rw [← e, h]
    show IntKind.i64.wrap (((a.toNat : Nat) : Int) * 2 ^ min 8 64) = _
    have e2 : ((2 : Int) ^ min 8 64) = 256 := by decide
    rw [e2, wrap_i64_id _ (by omega) (by omega)]
    omega
  rw [h1]
  show bits .or .i64 ((a.toNat * 256 : Nat) : Int) ((b.toNat : Nat) : Int) = _
  have e3 : bits .or .i64 ((a.toNat * 256 : Nat) : Int) ((b.toNat : Nat) : Int) = IntKind.wrap .i64 (((BitVec.ofInt 64 ((a.toNat * 256 : Nat) : Int)) ||| (BitVec.ofInt 64 ((b.toNat : Nat) : Int))).toNat : Int) := rfl
  have h2 : ((BitVec.ofInt 64 ((a.toNat * 256 : Nat) : Int)) ||| (BitVec.ofInt 64 ((b.toNat : Nat) : Int))).toNat = a.toNat * 256 + b.toNat := by
    rw [BitVec.toNat_or]
    have f1 : (BitVec.ofInt 64 ((a.toNat * 256 : Nat) : Int)).toNat = a.toNat * 256 := by simp <;> omega
    have f2 : (BitVec.ofInt 64 ((b.toNat : Nat) : Int)).toNat = b.toNat := by simp <;> omega
    rw [f1, f2]
    have h3 := Nat.two_pow_add_eq_or_of_lt (i := 8) (b := b.toNat) (by omega) a.toNat
    rw [Nat.mul_comm a.toNat 256]
    exact h3.symm
  rw [e3, h2, wrap_i64_id _ (by omega) (by omega)]
def kSpt : Con := Con.of [.v (.slice false (.int .u8))] (fun x => [List.length (α := UInt8) x.1 ≤ 1000000]) (fun x => ⟨spV x.1, []⟩)
def cfgKP1 : Cfg2 := { ty := tyTabM, fn := fun | 96 => some kClo.sum | _ => none, G := gNone, pin := [], eq := fun _ => none }
theorem cfgKP1_ok : CfgOK Tryd.prog cfgKP1 := ⟨tyTabM_ok, (fun f s h => by
  simp only [cfgKP1] at h
  split at h
  · injection h with h; subst h; exact .inl clo_sum
  · cases h), (fun t d h => by cases h)⟩
section
attribute [local go_sem] Tryd.f72 kSpt kClo cfgKP1 tyTabM tyTabK tyTab
theorem spt_body (p : kSpt.Par) (hp : ∀ q ∈ kSpt.pre p, q) : BodyOK Tryd.prog cfgKP1 Tryd.f72 (Tryd.f72.body.get rfl) kSpt p := by
  obtain ⟨(d0 : List UInt8), u⟩ := p
  obtain ⟨h0, _⟩ := Obs.of hp
  replace h0 : d0.length ≤ 1000000 := h0
  refine ⟨?_, Nat.zero_le _, (by show (spV d0).strict = true; unfold spV; split <;> rfl), rfl⟩
  show Tri _ _ _ (Code.seq _ (Code.seq (Code.block _ (Code.loop (Code.seq (Code.seq _ (Code.cond _ _ _)) (Code.block _ (Code.seq (Code.seq _ (Code.cond _ (Code.seq _ _) _)) (Code.seq (Code.seq _ (Code.cond _ (Code.seq _ _) _)) (Code.seq _ (Code.seq _ (Code.seq (Code.seq _ (Code.cond _ (Code.seq _ _) _)) (Code.seq _ _)))))))))) (Code.seq _ _))) _
  have hV : spV d0 = (match spF d0.length d0 [] with
    | (none, e) => .tuple [.nilsl, .int .i64 e]
    | (some fs, _) => .tuple [.pure (.slice true flK) fs, .int .i64 (0 : Int)]) := rfl
  refine Tri.at (by first | (simp only [go_sem, Con.start, go_sem]; rfl) | rfl) ?_
  repeat (first | ((first | refine Tri.seq (Tri.regT (cfgKP1_ok.pins _) ?_) | refine Tri.rgnT (cfgKP1_ok.pins _) ?_); (repeat (first | refine RunT.oneA (hp := by simp (maxSteps := 2000000) (disch := first | decide | omega | (simp only [List.length_append, List.length_cons, List.length_nil, List.length_take, List.length_drop]; omega)) only [go_sem, go_sem]; rfl) (h := ?_) | refine RunT.notA (h := ?_))); refine RunT.nil ?_; try simp only [InBlock, Then]) | refine Tri.cF (by first | (simp only [go_sem, go_sem]; done) | fail) ?_ | refine Tri.cT (by first | (simp only [go_sem, go_sem]; done) | fail) ?_ | (refine Tri.skip ?_; try simp only [InBlock, Then]) | (refine Tri.exit ?_; simp only [Then, InBlock, if_true, if_false, ↓reduceIte, Nat.reduceEqDiff]) | refine Tri.seq (Tri.block ?_) | refine Tri.block ?_ | refine Tri.seq ?_ | (refine Tri.ret ?_; refine Con.fin (.inl rfl) (by simp only [Tryd.f72, cfgKP1, resA, resA1, go_sem]; rfl) (by simp only [Obs, and_true, true_and]) (by first | (simp only [kSpt, Con.of, Con.ofO, resV, go_sem, go_sem]; done) | fail) trivial rfl rfl))
  refine Tri.phT 2 flK 2 rfl rfl ?_
  refine Tri.loop (fun v : Nat × List UInt8 × List flK.T => (⟨[some (.pure (.slice false (.int .u8)) v.2.1), none, some (.tsl 0 [] 0 0 2 v.2.2.length), some (.int .i64 (0 : Int))] ++ List.replicate 44 none, [.live (.pure (.arr v.2.2.length flK) v.2.2)]⟩ : AS)) (fun v => v.2.1.length ≤ v.1 ∧ v.1 ≤ d0.length ∧ v.2.2.length + v.1 ≤ d0.length ∧ spF d0.length d0 [] = spF v.1 v.2.1 v.2.2) (fun v => v.1) (d0.length, d0, []) ?_ ⟨Nat.le_refl _, Nat.le_refl _, (by show 0 + d0.length ≤ d0.length; omega), rfl⟩ ?_
  · refine Wk.of ?_ ?_ rfl rfl
    · simp only [List.reduceReplicate, List.cons_append, List.nil_append, List.length_nil] <;> ((repeat' apply And.intro) <;> first | with_reducible rfl | exact True.intro | exact congrArg (fun z : Int => some (AV.int IntKind.i64 z)) (show (_ : Int) = _ by omega) | exact congrArg (fun z : Nat => some (AV.tsl _ _ _ _ _ z)) (show (_ : Nat) = _ by omega) | exact arrEq (by omega) (by with_reducible rfl))
    exact ⟨rfl, trivial⟩
  · intro ⟨k, d, acc⟩ ⟨hk, hk2, hal, hsp⟩
    replace hk : d.length ≤ k := hk
    replace hk2 : k ≤ d0.length := hk2
    replace hal : acc.length + k ≤ d0.length := hal
    replace hsp : spF d0.length d0 [] = spF k d acc := hsp
    have htk : List.take acc.length acc = acc := List.take_length
    by_cases hz : d.length = 0
    · have hz' : decide ((0 : Int) < (d.length : Int)) = false := decide_eq_false (by omega)
      have hend : spF k d acc = (some acc, 0) := by
        cases k with
        | zero => rfl
        | succ k => rw [spF, if_pos hz]
      rw [hsp, hend] at hV
      replace hV : spV d0 = .tuple [.pure (.slice true flK) acc, .int .i64 (0 : Int)] := hV
      refine Tri.at (by first | (simp only [go_sem]; rfl) | rfl) ?_
      repeat (first | ((first | refine Tri.seq (Tri.regT (cfgKP1_ok.pins _) ?_) | refine Tri.rgnT (cfgKP1_ok.pins _) ?_); (repeat (first | refine RunT.oneA (hp := by simp (maxSteps := 2000000) (disch := first | decide | omega | (simp only [List.length_append, List.length_cons, List.length_nil, List.length_take, List.length_drop]; omega)) only [hz', go_sem]; rfl) (h := ?_) | refine RunT.notA (h := ?_))); refine RunT.nil ?_; try simp only []) | refine Tri.cF (by first | (simp only [go_sem]; done) | fail) ?_ | refine Tri.cT (by first | (simp only [go_sem]; done) | fail) ?_ | (refine Tri.skip ?_; try simp only [InBlock, Then]) | (refine Tri.exit ?_; simp only [Then, InBlock, ↓reduceIte]) | refine Tri.seq (Tri.block ?_) | refine Tri.block ?_ | refine Tri.seq ?_ | (refine Tri.ret ?_; refine Con.fin (.inl rfl) (by simp only [Tryd.f72, cfgKP1, resA, resA1, go_sem]; rfl) (by simp only [Obs]) (by first | (simp only [kSpt, Con.of, resV, go_sem]; done) | fail) trivial rfl rfl))
      refine Tri.rel true 0 rfl ?_ rfl rfl ?_
      · simp only [go_sem]
        repeat' constructor
      refine Tri.at (by first | (simp only [htk, go_sem]; rfl) | rfl) ?_
      refine Tri.ret ?_
      refine Con.fin (.inl rfl) (by simp only [Tryd.f72, cfgKP1, resA, resA1, go_sem]; rfl) (by simp only [Obs]) ?_ ?_ ?_ rfl
      · exact hV.symm
      · exact True.intro
      · show (AS.mk [some (spV d0)] []).closed = true
        rw [hV]; rfl
    · have hz' : decide ((0 : Int) < (d.length : Int)) = true := decide_eq_true (by omega)
      obtain ⟨k', rfl⟩ : ∃ k', k = k' + 1 := ⟨k - 1, by omega⟩
      rw [spF, if_neg hz] at hsp
      by_cases h1 : d.getD 0 0 = 0
      · have h1' : decide (d.getD 0 0 = 0) = true := decide_eq_true h1
        rw [if_pos h1] at hsp
        rw [hsp] at hV
        replace hV : spV d0 = .tuple [.nilsl, .int .i64 (21 : Int)] := hV
        refine Tri.at (by first | (simp only [go_sem]; rfl) | rfl) ?_
        repeat (first | ((first | refine Tri.seq (Tri.regT (cfgKP1_ok.pins _) ?_) | refine Tri.rgnT (cfgKP1_ok.pins _) ?_); (repeat (first | refine RunT.oneA (hp := by simp (maxSteps := 2000000) (disch := first | decide | omega | (simp only [List.length_append, List.length_cons, List.length_nil, List.length_take, List.length_drop]; omega)) only [hz', h1', go_sem]; rfl) (h := ?_) | refine RunT.notA (h := ?_))); refine RunT.nil ?_; try simp only []) | refine Tri.cF (by first | (simp only [go_sem]; done) | fail) ?_ | refine Tri.cT (by first | (simp only [go_sem]; done) | fail) ?_ | (refine Tri.skip ?_; try simp only [Then]) | (refine Tri.exit ?_; simp only [Then, InBlock, if_true, if_false, ↓reduceIte, Nat.reduceEqDiff]) | refine Tri.seq (Tri.block ?_) | refine Tri.block ?_ | refine Tri.seq ?_ | (refine Tri.ret ?_; refine Con.fin (.inl rfl) (by simp only [Tryd.f72, cfgKP1, resA, resA1, go_sem]; rfl) (by simp only [Obs]) (by first | (simp only [kSpt, Con.of, resV, go_sem]; done) | fail) trivial rfl rfl))
        refine Tri.ret ?_
        refine Con.fin (.inl rfl) (by simp only [Tryd.f72, cfgKP1, resA, resA1, go_sem]; rfl) (by simp only [Obs]) ?_ ?_ ?_ rfl
        · exact hV.symm
        · exact True.intro
        · show (AS.mk [some (spV d0)] []).closed = true
          rw [hV]; rfl
      · have h1' : decide (d.getD 0 0 = 0) = false := decide_eq_false h1
        rw [if_neg h1] at hsp
        by_cases h2 : d.length < 3
        · have h2' : decide ((d.length : Int) < 3) = true := decide_eq_true (by omega)
          rw [if_pos h2] at hsp
          rw [hsp] at hV
          replace hV : spV d0 = .tuple [.nilsl, .int .i64 (20 : Int)] := hV
          refine Tri.at (by first | (simp only [go_sem]; rfl) | rfl) ?_
          repeat (first | ((first | refine Tri.seq (Tri.regT (cfgKP1_ok.pins _) ?_) | refine Tri.rgnT (cfgKP1_ok.pins _) ?_); (repeat (first | refine RunT.oneA (hp := by simp (maxSteps := 2000000) (disch := first | decide | omega | (simp only [List.length_append, List.length_cons, List.length_nil, List.length_take, List.length_drop]; omega)) only [hz', h1', h2', go_sem]; rfl) (h := ?_) | refine RunT.notA (h := ?_))); refine RunT.nil ?_; try simp only []) | refine Tri.cF (by first | (simp only [go_sem]; done) | fail) ?_ | refine Tri.cT (by first | (simp only [go_sem]; done) | fail) ?_ | (refine Tri.skip ?_; try simp only [Then]) | (refine Tri.exit ?_; simp only [Then, InBlock, if_true, if_false, ↓reduceIte, Nat.reduceEqDiff]) | refine Tri.seq (Tri.block ?_) | refine Tri.block ?_ | refine Tri.seq ?_ | (refine Tri.ret ?_; refine Con.fin (.inl rfl) (by simp only [Tryd.f72, cfgKP1, resA, resA1, go_sem]; rfl) (by simp only [Obs]) (by first | (simp only [kSpt, Con.of, resV, go_sem]; done) | fail) trivial rfl rfl))
          refine Tri.ret ?_
          refine Con.fin (.inl rfl) (by simp only [Tryd.f72, cfgKP1, resA, resA1, go_sem]; rfl) (by simp only [Obs]) ?_ ?_ ?_ rfl
          · exact hV.symm
          · exact True.intro
          · show (AS.mk [some (spV d0)] []).closed = true
            rw [hV]; rfl
        · have h2' : decide ((d.length : Int) < 3) = false := decide_eq_false (by omega)
          rw [if_neg h2] at hsp
          have hor := sp_or (d.getD 1 0) (d.getD 2 0)
          have hn : (d.getD 1 0).toNat * 256 + (d.getD 2 0).toNat = spN d := rfl
          rw [hn] at hor
          have hr : List.take (d.length - 3) (List.drop 3 d) = List.drop 3 d := List.take_of_length_le (by rw [List.length_drop]; exact Nat.le_refl _)
          have hrl : (List.drop 3 d).length = d.length - 3 := List.length_drop ..
          by_cases h3 : d.length - 3 < spN d
          · have h3' : decide (((d.length - 3 : Nat) : Int) < (spN d : Int)) = true := decide_eq_true (by omega)
            rw [if_pos h3] at hsp
            rw [hsp] at hV
            replace hV : spV d0 = .tuple [.nilsl, .int .i64 (20 : Int)] := hV
            refine Tri.at (by first | (simp only [go_sem]; rfl) | rfl) ?_
            repeat (first | ((first | refine Tri.seq (Tri.regT (cfgKP1_ok.pins _) ?_) | refine Tri.rgnT (cfgKP1_ok.pins _) ?_); (repeat (first | refine RunT.oneA (hp := by simp (maxSteps := 2000000) (disch := first | decide | omega | (simp only [List.length_append, List.length_cons, List.length_nil, List.length_take, List.length_drop]; omega)) only [hz', h1', h2', hr, hrl, h3', go_sem]; rfl) (h := ?_) | refine RunT.notA (h := ?_))); refine RunT.nil ?_; try simp only []) | ((first | refine Tri.seq (Tri.drwT (mixed) (cfgKP1_ok.pins _) ?_) | refine Tri.drnT (mixed) (cfgKP1_ok.pins _) ?_); (repeat (first | refine RunD.oneA (hp := by simp (maxSteps := 2000000) (disch := first | decide | omega | (simp only [List.length_append, List.length_cons, List.length_nil, List.length_take, List.length_drop]; omega)) only [hor, go_sem]; rfl) (h := ?_) | refine RunD.notA (h := ?_))); refine RunD.nil ?_; refine ⟨by kernel_rfl, ?_⟩; try simp only [InBlock, Then]) | refine Tri.cF (by first | (simp only [go_sem]; done) | fail) ?_ | refine Tri.cT (by first | (simp only [go_sem]; done) | fail) ?_ | (refine Tri.skip ?_; try simp only [Then]) | (refine Tri.exit ?_; simp only [Then, InBlock, if_true, if_false, ↓reduceIte, Nat.reduceEqDiff]) | refine Tri.seq (Tri.block ?_) | refine Tri.block ?_ | refine Tri.seq ?_ | (refine Tri.ret ?_; refine Con.fin (.inl rfl) (by simp only [Tryd.f72, cfgKP1, resA, resA1, go_sem]; rfl) (by simp only [Obs]) (by first | (simp only [kSpt, Con.of, resV, go_sem]; done) | fail) trivial rfl rfl))
            refine Tri.ret ?_
            refine Con.fin (.inl rfl) (by simp only [Tryd.f72, cfgKP1, resA, resA1, go_sem]; rfl) (by simp only [Obs]) ?_ ?_ ?_ rfl
            · exact hV.symm
            · exact True.intro
            · show (AS.mk [some (spV d0)] []).closed = true
              rw [hV]; rfl
          · have h3' : decide (((d.length - 3 : Nat) : Int) < (spN d : Int)) = false := decide_eq_false (by omega)
            rw [if_neg h3] at hsp
            have hcl : (List.take (spN d) (List.drop 3 d)).length ≤ 140737488355328 := by rw [List.length_take, hrl]; omega
            have hr2 : List.take (d.length - 3 - spN d) (List.drop (spN d) (List.drop 3 d)) = List.drop (spN d) (List.drop 3 d) := List.take_of_length_le (by rw [List.length_drop, hrl]; exact Nat.le_refl _)
            refine Tri.at (by first | (simp only [go_sem]; rfl) | rfl) ?_
            repeat (first | ((first | refine Tri.seq (Tri.regT (cfgKP1_ok.pins _) ?_) | refine Tri.rgnT (cfgKP1_ok.pins _) ?_); (repeat (first | refine RunT.oneA (hp := by simp (maxSteps := 2000000) (disch := first | decide | omega | (simp only [List.length_append, List.length_cons, List.length_nil, List.length_take, List.length_drop]; omega)) only [hz', h1', h2', hr, hrl, h3', hr2, go_sem]; rfl) (h := ?_) | refine RunT.notA (h := ?_))); refine RunT.nil ?_; try simp only [InBlock, Then]) | ((first | refine Tri.seq (Tri.drwT (mixed) (cfgKP1_ok.pins _) ?_) | refine Tri.drnT (mixed) (cfgKP1_ok.pins _) ?_); (repeat (first | refine RunD.oneA (hp := by simp (maxSteps := 2000000) (disch := first | decide | omega | (simp only [List.length_append, List.length_cons, List.length_nil, List.length_take, List.length_drop]; omega)) only [hor, hrl, htk, Nat.sub_zero, go_sem]; rfl) (h := ?_) | refine RunD.notA (h := ?_))); refine RunD.nil ?_; refine ⟨by kernel_rfl, ?_⟩; try simp only [InBlock, Then]) | refine Tri.cF (by first | (simp only [go_sem]; done) | fail) ?_ | refine Tri.cT (by first | (simp only [go_sem]; done) | fail) ?_ | (refine Tri.skip ?_; try simp only [Then]) | (refine Tri.exit ?_; simp only [Then, InBlock, if_true, if_false, ↓reduceIte, Nat.reduceEqDiff]) | refine Tri.seq (Tri.block ?_) | refine Tri.block ?_ | refine Tri.seq ?_ | (refine Tri.ret ?_; refine Con.fin (.inl rfl) (by simp only [Tryd.f72, cfgKP1, resA, resA1, go_sem]; rfl) (by simp only [Obs, and_true, true_and]) (by first | (simp only [kSpt, Con.of, Con.ofO, resV, hz', h1', h2', hor, hr, hrl, h3', htk, hr2, Nat.sub_zero, go_sem]; done) | fail) trivial rfl rfl))
            refine ⟨(k', List.drop (spN d) (List.drop 3 d), acc ++ [((((d.getD 0 0).toNat : Int), List.take (spN d) (List.drop 3 d), ()) : flK.T)]), ⟨(by show (List.drop (spN d) (List.drop 3 d)).length ≤ k'; rw [List.length_drop, hrl]; omega), (by show k' ≤ d0.length; omega), (by show (acc ++ [((((d.getD 0 0).toNat : Int), List.take (spN d) (List.drop 3 d), ()) : flK.T)]).length + k' ≤ d0.length; rw [List.length_append]; show acc.length + 1 + k' ≤ d0.length; omega), hsp⟩, (by show k' < k' + 1; omega), Wk.of ?_ ?_ rfl rfl⟩
            · simp only [lessTs, List.reduceReplicate, List.cons_append, List.nil_append, List.length_append, List.length_cons, List.length_nil] <;> ((repeat' apply And.intro) <;> first | with_reducible rfl | exact True.intro | exact congrArg (fun z : Int => some (AV.int IntKind.i64 z)) (show (_ : Int) = _ by omega) | exact congrArg (fun z : Nat => some (AV.tsl _ _ _ _ _ z)) (show (_ : Nat) = _ by omega) | exact arrEq (by omega) (by with_reducible rfl))
            · exact ⟨arrEq (by show acc.length + 1 = (acc ++ [((((d.getD 0 0).toNat : Int), List.take (spN d) (List.drop 3 d), ()) : flK.T)]).length; rw [List.length_append]; rfl) rfl, trivial⟩
theorem spt_sum : FSumOK Tryd.prog cfgKP1.G 72 kSpt.sum := Con.sumOK cfgKP1_ok kSpt Tryd.func72 rfl rfl (Con.of_inv _ _ _) spt_body
end
end Go.Proofs.YtjdeaphfamenaaaDoor

namespace Go.Proofs.YtjdeaphfamenaaaDoor
open Go.Vc Go.Proofs
set_option maxRecDepth 10000
set_option maxHeartbeats 4000000
def tgI (f : Int) : Nat → List Int
  | 0 => []
  | i + 1 => tgI f i ++ [f + i]
theorem tgI_len (f : Int) : ∀ i, (tgI f i).length = i
  | 0 => rfl
  | i + 1 => by rw [tgI, List.length_append, tgI_len f i]; rfl
def kTg : Con := Con.of [.v (.int .i64), .v (.int .i64)] (fun x => [0 ≤ toI .i64 x.1, toI .i64 x.1 ≤ 1000, 0 ≤ toI .i64 x.2.1, toI .i64 x.2.1 ≤ 1000]) (fun x => ⟨.pure (.slice true (.int .i64)) (tgI (toI .i64 x.1) (toI .i64 x.2.1).toNat), []⟩)
def cfgTC1 : Cfg2 := { ty := tyTabK, fn := fun  | _ => none, G := gNone, pin := [], eq := fun _ => none }
theorem cfgTC1_ok : CfgOK Tryd.prog cfgTC1 := ⟨tyTabK_ok, (fun f s h => by cases h), (fun t d h => by cases h)⟩
section
attribute [local go_sem] Tryd.f93 kTg cfgTC1 tyTabK tyTab
theorem tgs_body (p : kTg.Par) (hp : ∀ q ∈ kTg.pre p, q) : BodyOK Tryd.prog cfgTC1 Tryd.f93 (Tryd.f93.body.get rfl) kTg p := by
  obtain ⟨(f : Int), (c : Int), u⟩ := p
  obtain ⟨h0, h1, h2, h3, _⟩ := Obs.of hp
  replace h0 : 0 ≤ f := h0
  replace h1 : f ≤ 1000 := h1
  replace h2 : 0 ≤ c := h2
  replace h3 : c ≤ 1000 := h3
  obtain ⟨n, rfl⟩ : ∃ n : Nat, c = (n : Int) := ⟨c.toNat, by omega⟩
  obtain ⟨g, rfl⟩ : ∃ g : Nat, f = (g : Int) := ⟨f.toNat, by omega⟩
  refine ⟨?_, Nat.zero_le _, rfl, rfl⟩
  show Tri _ _ _ (Code.seq _ (Code.seq (Code.seq _ (Code.block _ (Code.loop (Code.seq _ (Code.seq (Code.cond _ _ _) (Code.seq (Code.block _ (Code.seq _ _)) _)))))) (Code.seq _ _))) _
  refine Tri.at (by first | (simp only [go_sem, Con.start, go_sem]; rfl) | rfl) ?_
  repeat (first | ((first | refine Tri.seq (Tri.regT (cfgTC1_ok.pins _) ?_) | refine Tri.rgnT (cfgTC1_ok.pins _) ?_); (repeat (first | refine RunT.oneA (hp := by simp (maxSteps := 2000000) (disch := first | decide | omega | (simp only [List.length_append, List.length_cons, List.length_nil, List.length_take, List.length_drop]; omega)) only [go_sem, go_sem]; rfl) (h := ?_) | refine RunT.notA (h := ?_))); refine RunT.nil ?_; try simp only [InBlock, Then]) | refine Tri.cF (by first | (simp only [go_sem, go_sem]; done) | fail) ?_ | refine Tri.cT (by first | (simp only [go_sem, go_sem]; done) | fail) ?_ | (refine Tri.skip ?_; try simp only [InBlock, Then]) | (refine Tri.exit ?_; simp only [Then, InBlock, if_true, if_false, ↓reduceIte, Nat.reduceEqDiff]) | refine Tri.seq (Tri.block ?_) | refine Tri.block ?_ | refine Tri.seq ?_ | (refine Tri.ret ?_; refine Con.fin (.inl rfl) (by simp only [Tryd.f93, cfgTC1, resA, resA1, go_sem]; rfl) (by simp only [Obs, and_true, true_and]) (by first | (simp only [kTg, Con.of, Con.ofO, resV, go_sem, go_sem]; done) | fail) trivial rfl rfl))
  refine Tri.phT 4 (.int .i64) 1 rfl rfl ?_
  refine Tri.loop (fun i : Nat => (⟨[some (.int .i64 (g : Int)), some (.int .i64 (n : Int)), none, none, some (.tsl 0 [] 0 0 1 (tgI g i).length), none, some (.int .i64 (n : Int)), some (.int .i64 (i : Int))] ++ List.replicate 10 none, [.live (.pure (.arr (tgI g i).length (.int .i64)) (tgI g i))]⟩ : AS)) (fun i => i ≤ n) (fun i => n - i) 0 ?_ (Nat.zero_le _) ?_
  · refine Wk.of ?_ ?_ rfl rfl
    · simp only [lessTs, List.reduceReplicate, List.cons_append, List.nil_append, tgI, List.length_nil] <;> ((repeat' apply And.intro) <;> first | with_reducible rfl | exact True.intro | exact congrArg (fun z : Int => some (AV.int IntKind.i64 z)) (show (_ : Int) = _ by omega) | exact congrArg (fun z : Nat => some (AV.tsl _ _ _ _ _ z)) (show (_ : Nat) = _ by omega) | exact arrEq (by omega) (by with_reducible rfl))
    · simp only [lessHs, tgI, List.length_nil] <;> ((repeat' apply And.intro) <;> first | with_reducible rfl | exact True.intro | exact congrArg (fun z : Int => some (AV.int IntKind.i64 z)) (show (_ : Int) = _ by omega) | exact congrArg (fun z : Nat => some (AV.tsl _ _ _ _ _ z)) (show (_ : Nat) = _ by omega) | exact arrEq (by omega) (by with_reducible rfl))
  · intro i hi
    have hl := tgI_len g i
    by_cases hc : i < n
    · have hc' : decide ((i : Int) < (n : Int)) = true := decide_eq_true (by omega)
      have hn : tgI (g : Int) (i + 1) = tgI g i ++ [((g + i : Nat) : Int)] := by rw [tgI]; rfl
      have htk : ∀ l : List Int, List.take l.length l = l := fun l => List.take_length
      generalize hJ : tgI (g : Int) i = J at *
      refine Tri.at (by first | (simp only [hc', htk, Con.start, go_sem]; rfl) | rfl) ?_
      repeat (first | ((first | refine Tri.seq (Tri.regT (cfgTC1_ok.pins _) ?_) | refine Tri.rgnT (cfgTC1_ok.pins _) ?_); (repeat (first | refine RunT.oneA (hp := by simp (maxSteps := 2000000) (disch := first | decide | omega | (simp only [List.length_append, List.length_cons, List.length_nil, List.length_take, List.length_drop]; omega)) only [hc', htk, go_sem]; rfl) (h := ?_) | refine RunT.notA (h := ?_))); refine RunT.nil ?_; try simp only [InBlock, Then]) | refine Tri.cF (by first | (simp only [hc', htk, go_sem]; done) | fail) ?_ | refine Tri.cT (by first | (simp only [hc', htk, go_sem]; done) | fail) ?_ | (refine Tri.skip ?_; try simp only [InBlock, Then]) | (refine Tri.exit ?_; simp only [Then, InBlock, if_true, if_false, ↓reduceIte, Nat.reduceEqDiff]) | refine Tri.seq (Tri.block ?_) | refine Tri.block ?_ | refine Tri.seq ?_ | (refine Tri.ret ?_; refine Con.fin (.inl rfl) (by simp only [Tryd.f93, cfgTC1, resA, resA1, go_sem]; rfl) (by simp only [Obs, and_true, true_and]) (by first | (simp only [kTg, Con.of, Con.ofO, resV, hc', htk, go_sem]; done) | fail) trivial rfl rfl))
      refine ⟨i + 1, (by omega), (by omega), Wk.of ?_ ?_ rfl rfl⟩
      · simp only [lessTs, List.reduceReplicate, List.cons_append, List.nil_append, hn, List.length_append, List.length_cons, List.length_nil] <;> ((repeat' apply And.intro) <;> first | with_reducible rfl | exact True.intro | exact congrArg (fun z : Int => some (AV.int IntKind.i64 z)) (show (_ : Int) = _ by omega) | exact congrArg (fun z : Nat => some (AV.tsl _ _ _ _ _ z)) (show (_ : Nat) = _ by omega) | exact arrEq (by omega) (by with_reducible rfl))
      · rw [hn]
        exact ⟨arrEq (by rw [List.length_append]; rfl) rfl, trivial⟩
    · have hc' : decide ((i : Int) < (n : Int)) = false := decide_eq_false (by omega)
      have hin : i = n := by omega
      subst hin
      have htk : ∀ l : List Int, List.take l.length l = l := fun l => List.take_length
      refine Tri.at (by first | (simp only [hc', Con.start, go_sem]; rfl) | rfl) ?_
      repeat (first | ((first | refine Tri.seq (Tri.regT (cfgTC1_ok.pins _) ?_) | refine Tri.rgnT (cfgTC1_ok.pins _) ?_); (repeat (first | refine RunT.oneA (hp := by simp (maxSteps := 2000000) (disch := first | decide | omega | (simp only [List.length_append, List.length_cons, List.length_nil, List.length_take, List.length_drop]; omega)) only [hc', go_sem]; rfl) (h := ?_) | refine RunT.notA (h := ?_))); refine RunT.nil ?_; try simp only [InBlock, Then]) | refine Tri.cF (by first | (simp only [hc', go_sem]; done) | fail) ?_ | refine Tri.cT (by first | (simp only [hc', go_sem]; done) | fail) ?_ | (refine Tri.skip ?_; try simp only [InBlock, Then]) | (refine Tri.exit ?_; simp only [Then, InBlock, if_true, if_false, ↓reduceIte, Nat.reduceEqDiff]) | refine Tri.seq (Tri.block ?_) | refine Tri.block ?_ | refine Tri.seq ?_ | (refine Tri.ret ?_; refine Con.fin (.inl rfl) (by simp only [Tryd.f93, cfgTC1, resA, resA1, go_sem]; rfl) (by simp only [Obs, and_true, true_and]) (by first | (simp only [kTg, Con.of, Con.ofO, resV, hc', go_sem]; done) | fail) trivial rfl rfl))
      refine Tri.rel true 0 rfl ?_ rfl rfl ?_
      · simp only [AS.blk, go_sem]
        repeat' constructor
      refine Tri.at (by first | (simp only [htk, Con.start, go_sem]; rfl) | rfl) ?_
      refine Tri.ret ?_
      refine Con.fin (.inl rfl) (by simp only [Tryd.f93, cfgTC1, resA, resA1, go_sem]; rfl) (by simp only [Obs, and_true, true_and]) ?_ ?_ rfl rfl
      · rfl
      · exact True.intro
theorem tgs_sum : FSumOK Tryd.prog cfgTC1.G 93 kTg.sum := Con.sumOK cfgTC1_ok kTg Tryd.func93 rfl rfl (Con.of_inv _ _ _) tgs_body
end
def teS (f : flK.T) (t : Int) : Bool := decide ((f.1 : Int) = t)
def kTe : Con := Con.of [.v flK, .v (.int .i64)] (fun _ => []) (fun x => ⟨.bool (teS x.1 (toI .i64 x.2.1)), []⟩)
def cfgTC2 : Cfg2 := { ty := tyTabM, fn := fun  | _ => none, G := gNone, pin := [], eq := fun _ => none }
theorem cfgTC2_ok : CfgOK Tryd.prog cfgTC2 := ⟨tyTabM_ok, (fun f s h => by cases h), (fun t d h => by cases h)⟩
section
attribute [local go_sem] Tryd.f107 kTe cfgTC2 tyTabM tyTabK tyTab
theorem tge_body (p : kTe.Par) (hp : ∀ q ∈ kTe.pre p, q) : BodyOK Tryd.prog cfgTC2 Tryd.f107 (Tryd.f107.body.get rfl) kTe p := by
  obtain ⟨⟨(t : Int), (v : List UInt8), u1⟩, (g : Int), u⟩ := p
  refine ⟨?_, Nat.zero_le _, rfl, rfl⟩
  show Tri _ _ _ (Code.seq _ (Code.seq _ _)) _
  refine Tri.at (by first | (simp only [go_sem, Con.start, go_sem]; rfl) | rfl) ?_
  repeat (first | ((first | refine Tri.seq (Tri.regT (cfgTC2_ok.pins _) ?_) | refine Tri.rgnT (cfgTC2_ok.pins _) ?_); (repeat (first | refine RunT.oneA (hp := by simp (maxSteps := 2000000) (disch := first | decide | omega | (simp only [List.length_append, List.length_cons, List.length_nil, List.length_take, List.length_drop]; omega)) only [go_sem, go_sem]; rfl) (h := ?_) | refine RunT.notA (h := ?_))); refine RunT.nil ?_; try simp only [InBlock, Then]) | refine Tri.cF (by first | (simp only [go_sem, go_sem]; done) | fail) ?_ | refine Tri.cT (by first | (simp only [go_sem, go_sem]; done) | fail) ?_ | (refine Tri.skip ?_; try simp only [InBlock, Then]) | (refine Tri.exit ?_; simp only [Then, InBlock, if_true, if_false, ↓reduceIte, Nat.reduceEqDiff]) | refine Tri.seq (Tri.block ?_) | refine Tri.block ?_ | refine Tri.seq ?_ | (refine Tri.ret ?_; refine Con.fin (.inl rfl) (by simp only [Tryd.f107, cfgTC2, resA, resA1, go_sem]; rfl) (by simp only [Obs, and_true, true_and]) (by first | (simp only [kTe, Con.of, Con.ofO, resV, go_sem, go_sem]; done) | fail) trivial rfl rfl))
  refine Tri.ret ?_
  refine Con.fin (.inl rfl) (by simp only [Tryd.f107, cfgTC2, resA, resA1, go_sem]; rfl) (by simp only [Obs, and_true, true_and]) ?_ ?_ rfl rfl
  · rfl
  · exact True.intro
theorem tge_sum : FSumOK Tryd.prog cfgTC2.G 107 kTe.sum := Con.sumOK cfgTC2_ok kTe Tryd.func107 rfl rfl (Con.of_inv _ _ _) tge_body
end
def eqF : List flK.T → List Int → Bool
  | [], [] => true
  | f :: r, t :: s => teS f t && eqF r s
  | _, _ => false
theorem eqF_take (fs : List flK.T) (ts : List Int) (hl : fs.length = ts.length) (i : Nat) (h : i < fs.length) : eqF (fs.take (i + 1)) (ts.take (i + 1)) = (eqF (fs.take i) (ts.take i) && teS (fs.getD i (0, [], ())) (ts.getD i 0)) := by
  induction i generalizing fs ts with
  | zero =>
    cases fs with
    | nil => cases h
    | cons f r =>
      cases ts with
      | nil => cases hl
      | cons t s => simp [eqF]
  | succ i ih =>
    cases fs with
    | nil => cases h
    | cons f r =>
      cases ts with
      | nil => cases hl
      | cons t s =>
        have := ih r s (by simpa using hl) (by simpa using h)
        simp only [List.take_succ_cons, eqF, List.getD_cons_succ]
        rw [this, Bool.and_assoc]
theorem eqF_false {fs : List flK.T} {ts : List Int} (hl : fs.length = ts.length) : ∀ {i : Nat}, eqF (fs.take i) (ts.take i) = false → eqF fs ts = false := by
  intro i h
  induction i generalizing fs ts with
  | zero => cases h
  | succ i ih =>
    cases fs with
    | nil =>
      cases ts with
      | nil => cases h
      | cons t s => rfl
    | cons f r =>
      cases ts with
      | nil => rfl
      | cons t s =>
        simp only [List.take_succ_cons, eqF] at h ⊢
        rw [Bool.and_eq_false_iff] at h ⊢
        rcases h with h | h
        · exact .inl h
        · exact .inr (ih (by simpa using hl) h)
theorem eqF_len {fs : List flK.T} {ts : List Int} (hl : fs.length ≠ ts.length) : eqF fs ts = false := by
  induction fs generalizing ts with
  | nil =>
    cases ts with
    | nil => exact absurd rfl hl
    | cons t s => rfl
  | cons f r ih =>
    cases ts with
    | nil => rfl
    | cons t s =>
      rw [eqF, ih (by simpa using hl), Bool.and_false]
def kEqF : Con := Con.ofO [.a (.v (.slice false flK)), .a (.v (.slice false (.int .i64))), .fv 107] [] (fun x => [List.length (α := flK.T) x.1 ≤ 9223372036854775807, List.length (α := Int) x.2.1 ≤ 9223372036854775807]) (fun x => ⟨.bool (eqF x.1 x.2.1), []⟩)
def cfgTC3 : Cfg2 := { ty := tyTabM, fn := fun | 107 => some kTe.sum | _ => none, G := gNone, pin := [], eq := fun _ => none }
theorem cfgTC3_ok : CfgOK Tryd.prog cfgTC3 := ⟨tyTabM_ok, (fun f s h => by
  simp only [cfgTC3] at h
  split at h
  · injection h with h; subst h; exact .inl tge_sum
  · cases h), (fun t d h => by cases h)⟩
section
attribute [local go_sem] Tryd.f106 kEqF kTe cfgTC3 tyTabM tyTabK tyTab
theorem eqf_body (p : kEqF.Par) (hp : ∀ q ∈ kEqF.pre p, q) : BodyOK Tryd.prog cfgTC3 Tryd.f106 (Tryd.f106.body.get rfl) kEqF p := by
  obtain ⟨(fs : List flK.T), (ts : List Int), (u0 : Unit), u⟩ := p
  obtain ⟨h0, h1, _⟩ := Obs.of hp
  replace h0 : fs.length ≤ 9223372036854775807 := h0
  replace h1 : ts.length ≤ 9223372036854775807 := h1
  refine ⟨?_, Nat.zero_le _, rfl, rfl⟩
  show Tri _ _ _ (Code.seq _ (Code.seq (Code.seq _ (Code.cond _ (Code.seq _ _) _)) (Code.seq (Code.seq _ (Code.block _ (Code.loop (Code.seq _ (Code.seq (Code.cond _ _ _) (Code.seq (Code.block _ (Code.seq _ (Code.seq _ (Code.seq _ (Code.cond _ (Code.seq _ _) _))))) _)))))) (Code.seq _ _)))) _
  by_cases hl : fs.length = ts.length
  · have hl' : decide (((fs.length : Nat) : Int) = ((ts.length : Nat) : Int)) = true := decide_eq_true (by omega)
    refine Tri.at (by first | (simp only [hl', Con.start, go_sem]; rfl) | rfl) ?_
    repeat (first | ((first | refine Tri.seq (Tri.regT (cfgTC3_ok.pins _) ?_) | refine Tri.rgnT (cfgTC3_ok.pins _) ?_); (repeat (first | refine RunT.oneA (hp := by simp (maxSteps := 2000000) (disch := first | decide | omega | (simp only [List.length_append, List.length_cons, List.length_nil, List.length_take, List.length_drop]; omega)) only [hl', go_sem]; rfl) (h := ?_) | refine RunT.notA (h := ?_))); refine RunT.nil ?_; try simp only [InBlock, Then]) | refine Tri.cF (by first | (simp only [hl', go_sem]; done) | fail) ?_ | refine Tri.cT (by first | (simp only [hl', go_sem]; done) | fail) ?_ | (refine Tri.skip ?_; try simp only [InBlock, Then]) | (refine Tri.exit ?_; simp only [Then, InBlock, if_true, if_false, ↓reduceIte, Nat.reduceEqDiff]) | refine Tri.seq (Tri.block ?_) | refine Tri.block ?_ | refine Tri.seq ?_ | (refine Tri.ret ?_; refine Con.fin (.inl rfl) (by simp only [Tryd.f106, cfgTC3, resA, resA1, go_sem]; rfl) (by simp only [Obs, and_true, true_and]) (by first | (simp only [kEqF, Con.of, Con.ofO, resV, hl', go_sem]; done) | fail) trivial rfl rfl))
    refine Tri.loop (fun i : Nat => (⟨[some (.pure (.slice false flK) fs), some (.pure (.slice false (.int .i64)) ts), some (.func (.func 107) [] []), none, none, none, some (.bool false), none, none, none, none, none, none, none, none, some (.pure (.slice false flK) fs), some (.int .i64 (fs.length : Int)), some (.int .i64 (i : Int))] ++ List.replicate 14 none, []⟩ : AS)) (fun i => i ≤ fs.length ∧ eqF (fs.take i) (ts.take i) = true) (fun i => fs.length - i) 0 ?_ ⟨Nat.zero_le _, rfl⟩ ?_
    · refine Wk.of ?_ ?_ rfl rfl
      · simp only [lessTs, List.reduceReplicate, List.cons_append, List.nil_append] <;> ((repeat' apply And.intro) <;> first | with_reducible rfl | exact True.intro | exact congrArg (fun z : Int => some (AV.int IntKind.i64 z)) (show (_ : Int) = _ by omega) | exact congrArg (fun z : Nat => some (AV.tsl _ _ _ _ _ z)) (show (_ : Nat) = _ by omega) | exact arrEq (by omega) (by with_reducible rfl))
      · simp only [lessHs] <;> ((repeat' apply And.intro) <;> first | with_reducible rfl | exact True.intro | exact congrArg (fun z : Int => some (AV.int IntKind.i64 z)) (show (_ : Int) = _ by omega) | exact congrArg (fun z : Nat => some (AV.tsl _ _ _ _ _ z)) (show (_ : Nat) = _ by omega) | exact arrEq (by omega) (by with_reducible rfl))
    · intro i ⟨hi, ha⟩
      by_cases hc : i < fs.length
      · have hc' : decide ((i : Int) < (fs.length : Int)) = true := decide_eq_true (by omega)
        have hst := eqF_take fs ts hl i hc
        rw [ha, Bool.true_and] at hst
        have hfl := eqF_false (fs := fs) (ts := ts) hl (i := i + 1)
        generalize hfd : fs.getD i (0, [], ()) = f at *
        obtain ⟨(tg : Int), (vl : List UInt8), u1⟩ := f
        generalize htd : ts.getD i 0 = t at *
        cases hd : teS (tg, vl, u1) t with
        | true =>
          refine Tri.at (by first | (simp only [hc', hfd, htd, hd, Con.start, go_sem]; rfl) | rfl) ?_
          repeat (first | ((first | refine Tri.seq (Tri.regT (cfgTC3_ok.pins _) ?_) | refine Tri.rgnT (cfgTC3_ok.pins _) ?_); (repeat (first | refine RunT.oneA (hp := by simp (maxSteps := 2000000) (disch := first | decide | omega | (simp only [List.length_append, List.length_cons, List.length_nil, List.length_take, List.length_drop]; omega)) only [hc', hfd, htd, hd, go_sem]; rfl) (h := ?_) | refine RunT.notA (h := ?_))); refine RunT.nil ?_; try simp only [InBlock, Then]) | refine Tri.cF (by first | (simp only [hc', hfd, htd, hd, go_sem]; done) | fail) ?_ | refine Tri.cT (by first | (simp only [hc', hfd, htd, hd, go_sem]; done) | fail) ?_ | (refine Tri.skip ?_; try simp only [InBlock, Then]) | (refine Tri.exit ?_; simp only [Then, InBlock, if_true, if_false, ↓reduceIte, Nat.reduceEqDiff]) | refine Tri.seq (Tri.block ?_) | refine Tri.block ?_ | refine Tri.seq ?_ | (refine Tri.ret ?_; refine Con.fin (.inl rfl) (by simp only [Tryd.f106, cfgTC3, resA, resA1, go_sem]; rfl) (by simp only [Obs, and_true, true_and]) (by first | (simp only [kEqF, Con.of, Con.ofO, resV, hc', hfd, htd, hd, go_sem]; done) | fail) trivial rfl rfl))
          refine ⟨i + 1, ⟨(by omega), (by rw [hst, hd])⟩, (by omega), Wk.of ?_ ?_ rfl rfl⟩
          · simp only [lessTs, List.reduceReplicate, List.cons_append, List.nil_append] <;> ((repeat' apply And.intro) <;> first | with_reducible rfl | exact True.intro | exact congrArg (fun z : Int => some (AV.int IntKind.i64 z)) (show (_ : Int) = _ by omega) | exact congrArg (fun z : Nat => some (AV.tsl _ _ _ _ _ z)) (show (_ : Nat) = _ by omega) | exact arrEq (by omega) (by with_reducible rfl))
          · trivial
        | false =>
          have e : eqF fs ts = false := hfl (by rw [hst, hd])
          refine Tri.at (by first | (simp only [hc', hfd, htd, hd, e, Con.start, go_sem]; rfl) | rfl) ?_
          repeat (first | ((first | refine Tri.seq (Tri.regT (cfgTC3_ok.pins _) ?_) | refine Tri.rgnT (cfgTC3_ok.pins _) ?_); (repeat (first | refine RunT.oneA (hp := by simp (maxSteps := 2000000) (disch := first | decide | omega | (simp only [List.length_append, List.length_cons, List.length_nil, List.length_take, List.length_drop]; omega)) only [hc', hfd, htd, hd, e, go_sem]; rfl) (h := ?_) | refine RunT.notA (h := ?_))); refine RunT.nil ?_; try simp only [InBlock, Then]) | refine Tri.cF (by first | (simp only [hc', hfd, htd, hd, e, go_sem]; done) | fail) ?_ | refine Tri.cT (by first | (simp only [hc', hfd, htd, hd, e, go_sem]; done) | fail) ?_ | (refine Tri.skip ?_; try simp only [InBlock, Then]) | (refine Tri.exit ?_; simp only [Then, InBlock, if_true, if_false, ↓reduceIte, Nat.reduceEqDiff]) | refine Tri.seq (Tri.block ?_) | refine Tri.block ?_ | refine Tri.seq ?_ | (refine Tri.ret ?_; refine Con.fin (.inl rfl) (by simp only [Tryd.f106, cfgTC3, resA, resA1, go_sem]; rfl) (by simp only [Obs, and_true, true_and]) (by first | (simp only [kEqF, Con.of, Con.ofO, resV, hc', hfd, htd, hd, e, go_sem]; done) | fail) trivial rfl rfl))
      · have hc' : decide ((i : Int) < (fs.length : Int)) = false := decide_eq_false (by omega)
        rw [List.take_of_length_le (by omega), List.take_of_length_le (by omega)] at ha
        refine Tri.at (by first | (simp only [hc', ha, Con.start, go_sem]; rfl) | rfl) ?_
        repeat (first | ((first | refine Tri.seq (Tri.regT (cfgTC3_ok.pins _) ?_) | refine Tri.rgnT (cfgTC3_ok.pins _) ?_); (repeat (first | refine RunT.oneA (hp := by simp (maxSteps := 2000000) (disch := first | decide | omega | (simp only [List.length_append, List.length_cons, List.length_nil, List.length_take, List.length_drop]; omega)) only [hc', ha, go_sem]; rfl) (h := ?_) | refine RunT.notA (h := ?_))); refine RunT.nil ?_; try simp only [InBlock, Then]) | refine Tri.cF (by first | (simp only [hc', ha, go_sem]; done) | fail) ?_ | refine Tri.cT (by first | (simp only [hc', ha, go_sem]; done) | fail) ?_ | (refine Tri.skip ?_; try simp only [InBlock, Then]) | (refine Tri.exit ?_; simp only [Then, InBlock, if_true, if_false, ↓reduceIte, Nat.reduceEqDiff]) | refine Tri.seq (Tri.block ?_) | refine Tri.block ?_ | refine Tri.seq ?_ | (refine Tri.ret ?_; refine Con.fin (.inl rfl) (by simp only [Tryd.f106, cfgTC3, resA, resA1, go_sem]; rfl) (by simp only [Obs, and_true, true_and]) (by first | (simp only [kEqF, Con.of, Con.ofO, resV, hc', ha, go_sem]; done) | fail) trivial rfl rfl))
  · have hl' : decide (((fs.length : Nat) : Int) = ((ts.length : Nat) : Int)) = false := decide_eq_false (by omega)
    have e := eqF_len hl
    refine Tri.at (by first | (simp only [hl', e, Con.start, go_sem]; rfl) | rfl) ?_
    repeat (first | ((first | refine Tri.seq (Tri.regT (cfgTC3_ok.pins _) ?_) | refine Tri.rgnT (cfgTC3_ok.pins _) ?_); (repeat (first | refine RunT.oneA (hp := by simp (maxSteps := 2000000) (disch := first | decide | omega | (simp only [List.length_append, List.length_cons, List.length_nil, List.length_take, List.length_drop]; omega)) only [hl', e, go_sem]; rfl) (h := ?_) | refine RunT.notA (h := ?_))); refine RunT.nil ?_; try simp only [InBlock, Then]) | refine Tri.cF (by first | (simp only [hl', e, go_sem]; done) | fail) ?_ | refine Tri.cT (by first | (simp only [hl', e, go_sem]; done) | fail) ?_ | (refine Tri.skip ?_; try simp only [InBlock, Then]) | (refine Tri.exit ?_; simp only [Then, InBlock, if_true, if_false, ↓reduceIte, Nat.reduceEqDiff]) | refine Tri.seq (Tri.block ?_) | refine Tri.block ?_ | refine Tri.seq ?_ | (refine Tri.ret ?_; refine Con.fin (.inl rfl) (by simp only [Tryd.f106, cfgTC3, resA, resA1, go_sem]; rfl) (by simp only [Obs, and_true, true_and]) (by first | (simp only [kEqF, Con.of, Con.ofO, resV, hl', e, go_sem]; done) | fail) trivial rfl rfl))
theorem eqf_sum : FSumOK Tryd.prog cfgTC3.G 106 kEqF.sum := Con.sumOK cfgTC3_ok kEqF Tryd.func106 rfl rfl (Con.ofO_inv _ _ _ _) eqf_body
end
def tyTabV : TypeId → Option TyI := fun t => if t = 47 then some (.kd1 (.slice 5) (.slice true (.int .u8)) 24) else if t = 100 then some (.slice1 47) else tyTabM t
theorem tyTabV_ok : TysOK Tryd.prog tyTabV := by
  intro t i h
  unfold tyTabV at h
  split at h
  · rename_i e
    injection h with h
    subst h e
    exact TyOK.kd1 (td := .slice 5) Tryd.underlying47 (by kernel_rfl)
  · split at h
    · rename_i e
      injection h with h
      subst h e
      exact TyOK.slice1 Tryd.underlying100 (by kernel_rfl)
    · exact tyTabM_ok t i h
def vlL (fs : List flK.T) : List (List UInt8) := fs.map fun f => f.2.1
def vlV (d : List UInt8) (ts : List Int) : AV := match spF d.length d [] with
  | (none, e) => .tuple [.nilsl, .int .i64 e]
  | (some fs, _) => if eqF fs ts = true then .tuple [.pure (.slice true (.slice true (.int .u8))) (vlL fs), .int .i64 (0 : Int)] else .tuple [.nilsl, .int .i64 (21 : Int)]
def kVls : Con := Con.of [.v (.slice false (.int .u8)), .v (.slice false (.int .i64))] (fun x => [List.length (α := UInt8) x.1 ≤ 1000000, List.length (α := Int) x.2.1 ≤ 1000]) (fun x => ⟨vlV x.1 x.2.1, []⟩)
theorem spF_err : ∀ (k : Nat) (d : List UInt8) (acc : List flK.T) (e : Int), spF k d acc = (none, e) → e = 21 ∨ e = 20
  | 0, d, acc, e, h => by simp [spF] at h
  | k + 1, d, acc, e, h => by
    rw [spF] at h
    split at h
    · simp at h
    · split at h
      · injection h with _ h; exact .inl h.symm
      · split at h
        · injection h with _ h; exact .inr h.symm
        · split at h
          · injection h with _ h; exact .inr h.symm
          · exact spF_err k _ _ e h
theorem spF_many : ∀ (k : Nat) (d : List UInt8) (acc fs : List flK.T) (e : Int), spF k d acc = (some fs, e) → fs.length ≤ acc.length + k
  | 0, d, acc, fs, e, h => by
    simp only [spF, Prod.mk.injEq, Option.some.injEq] at h
    rw [← h.1]; exact Nat.le_refl _
  | k + 1, d, acc, fs, e, h => by
    rw [spF] at h
    split at h
    · simp only [Prod.mk.injEq, Option.some.injEq] at h
      rw [← h.1]; exact Nat.le_add_right _ _
    · split at h
      · cases h
      · split at h
        · cases h
        · split at h
          · cases h
          · have := spF_many k _ _ fs e h
            rw [List.length_append] at this
            simp only [List.length_cons, List.length_nil] at this
            omega
theorem vlL_take (fs : List flK.T) (i : Nat) (h : i < fs.length) : vlL (fs.take (i + 1)) = vlL (fs.take i) ++ [(fs.getD i (0, [], ())).2.1] := by
  rw [List.take_add_one, List.getElem?_eq_getElem h, Option.toList_some, vlL, List.map_append, List.getD_eq_getElem?_getD, List.getElem?_eq_getElem h]
  rfl
def cfgTC4 : Cfg2 := { ty := tyTabV, fn := fun | 72 => some kSpt.sum | 106 => some kEqF.sum | _ => none, G := gNone, pin := [], eq := fun _ => none }
theorem cfgTC4_ok : CfgOK Tryd.prog cfgTC4 := ⟨tyTabV_ok, (fun f s h => by
  simp only [cfgTC4] at h
  split at h
  · injection h with h; subst h; exact .inl spt_sum
  · injection h with h; subst h; exact .inl eqf_sum
  · cases h), (fun t d h => by cases h)⟩
section
attribute [local go_sem] Tryd.f92 kVls kSpt kEqF cfgTC4 tyTabV tyTabM tyTabK tyTab
theorem vls_body (p : kVls.Par) (hp : ∀ q ∈ kVls.pre p, q) : BodyOK Tryd.prog cfgTC4 Tryd.f92 (Tryd.f92.body.get rfl) kVls p := by
  obtain ⟨(d : List UInt8), (ts : List Int), u⟩ := p
  obtain ⟨h0, h1, _⟩ := Obs.of hp
  replace h0 : d.length ≤ 1000000 := h0
  replace h1 : ts.length ≤ 1000 := h1
  refine ⟨?_, Nat.zero_le _, (by show (vlV d ts).strict = true; unfold vlV; split; · rfl
                                 · split <;> rfl), rfl⟩
  show Tri _ _ _ (Code.seq _ (Code.seq _ (Code.seq (Code.seq _ (Code.cond _ (Code.seq _ _) _)) (Code.seq (Code.seq _ (Code.cond _ (Code.seq _ _) _)) (Code.seq (Code.seq _ (Code.block _ (Code.loop (Code.seq _ (Code.seq (Code.cond _ _ _) (Code.seq (Code.block _ (Code.seq _ _)) _)))))) (Code.seq _ _)))))) _
  have z0 : decide ((0 : Int) = 0) = true := rfl
  cases hq : spF d.length d [] with
  | mk q e =>
  cases q with
  | none =>
    have e1 : spV d = .tuple [.nilsl, .int .i64 e] := by rw [spV, hq]
    have v1 : vlV d ts = .tuple [.nilsl, .int .i64 e] := by rw [vlV, hq]
    have he : decide (e = 0) = false := by
      rcases spF_err _ _ _ _ hq with h | h <;> (rw [h]; rfl)
    refine Tri.at (by first | (simp only [e1, he, Con.start, go_sem]; rfl) | rfl) ?_
    repeat (first | ((first | refine Tri.seq (Tri.regT (cfgTC4_ok.pins _) ?_) | refine Tri.rgnT (cfgTC4_ok.pins _) ?_); (repeat (first | refine RunT.oneA (hp := by simp (maxSteps := 2000000) (disch := first | decide | omega | (simp only [List.length_append, List.length_cons, List.length_nil, List.length_take, List.length_drop]; omega)) only [e1, he, go_sem]; rfl) (h := ?_) | refine RunT.notA (h := ?_))); refine RunT.nil ?_; try simp only [InBlock, Then]) | refine Tri.cF (by first | (simp only [e1, he, go_sem]; done) | fail) ?_ | refine Tri.cT (by first | (simp only [e1, he, go_sem]; done) | fail) ?_ | (refine Tri.skip ?_; try simp only [InBlock, Then]) | (refine Tri.exit ?_; simp only [Then, InBlock, if_true, if_false, ↓reduceIte, Nat.reduceEqDiff]) | refine Tri.seq (Tri.block ?_) | refine Tri.block ?_ | refine Tri.seq ?_ | (refine Tri.ret ?_; refine Con.fin (.inl rfl) (by simp only [Tryd.f92, cfgTC4, resA, resA1, go_sem]; rfl) (by simp only [Obs, and_true, true_and]) (by first | (simp only [kVls, Con.of, Con.ofO, resV, e1, he, go_sem]; done) | fail) trivial rfl rfl))
    refine Tri.ret ?_
    refine Con.fin (.inl rfl) (by simp only [Tryd.f92, cfgTC4, resA, resA1, go_sem]; rfl) (by simp only [Obs, and_true, true_and]) ?_ ?_ ?_ rfl
    · exact v1.symm
    · exact True.intro
    · show (AS.mk [some (vlV d ts)] []).closed = true
      rw [v1]; rfl
  | some fs =>
    have e1 : spV d = .tuple [.pure (.slice true flK) fs, .int .i64 (0 : Int)] := by rw [spV, hq]
    have hfl : fs.length ≤ 1000000 := by
      have := spF_many _ _ _ _ _ hq
      rw [List.length_nil] at this
      omega
    cases hx : eqF fs ts with
    | false =>
      have v1 : vlV d ts = .tuple [.nilsl, .int .i64 (21 : Int)] := by rw [vlV, hq]; show (if eqF fs ts = true then _ else _) = _; rw [hx]; rfl
      refine Tri.at (by first | (simp only [e1, z0, hx, Con.start, go_sem]; rfl) | rfl) ?_
      repeat (first | ((first | refine Tri.seq (Tri.regT (cfgTC4_ok.pins _) ?_) | refine Tri.rgnT (cfgTC4_ok.pins _) ?_); (repeat (first | refine RunT.oneA (hp := by simp (maxSteps := 2000000) (disch := first | decide | omega | (simp only [List.length_append, List.length_cons, List.length_nil, List.length_take, List.length_drop]; omega)) only [e1, z0, hx, go_sem]; rfl) (h := ?_) | refine RunT.notA (h := ?_))); refine RunT.nil ?_; try simp only [InBlock, Then]) | refine Tri.cF (by first | (simp only [e1, z0, hx, go_sem]; done) | fail) ?_ | refine Tri.cT (by first | (simp only [e1, z0, hx, go_sem]; done) | fail) ?_ | (refine Tri.skip ?_; try simp only [InBlock, Then]) | (refine Tri.exit ?_; simp only [Then, InBlock, if_true, if_false, ↓reduceIte, Nat.reduceEqDiff]) | refine Tri.seq (Tri.block ?_) | refine Tri.block ?_ | refine Tri.seq ?_ | (refine Tri.ret ?_; refine Con.fin (.inl rfl) (by simp only [Tryd.f92, cfgTC4, resA, resA1, go_sem]; rfl) (by simp only [Obs, and_true, true_and]) (by first | (simp only [kVls, Con.of, Con.ofO, resV, e1, z0, hx, go_sem]; done) | fail) trivial rfl rfl))
      refine Tri.ret ?_
      refine Con.fin (.inl rfl) (by simp only [Tryd.f92, cfgTC4, resA, resA1, go_sem]; rfl) (by simp only [Obs, and_true, true_and]) ?_ ?_ ?_ rfl
      · exact v1.symm
      · exact True.intro
      · show (AS.mk [some (vlV d ts)] []).closed = true
        rw [v1]; rfl
    | true =>
      have v1 : vlV d ts = .tuple [.pure (.slice true (.slice true (.int .u8))) (vlL fs), .int .i64 (0 : Int)] := by rw [vlV, hq]; show (if eqF fs ts = true then _ else _) = _; rw [hx]; rfl
      refine Tri.at (by first | (simp only [e1, z0, hx, Con.start, go_sem]; rfl) | rfl) ?_
      repeat (first | ((first | refine Tri.seq (Tri.regT (cfgTC4_ok.pins _) ?_) | refine Tri.rgnT (cfgTC4_ok.pins _) ?_); (repeat (first | refine RunT.oneA (hp := by simp (maxSteps := 2000000) (disch := first | decide | omega | (simp only [List.length_append, List.length_cons, List.length_nil, List.length_take, List.length_drop]; omega)) only [e1, z0, hx, go_sem]; rfl) (h := ?_) | refine RunT.notA (h := ?_))); refine RunT.nil ?_; try simp only [InBlock, Then]) | refine Tri.cF (by first | (simp only [e1, z0, hx, go_sem]; done) | fail) ?_ | refine Tri.cT (by first | (simp only [e1, z0, hx, go_sem]; done) | fail) ?_ | (refine Tri.skip ?_; try simp only [InBlock, Then]) | (refine Tri.exit ?_; simp only [Then, InBlock, if_true, if_false, ↓reduceIte, Nat.reduceEqDiff]) | refine Tri.seq (Tri.block ?_) | refine Tri.block ?_ | refine Tri.seq ?_ | (refine Tri.ret ?_; refine Con.fin (.inl rfl) (by simp only [Tryd.f92, cfgTC4, resA, resA1, go_sem]; rfl) (by simp only [Obs, and_true, true_and]) (by first | (simp only [kVls, Con.of, Con.ofO, resV, e1, z0, hx, go_sem]; done) | fail) trivial rfl rfl))
      refine Tri.phT 4 (.slice true (.int .u8)) 1 rfl rfl ?_
      refine Tri.loop (fun i : Nat => (⟨[none, none, none, none, some (.tsl 0 [] 0 0 1 (vlL (fs.take i)).length), some (.int .i64 (0 : Int)), none, none, none, none, none, none, none, none, none, none, none, none, none, none, none, some (.pure (.slice true flK) fs), some (.int .i64 (fs.length : Int)), some (.int .i64 (i : Int))] ++ List.replicate 10 none, [.live (.pure (.arr (vlL (fs.take i)).length (.slice true (.int .u8))) (vlL (fs.take i)))]⟩ : AS)) (fun i => i ≤ fs.length) (fun i => fs.length - i) 0 ?_ (Nat.zero_le _) ?_
      · have hj0 : vlL (fs.take 0) = [] := rfl
        refine Wk.of ?_ ?_ rfl rfl
        · simp only [lessTs, List.reduceReplicate, List.cons_append, List.nil_append, hj0, List.length_nil] <;> ((repeat' apply And.intro) <;> first | with_reducible rfl | exact True.intro | exact congrArg (fun z : Int => some (AV.int IntKind.i64 z)) (show (_ : Int) = _ by omega) | exact congrArg (fun z : Nat => some (AV.tsl _ _ _ _ _ z)) (show (_ : Nat) = _ by omega) | exact arrEq (by omega) (by with_reducible rfl))
        exact ⟨arrEq (by rw [hj0]; rfl) hj0.symm, trivial⟩
      · intro i hi
        have htk : ∀ l : List (List UInt8), List.take l.length l = l := fun l => List.take_length
        by_cases hc : i < fs.length
        · have hc' : decide ((i : Int) < (fs.length : Int)) = true := decide_eq_true (by omega)
          have hn := vlL_take fs i hc
          have hJl : (vlL (fs.take i)).length = i := by rw [vlL, List.length_map, List.length_take]; omega
          generalize hfd : fs.getD i (0, [], ()) = f at *
          obtain ⟨(tg : Int), (vl : List UInt8), u1⟩ := f
          replace hn : vlL (fs.take (i + 1)) = vlL (fs.take i) ++ [vl] := hn
          generalize hJ : vlL (fs.take i) = J at *
          refine Tri.at (by first | (simp only [hc', hfd, htk, Con.start, go_sem]; rfl) | rfl) ?_
          repeat (first | ((first | refine Tri.seq (Tri.regT (cfgTC4_ok.pins _) ?_) | refine Tri.rgnT (cfgTC4_ok.pins _) ?_); (repeat (first | refine RunT.oneA (hp := by simp (maxSteps := 2000000) (disch := first | decide | omega | (simp only [List.length_append, List.length_cons, List.length_nil, List.length_take, List.length_drop]; omega)) only [hc', hfd, htk, go_sem]; rfl) (h := ?_) | refine RunT.notA (h := ?_))); refine RunT.nil ?_; try simp only [InBlock, Then]) | refine Tri.cF (by first | (simp only [hc', hfd, htk, go_sem]; done) | fail) ?_ | refine Tri.cT (by first | (simp only [hc', hfd, htk, go_sem]; done) | fail) ?_ | (refine Tri.skip ?_; try simp only [InBlock, Then]) | (refine Tri.exit ?_; simp only [Then, InBlock, if_true, if_false, ↓reduceIte, Nat.reduceEqDiff]) | refine Tri.seq (Tri.block ?_) | refine Tri.block ?_ | refine Tri.seq ?_ | (refine Tri.ret ?_; refine Con.fin (.inl rfl) (by simp only [Tryd.f92, cfgTC4, resA, resA1, go_sem]; rfl) (by simp only [Obs, and_true, true_and]) (by first | (simp only [kVls, Con.of, Con.ofO, resV, hc', hfd, htk, go_sem]; done) | fail) trivial rfl rfl))
          refine ⟨i + 1, (by omega), (by omega), Wk.of ?_ ?_ rfl rfl⟩
          · simp only [lessTs, List.reduceReplicate, List.cons_append, List.nil_append, hn, List.length_append, List.length_cons, List.length_nil] <;> ((repeat' apply And.intro) <;> first | with_reducible rfl | exact True.intro | exact congrArg (fun z : Int => some (AV.int IntKind.i64 z)) (show (_ : Int) = _ by omega) | exact congrArg (fun z : Nat => some (AV.tsl _ _ _ _ _ z)) (show (_ : Nat) = _ by omega) | exact arrEq (by omega) (by with_reducible rfl))
          · rw [hn]
            exact ⟨arrEq (by rw [List.length_append]; rfl) rfl, trivial⟩
        · have hc' : decide ((i : Int) < (fs.length : Int)) = false := decide_eq_false (by omega)
          rw [List.take_of_length_le (by omega)]
          generalize hJ : vlL fs = J at *
          refine Tri.at (by first | (simp only [hc', Con.start, go_sem]; rfl) | rfl) ?_
          repeat (first | ((first | refine Tri.seq (Tri.regT (cfgTC4_ok.pins _) ?_) | refine Tri.rgnT (cfgTC4_ok.pins _) ?_); (repeat (first | refine RunT.oneA (hp := by simp (maxSteps := 2000000) (disch := first | decide | omega | (simp only [List.length_append, List.length_cons, List.length_nil, List.length_take, List.length_drop]; omega)) only [hc', go_sem]; rfl) (h := ?_) | refine RunT.notA (h := ?_))); refine RunT.nil ?_; try simp only [InBlock, Then]) | refine Tri.cF (by first | (simp only [hc', go_sem]; done) | fail) ?_ | refine Tri.cT (by first | (simp only [hc', go_sem]; done) | fail) ?_ | (refine Tri.skip ?_; try simp only [InBlock, Then]) | (refine Tri.exit ?_; simp only [Then, InBlock, if_true, if_false, ↓reduceIte, Nat.reduceEqDiff]) | refine Tri.seq (Tri.block ?_) | refine Tri.block ?_ | refine Tri.seq ?_ | (refine Tri.ret ?_; refine Con.fin (.inl rfl) (by simp only [Tryd.f92, cfgTC4, resA, resA1, go_sem]; rfl) (by simp only [Obs, and_true, true_and]) (by first | (simp only [kVls, Con.of, Con.ofO, resV, hc', go_sem]; done) | fail) trivial rfl rfl))
          refine Tri.rel true 0 rfl ?_ rfl rfl ?_
          · simp only [AS.blk, go_sem]
            repeat' constructor
          refine Tri.at (by first | (simp only [htk, Con.start, go_sem]; rfl) | rfl) ?_
          refine Tri.ret ?_
          refine Con.fin (.inl rfl) (by simp only [Tryd.f92, cfgTC4, resA, resA1, go_sem]; rfl) (by simp only [Obs, and_true, true_and]) ?_ ?_ ?_ rfl
          · exact v1.symm
          · exact True.intro
          · show (AS.mk [some (vlV d ts)] []).closed = true
            rw [v1]; rfl
theorem vls_sum : FSumOK Tryd.prog cfgTC4.G 92 kVls.sum := Con.sumOK cfgTC4_ok kVls Tryd.func92 rfl rfl (Con.of_inv _ _ _) vls_body
end
end Go.Proofs.YtjdeaphfamenaaaDoor

namespace Go.Proofs.YtjdeaphfamenaaaDoor
open Go.Vc Go.Proofs
set_option maxRecDepth 10000
set_option maxHeartbeats 4000000
abbrev vsK : Kd := .st (.pair (.slice true (.slice true (.int .u8))) (.pair .bool .unit))
def tyTabR : TypeId → Option TyI := fun t => if t = 102 then some (.kd1 (.st [(100, 0, 1), (4, 1, 1)]) vsK 32) else if t = 94 then some (.ptr1 102) else tyTabV t
theorem tyTabR_ok : TysOK Tryd.prog tyTabR := by
  intro t i h
  unfold tyTabR at h
  split at h
  · rename_i e
    injection h with h
    subst h e
    exact TyOK.kd1 (td := .st [(100, 0, 1), (4, 1, 1)]) ⟨_, Tryd.underlying102, by kernel_rfl, by kernel_rfl⟩ (by kernel_rfl)
  · split at h
    · rename_i e
      injection h with h
      subst h e
      exact TyOK.ptr1 Tryd.underlying94 (by kernel_rfl)
    · exact tyTabV_ok t i h
def vsF (d : List UInt8) (ts : List Int) : vsK.T := match spF d.length d [] with
  | (none, _) => ([], true, ())
  | (some fs, _) => if eqF fs ts = true then (vlL fs, false, ()) else ([], true, ())
def kVsp : Con := Con.of [.v (.slice false (.int .u8)), .v (.int .i64), .v (.int .i64)] (fun x => [List.length (α := UInt8) x.1 ≤ 1000000, 0 ≤ toI .i64 x.2.1, toI .i64 x.2.1 ≤ 1000, 0 ≤ toI .i64 x.2.2.1, toI .i64 x.2.2.1 ≤ 1000]) (fun x => ⟨.ptr 0 [] 0, [.pure vsK (vsF x.1 (tgI (toI .i64 x.2.1) (toI .i64 x.2.2.1).toNat))]⟩)
def cfgTD1 : Cfg2 := { ty := tyTabR, fn := fun | 93 => some kTg.sum | 92 => some kVls.sum | _ => none, G := gNone, pin := [], eq := fun _ => none }
theorem cfgTD1_ok : CfgOK Tryd.prog cfgTD1 := ⟨tyTabR_ok, (fun f s h => by
  simp only [cfgTD1] at h
  split at h
  · injection h with h; subst h; exact .inl tgs_sum
  · injection h with h; subst h; exact .inl vls_sum
  · cases h), (fun t d h => by cases h)⟩
section
attribute [local go_sem] Tryd.f64 kVsp kTg kVls cfgTD1 tyTabR tyTabV tyTabM tyTabK tyTab
theorem vsp_body (p : kVsp.Par) (hp : ∀ q ∈ kVsp.pre p, q) : BodyOK Tryd.prog cfgTD1 Tryd.f64 (Tryd.f64.body.get rfl) kVsp p := by
  obtain ⟨(d : List UInt8), (f : Int), (c : Int), u⟩ := p
  obtain ⟨h0, h1, h2, h3, h4, _⟩ := Obs.of hp
  replace h0 : d.length ≤ 1000000 := h0
  replace h1 : 0 ≤ f := h1
  replace h2 : f ≤ 1000 := h2
  replace h3 : 0 ≤ c := h3
  replace h4 : c ≤ 1000 := h4
  refine ⟨?_, Nat.zero_le _, rfl, rfl⟩
  show Tri _ _ _ (Code.seq _ (Code.seq _ (Code.seq _ _))) _
  have z0 : decide ((0 : Int) = 0) = true := rfl
  have z1 : decide ((21 : Int) = 0) = false := rfl
  have hl := tgI_len f c.toNat
  have hl2 : (tgI f c.toNat).length ≤ 1000 := by omega
  have e0 : vsF d (tgI f c.toNat) = match spF d.length d [] with
    | (none, _) => (([], true, ()) : vsK.T)
    | (some fs, _) => if eqF fs (tgI f c.toNat) = true then (vlL fs, false, ()) else ([], true, ()) := rfl
  cases hq : spF d.length d [] with
  | mk q e =>
  cases q with
  | none =>
    have v1 : vlV d (tgI f c.toNat) = .tuple [.nilsl, .int .i64 e] := by rw [vlV, hq]
    have e1 : vsF d (tgI f c.toNat) = ([], true, ()) := by rw [e0, hq]
    have he : decide (e = 0) = false := by
      rcases spF_err _ _ _ _ hq with h | h <;> (rw [h]; rfl)
    refine Tri.at (by first | (simp only [v1, he, Con.start, go_sem]; rfl) | rfl) ?_
    repeat (first | ((first | refine Tri.seq (Tri.regT (cfgTD1_ok.pins _) ?_) | refine Tri.rgnT (cfgTD1_ok.pins _) ?_); (repeat (first | refine RunT.oneA (hp := by simp (maxSteps := 2000000) (disch := first | decide | omega | (simp only [List.length_append, List.length_cons, List.length_nil, List.length_take, List.length_drop]; omega)) only [v1, he, go_sem]; rfl) (h := ?_) | refine RunT.notA (h := ?_))); refine RunT.nil ?_; try simp only [InBlock, Then]) | refine Tri.cF (by first | (simp only [v1, he, go_sem]; done) | fail) ?_ | refine Tri.cT (by first | (simp only [v1, he, go_sem]; done) | fail) ?_ | (refine Tri.skip ?_; try simp only [InBlock, Then]) | (refine Tri.exit ?_; simp only [Then, InBlock, if_true, if_false, ↓reduceIte, Nat.reduceEqDiff]) | refine Tri.seq (Tri.block ?_) | refine Tri.block ?_ | refine Tri.seq ?_ | (refine Tri.ret ?_; refine Con.fin (.inl rfl) (by simp only [Tryd.f64, cfgTD1, resA, resA1, go_sem]; rfl) (by simp only [Obs, and_true, true_and]) (by first | (simp only [kVsp, Con.of, Con.ofO, resV, v1, he, go_sem]; done) | fail) trivial rfl rfl))
    refine Tri.ret ?_
    refine Con.fin (.inl rfl) (by simp only [Tryd.f64, cfgTD1, resA, resA1, go_sem]; rfl) (by simp only [Obs, and_true, true_and]) ?_ ?_ rfl rfl
    · rfl
    · exact ⟨congrArg (fun z : vsK.T => Slot.live (.pure vsK z)) e1.symm, trivial⟩
  | some fs =>
    cases hx : eqF fs (tgI f c.toNat) with
    | false =>
      have v1 : vlV d (tgI f c.toNat) = .tuple [.nilsl, .int .i64 (21 : Int)] := by rw [vlV, hq]; show (if eqF fs (tgI f c.toNat) = true then _ else _) = _; rw [hx]; rfl
      have e1 : vsF d (tgI f c.toNat) = ([], true, ()) := by rw [e0, hq]; show (if eqF fs (tgI f c.toNat) = true then _ else _) = _; rw [hx]; rfl
      refine Tri.at (by first | (simp only [v1, z1, Con.start, go_sem]; rfl) | rfl) ?_
      repeat (first | ((first | refine Tri.seq (Tri.regT (cfgTD1_ok.pins _) ?_) | refine Tri.rgnT (cfgTD1_ok.pins _) ?_); (repeat (first | refine RunT.oneA (hp := by simp (maxSteps := 2000000) (disch := first | decide | omega | (simp only [List.length_append, List.length_cons, List.length_nil, List.length_take, List.length_drop]; omega)) only [v1, z1, go_sem]; rfl) (h := ?_) | refine RunT.notA (h := ?_))); refine RunT.nil ?_; try simp only [InBlock, Then]) | refine Tri.cF (by first | (simp only [v1, z1, go_sem]; done) | fail) ?_ | refine Tri.cT (by first | (simp only [v1, z1, go_sem]; done) | fail) ?_ | (refine Tri.skip ?_; try simp only [InBlock, Then]) | (refine Tri.exit ?_; simp only [Then, InBlock, if_true, if_false, ↓reduceIte, Nat.reduceEqDiff]) | refine Tri.seq (Tri.block ?_) | refine Tri.block ?_ | refine Tri.seq ?_ | (refine Tri.ret ?_; refine Con.fin (.inl rfl) (by simp only [Tryd.f64, cfgTD1, resA, resA1, go_sem]; rfl) (by simp only [Obs, and_true, true_and]) (by first | (simp only [kVsp, Con.of, Con.ofO, resV, v1, z1, go_sem]; done) | fail) trivial rfl rfl))
      refine Tri.ret ?_
      refine Con.fin (.inl rfl) (by simp only [Tryd.f64, cfgTD1, resA, resA1, go_sem]; rfl) (by simp only [Obs, and_true, true_and]) ?_ ?_ rfl rfl
      · rfl
      · exact ⟨congrArg (fun z : vsK.T => Slot.live (.pure vsK z)) e1.symm, trivial⟩
    | true =>
      have v1 : vlV d (tgI f c.toNat) = .tuple [.pure (.slice true (.slice true (.int .u8))) (vlL fs), .int .i64 (0 : Int)] := by rw [vlV, hq]; show (if eqF fs (tgI f c.toNat) = true then _ else _) = _; rw [hx]; rfl
      have e1 : vsF d (tgI f c.toNat) = (vlL fs, false, ()) := by rw [e0, hq]; show (if eqF fs (tgI f c.toNat) = true then _ else _) = _; rw [hx]; rfl
      refine Tri.at (by first | (simp only [v1, z0, Con.start, go_sem]; rfl) | rfl) ?_
      repeat (first | ((first | refine Tri.seq (Tri.regT (cfgTD1_ok.pins _) ?_) | refine Tri.rgnT (cfgTD1_ok.pins _) ?_); (repeat (first | refine RunT.oneA (hp := by simp (maxSteps := 2000000) (disch := first | decide | omega | (simp only [List.length_append, List.length_cons, List.length_nil, List.length_take, List.length_drop]; omega)) only [v1, z0, go_sem]; rfl) (h := ?_) | refine RunT.notA (h := ?_))); refine RunT.nil ?_; try simp only [InBlock, Then]) | refine Tri.cF (by first | (simp only [v1, z0, go_sem]; done) | fail) ?_ | refine Tri.cT (by first | (simp only [v1, z0, go_sem]; done) | fail) ?_ | (refine Tri.skip ?_; try simp only [InBlock, Then]) | (refine Tri.exit ?_; simp only [Then, InBlock, if_true, if_false, ↓reduceIte, Nat.reduceEqDiff]) | refine Tri.seq (Tri.block ?_) | refine Tri.block ?_ | refine Tri.seq ?_ | (refine Tri.ret ?_; refine Con.fin (.inl rfl) (by simp only [Tryd.f64, cfgTD1, resA, resA1, go_sem]; rfl) (by simp only [Obs, and_true, true_and]) (by first | (simp only [kVsp, Con.of, Con.ofO, resV, v1, z0, go_sem]; done) | fail) trivial rfl rfl))
      refine Tri.ret ?_
      refine Con.fin (.inl rfl) (by simp only [Tryd.f64, cfgTD1, resA, resA1, go_sem]; rfl) (by simp only [Obs, and_true, true_and]) ?_ ?_ rfl rfl
      · rfl
      · exact ⟨congrArg (fun z : vsK.T => Slot.live (.pure vsK z)) e1.symm, trivial⟩
theorem vsp_sum : FSumOK Tryd.prog cfgTD1.G 64 kVsp.sum := Con.sumOK cfgTD1_ok kVsp Tryd.func64 rfl rfl (Con.of_inv _ _ _) vsp_body
end
def nxB (v : vsK.T) : List UInt8 := if v.2.1 = true then [] else v.1.headD []
def nxS (v : vsK.T) : vsK.T := if v.2.1 = true then v else (v.1.tail, v.2.1, ())
def nxV (v : vsK.T) : AV := if v.2.1 = true then .nilsl else .pure (.slice true (.int .u8)) (v.1.headD [])
def kNx : Con := Con.ofO [.a (.p vsK)] [] (fun x => [x.1.2.1 = true ∨ 1 ≤ List.length (α := List UInt8) x.1.1]) (fun x => ⟨nxV x.1, [.pure vsK (nxS x.1)]⟩)
def cfgTD2 : Cfg2 := { ty := tyTabR, fn := fun  | _ => none, G := gNone, pin := [], eq := fun _ => none }
theorem cfgTD2_ok : CfgOK Tryd.prog cfgTD2 := ⟨tyTabR_ok, (fun f s h => by cases h), (fun t d h => by cases h)⟩
section
attribute [local go_sem] Tryd.f65 kNx cfgTD2 tyTabR tyTabV tyTabM tyTabK tyTab
theorem nx_body (p : kNx.Par) (hp : ∀ q ∈ kNx.pre p, q) : BodyOK Tryd.prog cfgTD2 Tryd.f65 (Tryd.f65.body.get rfl) kNx p := by
  obtain ⟨⟨(l : List (List UInt8)), (b : Bool), u1⟩, u⟩ := p
  obtain ⟨h0, _⟩ := Obs.of hp
  replace h0 : b = true ∨ 1 ≤ l.length := h0
  refine ⟨?_, Nat.le_refl _, (by show (nxV (l, b, u1)).strict = true; unfold nxV; split <;> rfl), rfl⟩
  show Tri _ _ _ (Code.seq _ (Code.seq (Code.seq _ (Code.cond _ _ _)) (Code.seq _ _))) _
  cases b with
  | true =>
    refine Tri.at (by first | (simp only [go_sem, Con.start, go_sem]; rfl) | rfl) ?_
    repeat (first | ((first | refine Tri.seq (Tri.regT (cfgTD2_ok.pins _) ?_) | refine Tri.rgnT (cfgTD2_ok.pins _) ?_); (repeat (first | refine RunT.oneA (hp := by simp (maxSteps := 2000000) (disch := first | decide | omega | (simp only [List.length_append, List.length_cons, List.length_nil, List.length_take, List.length_drop]; omega)) only [go_sem, go_sem]; rfl) (h := ?_) | refine RunT.notA (h := ?_))); refine RunT.nil ?_; try simp only [InBlock, Then]) | ((first | refine Tri.seq (Tri.drwT (mixed) (cfgTD2_ok.pins _) ?_) | refine Tri.drnT (mixed) (cfgTD2_ok.pins _) ?_); (repeat (first | refine RunD.oneA (hp := by simp (maxSteps := 2000000) (disch := first | decide | omega | (simp only [List.length_append, List.length_cons, List.length_nil, List.length_take, List.length_drop]; omega)) only [go_sem, go_sem]; rfl) (h := ?_) | refine RunD.notA (h := ?_))); refine RunD.nil ?_; refine ⟨by kernel_rfl, ?_⟩; try simp only [InBlock, Then]) | refine Tri.cF (by first | (simp only [go_sem, go_sem]; done) | fail) ?_ | refine Tri.cT (by first | (simp only [go_sem, go_sem]; done) | fail) ?_ | (refine Tri.skip ?_; try simp only [InBlock, Then]) | (refine Tri.exit ?_; simp only [Then, InBlock, if_true, if_false, ↓reduceIte, Nat.reduceEqDiff]) | refine Tri.seq (Tri.block ?_) | refine Tri.block ?_ | refine Tri.seq ?_ | (refine Tri.ret ?_; refine Con.fin (.inl rfl) (by simp only [Tryd.f65, cfgTD2, resA, resA1, go_sem]; rfl) (by simp only [Obs, and_true, true_and]) (by first | (simp only [kNx, Con.of, Con.ofO, resV, go_sem, go_sem]; done) | fail) trivial rfl rfl))
    refine Tri.ret ?_
    refine Con.fin (.inl rfl) (by simp only [Tryd.f65, cfgTD2, resA, resA1, go_sem]; rfl) (by simp only [Obs, and_true, true_and]) ?_ ?_ ?_ rfl
    · rfl
    · exact ⟨rfl, trivial⟩
    · rfl
  | false =>
    cases l with
    | nil => rcases h0 with h | h <;> cases h
    | cons v r =>
      have hr : List.take (r.length + 1 - 1) (List.drop 1 (v :: r)) = r := List.take_of_length_le (Nat.le_refl _)
      refine Tri.at (by first | (simp only [hr, Con.start, go_sem]; rfl) | rfl) ?_
      repeat (first | ((first | refine Tri.seq (Tri.regT (cfgTD2_ok.pins _) ?_) | refine Tri.rgnT (cfgTD2_ok.pins _) ?_); (repeat (first | refine RunT.oneA (hp := by simp (maxSteps := 2000000) (disch := first | decide | omega | (simp only [List.length_append, List.length_cons, List.length_nil, List.length_take, List.length_drop]; omega)) only [hr, go_sem]; rfl) (h := ?_) | refine RunT.notA (h := ?_))); refine RunT.nil ?_; try simp only [InBlock, Then]) | ((first | refine Tri.seq (Tri.drwT (mixed) (cfgTD2_ok.pins _) ?_) | refine Tri.drnT (mixed) (cfgTD2_ok.pins _) ?_); (repeat (first | refine RunD.oneA (hp := by simp (maxSteps := 2000000) (disch := first | decide | omega | (simp only [List.length_append, List.length_cons, List.length_nil, List.length_take, List.length_drop]; omega)) only [hr, go_sem]; rfl) (h := ?_) | refine RunD.notA (h := ?_))); refine RunD.nil ?_; refine ⟨by kernel_rfl, ?_⟩; try simp only [InBlock, Then]) | refine Tri.cF (by first | (simp only [hr, go_sem]; done) | fail) ?_ | refine Tri.cT (by first | (simp only [hr, go_sem]; done) | fail) ?_ | (refine Tri.skip ?_; try simp only [InBlock, Then]) | (refine Tri.exit ?_; simp only [Then, InBlock, if_true, if_false, ↓reduceIte, Nat.reduceEqDiff]) | refine Tri.seq (Tri.block ?_) | refine Tri.block ?_ | refine Tri.seq ?_ | (refine Tri.ret ?_; refine Con.fin (.inl rfl) (by simp only [Tryd.f65, cfgTD2, resA, resA1, go_sem]; rfl) (by simp only [Obs, and_true, true_and]) (by first | (simp only [kNx, Con.of, Con.ofO, resV, hr, go_sem]; done) | fail) trivial rfl rfl))
      refine Tri.ret ?_
      refine Con.fin (.inl rfl) (by simp only [Tryd.f65, cfgTD2, resA, resA1, go_sem]; rfl) (by simp only [Obs, and_true, true_and]) ?_ ?_ ?_ rfl
      · rfl
      · exact ⟨rfl, trivial⟩
      · rfl
theorem nx_sum : FSumOK Tryd.prog cfgTD2.G 65 kNx.sum := Con.sumOK cfgTD2_ok kNx Tryd.func65 rfl rfl (Con.ofO_inv _ _ _ _) nx_body
end
theorem nx_bad (l : List (List UInt8)) (u1 : Kd.unit.T) : nxV (l, true, u1) = .nilsl ∧ nxS (l, true, u1) = (l, true, u1) ∧ nxB (l, true, u1) = [] := ⟨rfl, rfl, rfl⟩
theorem nx_ok (v : List UInt8) (r : List (List UInt8)) (u1 : Kd.unit.T) : nxV (v :: r, false, u1) = .pure (.slice true (.int .u8)) v ∧ nxS (v :: r, false, u1) = (r, false, ()) ∧ nxB (v :: r, false, u1) = v := ⟨rfl, rfl, rfl⟩
def nuU (v : vsK.T) : UInt64 := rdU (nxB v)
def nuS (v : vsK.T) : vsK.T := ((nxS v).1, (nxS v).2.1 || !rdB (nxB v), ())
def kNu : Con := Con.ofO [.a (.p vsK)] [] (fun x => [x.1.2.1 = true ∨ 1 ≤ List.length (α := List UInt8) x.1.1, ∀ y ∈ x.1.1, List.length (α := UInt8) y ≤ 1000000]) (fun x => ⟨.int .u64 (nuU x.1), [.pure vsK (nuS x.1)]⟩)
def cfgTD3 : Cfg2 := { ty := tyTabR, fn := fun | 65 => some kNx.sum | 94 => some kRd.sum | _ => none, G := gNone, pin := [], eq := fun _ => none }
theorem cfgTD3_ok : CfgOK Tryd.prog cfgTD3 := ⟨tyTabR_ok, (fun f s h => by
  simp only [cfgTD3] at h
  split at h
  · injection h with h; subst h; exact .inl nx_sum
  · injection h with h; subst h; exact .inl trd_sum
  · cases h), (fun t d h => by cases h)⟩
section
attribute [local go_sem] Tryd.f67 kNu kNx kRd cfgTD3 tyTabR tyTabV tyTabM tyTabK tyTab
theorem nu_body (p : kNu.Par) (hp : ∀ q ∈ kNu.pre p, q) : BodyOK Tryd.prog cfgTD3 Tryd.f67 (Tryd.f67.body.get rfl) kNu p := by
  obtain ⟨⟨(l : List (List UInt8)), (b : Bool), u1⟩, u⟩ := p
  obtain ⟨h0, h1, _⟩ := Obs.of hp
  replace h0 : b = true ∨ 1 ≤ l.length := h0
  replace h1 : ∀ y ∈ l, y.length ≤ 1000000 := h1
  refine ⟨?_, Nat.le_refl _, rfl, rfl⟩
  show Tri _ _ _ (Code.seq _ (Code.seq _ (Code.seq _ (Code.seq _ _)))) _
  cases b with
  | true =>
    obtain ⟨n1, n2, n3⟩ := nx_bad l u1
    have r1 : rdB [] = true := rfl
    have hp0 : true = true ∨ 1 ≤ l.length := .inl rfl
    refine Tri.at (by first | (simp only [n1, n2, r1, Con.start, go_sem]; rfl) | rfl) ?_
    repeat (first | ((first | refine Tri.seq (Tri.regT (cfgTD3_ok.pins _) ?_) | refine Tri.rgnT (cfgTD3_ok.pins _) ?_); (repeat (first | refine RunT.oneA (hp := by simp (maxSteps := 2000000) (disch := first | decide | omega | (simp only [List.length_append, List.length_cons, List.length_nil, List.length_take, List.length_drop]; omega)) only [n1, n2, r1, go_sem]; rfl) (h := ?_) | refine RunT.notA (h := ?_))); refine RunT.nil ?_; try simp only [InBlock, Then]) | refine Tri.cF (by first | (simp only [n1, n2, r1, go_sem]; done) | fail) ?_ | refine Tri.cT (by first | (simp only [n1, n2, r1, go_sem]; done) | fail) ?_ | (refine Tri.skip ?_; try simp only [InBlock, Then]) | (refine Tri.exit ?_; simp only [Then, InBlock, if_true, if_false, ↓reduceIte, Nat.reduceEqDiff]) | refine Tri.seq (Tri.block ?_) | refine Tri.block ?_ | refine Tri.seq ?_ | (refine Tri.ret ?_; refine Con.fin (.inl rfl) (by simp only [Tryd.f67, cfgTD3, resA, resA1, go_sem]; rfl) (by simp only [Obs, and_true, true_and]) (by first | (simp only [kNu, Con.of, Con.ofO, resV, n1, n2, r1, go_sem]; done) | fail) trivial rfl rfl))
    refine Tri.ret ?_
    refine Con.fin (.inl rfl) (by simp only [Tryd.f67, cfgTD3, resA, resA1, go_sem]; rfl) (by simp only [Obs, and_true, true_and]) ?_ ?_ rfl rfl
    · rfl
    · exact ⟨rfl, trivial⟩
  | false =>
    cases l with
    | nil => rcases h0 with h | h <;> cases h
    | cons v r =>
      obtain ⟨n1, n2, n3⟩ := nx_ok v r u1
      have hv : v.length ≤ 1000000 := h1 v (List.mem_cons_self ..)
      have e1 : nuU (v :: r, false, u1) = rdU v := rfl
      cases hb : rdB v with
      | true =>
        have e2 : nuS (v :: r, false, u1) = (r, false, ()) := by show (r, false || !rdB v, ()) = _; rw [hb]; rfl
        refine Tri.at (by first | (simp only [n1, n2, hb, Con.start, go_sem]; rfl) | rfl) ?_
        repeat (first | ((first | refine Tri.seq (Tri.regT (cfgTD3_ok.pins _) ?_) | refine Tri.rgnT (cfgTD3_ok.pins _) ?_); (repeat (first | refine RunT.oneA (hp := by simp (maxSteps := 2000000) (disch := first | decide | omega | (simp only [List.length_append, List.length_cons, List.length_nil, List.length_take, List.length_drop]; omega)) only [n1, n2, hb, go_sem]; rfl) (h := ?_) | refine RunT.notA (h := ?_))); refine RunT.nil ?_; try simp only [InBlock, Then]) | refine Tri.cF (by first | (simp only [n1, n2, hb, go_sem]; done) | fail) ?_ | refine Tri.cT (by first | (simp only [n1, n2, hb, go_sem]; done) | fail) ?_ | (refine Tri.skip ?_; try simp only [InBlock, Then]) | (refine Tri.exit ?_; simp only [Then, InBlock, if_true, if_false, ↓reduceIte, Nat.reduceEqDiff]) | refine Tri.seq (Tri.block ?_) | refine Tri.block ?_ | refine Tri.seq ?_ | (refine Tri.ret ?_; refine Con.fin (.inl rfl) (by simp only [Tryd.f67, cfgTD3, resA, resA1, go_sem]; rfl) (by simp only [Obs, and_true, true_and]) (by first | (simp only [kNu, Con.of, Con.ofO, resV, n1, n2, hb, go_sem]; done) | fail) trivial rfl rfl))
        refine Tri.ret ?_
        refine Con.fin (.inl rfl) (by simp only [Tryd.f67, cfgTD3, resA, resA1, go_sem]; rfl) (by simp only [Obs, and_true, true_and]) ?_ ?_ rfl rfl
        · rfl
        · exact ⟨congrArg (fun z : vsK.T => Slot.live (.pure vsK z)) e2.symm, trivial⟩
      | false =>
        have e2 : nuS (v :: r, false, u1) = (r, true, ()) := by show (r, false || !rdB v, ()) = _; rw [hb]; rfl
        refine Tri.at (by first | (simp only [n1, n2, hb, Con.start, go_sem]; rfl) | rfl) ?_
        repeat (first | ((first | refine Tri.seq (Tri.regT (cfgTD3_ok.pins _) ?_) | refine Tri.rgnT (cfgTD3_ok.pins _) ?_); (repeat (first | refine RunT.oneA (hp := by simp (maxSteps := 2000000) (disch := first | decide | omega | (simp only [List.length_append, List.length_cons, List.length_nil, List.length_take, List.length_drop]; omega)) only [n1, n2, hb, go_sem]; rfl) (h := ?_) | refine RunT.notA (h := ?_))); refine RunT.nil ?_; try simp only [InBlock, Then]) | refine Tri.cF (by first | (simp only [n1, n2, hb, go_sem]; done) | fail) ?_ | refine Tri.cT (by first | (simp only [n1, n2, hb, go_sem]; done) | fail) ?_ | (refine Tri.skip ?_; try simp only [InBlock, Then]) | (refine Tri.exit ?_; simp only [Then, InBlock, if_true, if_false, ↓reduceIte, Nat.reduceEqDiff]) | refine Tri.seq (Tri.block ?_) | refine Tri.block ?_ | refine Tri.seq ?_ | (refine Tri.ret ?_; refine Con.fin (.inl rfl) (by simp only [Tryd.f67, cfgTD3, resA, resA1, go_sem]; rfl) (by simp only [Obs, and_true, true_and]) (by first | (simp only [kNu, Con.of, Con.ofO, resV, n1, n2, hb, go_sem]; done) | fail) trivial rfl rfl))
        refine Tri.ret ?_
        refine Con.fin (.inl rfl) (by simp only [Tryd.f67, cfgTD3, resA, resA1, go_sem]; rfl) (by simp only [Obs, and_true, true_and]) ?_ ?_ rfl rfl
        · rfl
        · exact ⟨congrArg (fun z : vsK.T => Slot.live (.pure vsK z)) e2.symm, trivial⟩
theorem nu_sum : FSumOK Tryd.prog cfgTD3.G 67 kNu.sum := Con.sumOK cfgTD3_ok kNu Tryd.func67 rfl rfl (Con.ofO_inv _ _ _ _) nu_body
end
def tiI (v : vsK.T) : Int := convT .i64 .u64 (nuU v)
def tiS (v : vsK.T) : vsK.T := ((nuS v).1, (nuS v).2.1 || decide ((1099511627776 : UInt64) < nuU v), ())
def kTi : Con := Con.ofO [.a (.p vsK)] [] (fun x => [x.1.2.1 = true ∨ 1 ≤ List.length (α := List UInt8) x.1.1, ∀ y ∈ x.1.1, List.length (α := UInt8) y ≤ 1000000]) (fun x => ⟨.int .i64 (tiI x.1), [.pure vsK (tiS x.1)]⟩)
def cfgTD4 : Cfg2 := { ty := tyTabR, fn := fun | 67 => some kNu.sum | _ => none, G := gNone, pin := [], eq := fun _ => none }
theorem cfgTD4_ok : CfgOK Tryd.prog cfgTD4 := ⟨tyTabR_ok, (fun f s h => by
  simp only [cfgTD4] at h
  split at h
  · injection h with h; subst h; exact .inl nu_sum
  · cases h), (fun t d h => by cases h)⟩
section
attribute [local go_sem] Tryd.f66 kTi kNu cfgTD4 tyTabR tyTabV tyTabM tyTabK tyTab
theorem ti_body (p : kTi.Par) (hp : ∀ q ∈ kTi.pre p, q) : BodyOK Tryd.prog cfgTD4 Tryd.f66 (Tryd.f66.body.get rfl) kTi p := by
  obtain ⟨⟨(l : List (List UInt8)), (b : Bool), u1⟩, u⟩ := p
  obtain ⟨h0, h1, _⟩ := Obs.of hp
  replace h0 : b = true ∨ 1 ≤ l.length := h0
  replace h1 : ∀ y ∈ l, y.length ≤ 1000000 := h1
  refine ⟨?_, Nat.le_refl _, rfl, rfl⟩
  show Tri _ _ _ (Code.seq _ (Code.seq _ (Code.seq _ (Code.seq _ _)))) _
  have e1 : tiI (l, b, u1) = convT .i64 .u64 (nuU (l, b, u1)) := rfl
  have e2 : tiS (l, b, u1) = ((nuS (l, b, u1)).1, (nuS (l, b, u1)).2.1 || decide ((1099511627776 : UInt64) < nuU (l, b, u1)), ()) := rfl
  generalize hn : nuU (l, b, u1) = n at *
  generalize hs : nuS (l, b, u1) = s at *
  obtain ⟨(sl : List (List UInt8)), (sb : Bool), su⟩ := s
  replace e2 : tiS (l, b, u1) = (sl, sb || decide ((1099511627776 : UInt64) < n), ()) := e2
  cases sb with
  | true =>
    rw [Bool.true_or] at e2
    refine Tri.at (by first | (simp only [hn, hs, Con.start, go_sem]; rfl) | rfl) ?_
    repeat (first | ((first | refine Tri.seq (Tri.regT (cfgTD4_ok.pins _) ?_) | refine Tri.rgnT (cfgTD4_ok.pins _) ?_); (repeat (first | refine RunT.oneA (hp := by simp (maxSteps := 2000000) (disch := first | decide | omega | (simp only [List.length_append, List.length_cons, List.length_nil, List.length_take, List.length_drop]; omega)) only [hn, hs, go_sem]; rfl) (h := ?_) | refine RunT.notA (h := ?_))); refine RunT.nil ?_; try simp only [InBlock, Then]) | refine Tri.cF (by first | (simp only [hn, hs, go_sem]; done) | fail) ?_ | refine Tri.cT (by first | (simp only [hn, hs, go_sem]; done) | fail) ?_ | (refine Tri.skip ?_; try simp only [InBlock, Then]) | (refine Tri.exit ?_; simp only [Then, InBlock, if_true, if_false, ↓reduceIte, Nat.reduceEqDiff]) | refine Tri.seq (Tri.block ?_) | refine Tri.block ?_ | refine Tri.seq ?_ | (refine Tri.ret ?_; refine Con.fin (.inl rfl) (by simp only [Tryd.f66, cfgTD4, resA, resA1, go_sem]; rfl) (by simp only [Obs, and_true, true_and]) (by first | (simp only [kTi, Con.of, Con.ofO, resV, hn, hs, go_sem]; done) | fail) trivial rfl rfl))
    refine Tri.ret ?_
    refine Con.fin (.inl rfl) (by simp only [Tryd.f66, cfgTD4, resA, resA1, go_sem]; rfl) (by simp only [Obs, and_true, true_and]) ?_ ?_ rfl rfl
    · exact congrArg (AV.int .i64) e1.symm
    · exact ⟨congrArg (fun z : vsK.T => Slot.live (.pure vsK z)) e2.symm, trivial⟩
  | false =>
    rw [Bool.false_or] at e2
    generalize hc : decide ((1099511627776 : UInt64) < n) = cb at *
    refine Tri.at (by first | (simp only [hn, hs, hc, Con.start, go_sem]; rfl) | rfl) ?_
    repeat (first | ((first | refine Tri.seq (Tri.regT (cfgTD4_ok.pins _) ?_) | refine Tri.rgnT (cfgTD4_ok.pins _) ?_); (repeat (first | refine RunT.oneA (hp := by simp (maxSteps := 2000000) (disch := first | decide | omega | (simp only [List.length_append, List.length_cons, List.length_nil, List.length_take, List.length_drop]; omega)) only [hn, hs, hc, go_sem]; rfl) (h := ?_) | refine RunT.notA (h := ?_))); refine RunT.nil ?_; try simp only [InBlock, Then]) | refine Tri.cF (by first | (simp only [hn, hs, hc, go_sem]; done) | fail) ?_ | refine Tri.cT (by first | (simp only [hn, hs, hc, go_sem]; done) | fail) ?_ | (refine Tri.skip ?_; try simp only [InBlock, Then]) | (refine Tri.exit ?_; simp only [Then, InBlock, if_true, if_false, ↓reduceIte, Nat.reduceEqDiff]) | refine Tri.seq (Tri.block ?_) | refine Tri.block ?_ | refine Tri.seq ?_ | (refine Tri.ret ?_; refine Con.fin (.inl rfl) (by simp only [Tryd.f66, cfgTD4, resA, resA1, go_sem]; rfl) (by simp only [Obs, and_true, true_and]) (by first | (simp only [kTi, Con.of, Con.ofO, resV, hn, hs, hc, go_sem]; done) | fail) trivial rfl rfl))
    refine Tri.ret ?_
    refine Con.fin (.inl rfl) (by simp only [Tryd.f66, cfgTD4, resA, resA1, go_sem]; rfl) (by simp only [Obs, and_true, true_and]) ?_ ?_ rfl rfl
    · exact congrArg (AV.int .i64) e1.symm
    · exact ⟨congrArg (fun z : vsK.T => Slot.live (.pure vsK z)) e2.symm, trivial⟩
theorem ti_sum : FSumOK Tryd.prog cfgTD4.G 66 kTi.sum := Con.sumOK cfgTD4_ok kTi Tryd.func66 rfl rfl (Con.ofO_inv _ _ _ _) ti_body
end
def keB (b : List UInt8) : List UInt8 := List.take (min b.length 16) b ++ List.drop (List.take (min b.length 16) b).length [0, 0, 0, 0, 0, 0, 0, 0, 0, 0, 0, 0, 0, 0, 0, 0]
def keS (v : vsK.T) : vsK.T := ((nxS v).1, (nxS v).2.1 || !decide (((nxB v).length : Int) = 16), ())
def kKe : Con := Con.ofO [.a (.p vsK)] [] (fun x => [x.1.2.1 = true ∨ 1 ≤ List.length (α := List UInt8) x.1.1, ∀ y ∈ x.1.1, List.length (α := UInt8) y ≤ 1000000]) (fun x => ⟨.pure k16 (keB (nxB x.1)), [.pure vsK (keS x.1)]⟩)
def cfgTD5 : Cfg2 := { ty := tyTabR, fn := fun | 65 => some kNx.sum | _ => none, G := gNone, pin := [], eq := fun _ => none }
theorem cfgTD5_ok : CfgOK Tryd.prog cfgTD5 := ⟨tyTabR_ok, (fun f s h => by
  simp only [cfgTD5] at h
  split at h
  · injection h with h; subst h; exact .inl nx_sum
  · cases h), (fun t d h => by cases h)⟩
section
attribute [local go_sem] Tryd.f68 kKe kNx cfgTD5 tyTabR tyTabV tyTabM tyTabK tyTab
theorem ke_body (p : kKe.Par) (hp : ∀ q ∈ kKe.pre p, q) : BodyOK Tryd.prog cfgTD5 Tryd.f68 (Tryd.f68.body.get rfl) kKe p := by
  obtain ⟨⟨(l : List (List UInt8)), (b : Bool), u1⟩, u⟩ := p
  obtain ⟨h0, h1, _⟩ := Obs.of hp
  replace h0 : b = true ∨ 1 ≤ l.length := h0
  replace h1 : ∀ y ∈ l, y.length ≤ 1000000 := h1
  refine ⟨?_, Nat.le_refl _, rfl, rfl⟩
  show Tri _ _ _ (Code.seq _ (Code.seq _ (Code.seq _ (Code.seq _ (Code.seq _ _))))) _
  cases b with
  | true =>
    obtain ⟨n1, n2, n3⟩ := nx_bad l u1
    have z16 : decide ((0 : Int) = 16) = false := rfl
    refine Tri.at (by first | (simp only [n1, n2, z16, Con.start, go_sem]; rfl) | rfl) ?_
    repeat (first | ((first | refine Tri.seq (Tri.regT (cfgTD5_ok.pins _) ?_) | refine Tri.rgnT (cfgTD5_ok.pins _) ?_); (repeat (first | refine RunT.oneA (hp := by simp (maxSteps := 2000000) (disch := first | decide | omega | (simp only [List.length_append, List.length_cons, List.length_nil, List.length_take, List.length_drop]; omega)) only [n1, n2, z16, go_sem]; rfl) (h := ?_) | refine RunT.notA (h := ?_))); refine RunT.nil ?_; try simp only [InBlock, Then]) | refine Tri.cF (by first | (simp only [n1, n2, z16, go_sem]; done) | fail) ?_ | refine Tri.cT (by first | (simp only [n1, n2, z16, go_sem]; done) | fail) ?_ | (refine Tri.skip ?_; try simp only [InBlock, Then]) | (refine Tri.exit ?_; simp only [Then, InBlock, if_true, if_false, ↓reduceIte, Nat.reduceEqDiff]) | refine Tri.seq (Tri.block ?_) | refine Tri.block ?_ | refine Tri.seq ?_ | (refine Tri.ret ?_; refine Con.fin (.inl rfl) (by simp only [Tryd.f68, cfgTD5, resA, resA1, go_sem]; rfl) (by simp only [Obs, and_true, true_and]) (by first | (simp only [kKe, Con.of, Con.ofO, resV, n1, n2, z16, go_sem]; done) | fail) trivial rfl rfl))
    refine Tri.ret ?_
    refine Con.fin (.inl rfl) (by simp only [Tryd.f68, cfgTD5, resA, resA1, go_sem]; rfl) (by simp only [Obs, and_true, true_and]) ?_ ?_ rfl rfl
    · rfl
    · exact ⟨rfl, trivial⟩
  | false =>
    cases l with
    | nil => rcases h0 with h | h <;> cases h
    | cons v r =>
      obtain ⟨n1, n2, n3⟩ := nx_ok v r u1
      have hv : v.length ≤ 1000000 := h1 v (List.mem_cons_self ..)
      have e2 : keS (v :: r, false, u1) = (r, !decide ((v.length : Int) = 16), ()) := rfl
      generalize hc : decide ((v.length : Int) = 16) = cb at *
      refine Tri.at (by first | (simp only [n1, n2, hc, Con.start, go_sem]; rfl) | rfl) ?_
      repeat (first | ((first | refine Tri.seq (Tri.regT (cfgTD5_ok.pins _) ?_) | refine Tri.rgnT (cfgTD5_ok.pins _) ?_); (repeat (first | refine RunT.oneA (hp := by simp (maxSteps := 2000000) (disch := first | decide | omega | (simp only [List.length_append, List.length_cons, List.length_nil, List.length_take, List.length_drop]; omega)) only [n1, n2, hc, go_sem]; rfl) (h := ?_) | refine RunT.notA (h := ?_))); refine RunT.nil ?_; try simp only [InBlock, Then]) | refine Tri.cF (by first | (simp only [n1, n2, hc, go_sem]; done) | fail) ?_ | refine Tri.cT (by first | (simp only [n1, n2, hc, go_sem]; done) | fail) ?_ | (refine Tri.skip ?_; try simp only [InBlock, Then]) | (refine Tri.exit ?_; simp only [Then, InBlock, if_true, if_false, ↓reduceIte, Nat.reduceEqDiff]) | refine Tri.seq (Tri.block ?_) | refine Tri.block ?_ | refine Tri.seq ?_ | (refine Tri.ret ?_; refine Con.fin (.inl rfl) (by simp only [Tryd.f68, cfgTD5, resA, resA1, go_sem]; rfl) (by simp only [Obs, and_true, true_and]) (by first | (simp only [kKe, Con.of, Con.ofO, resV, n1, n2, hc, go_sem]; done) | fail) trivial rfl rfl))
      refine Tri.ret ?_
      refine Con.fin (.inl rfl) (by simp only [Tryd.f68, cfgTD5, resA, resA1, go_sem]; rfl) (by simp only [Obs, and_true, true_and]) ?_ ?_ rfl rfl
      · rfl
      · exact ⟨congrArg (fun z : vsK.T => Slot.live (.pure vsK z)) e2.symm, trivial⟩
theorem ke_sum : FSumOK Tryd.prog cfgTD5.G 68 kKe.sum := Con.sumOK cfgTD5_ok kKe Tryd.func68 rfl rfl (Con.ofO_inv _ _ _ _) ke_body
end
end Go.Proofs.YtjdeaphfamenaaaDoor

namespace Go.Proofs.YtjdeaphfamenaaaDoor
open Go.Vc Go.Proofs
set_option maxRecDepth 10000
set_option maxHeartbeats 4000000
def tyTabS : TypeId → Option TyI := fun t => if t = 57 then some (.kd1 auTD auK 48) else tyTabR t
theorem tyTabS_ok : TysOK Tryd.prog tyTabS := by
  intro t i h
  unfold tyTabS at h
  split at h
  · rename_i e
    injection h with h
    subst h e
    exact TyOK.kd1 (td := auTD) ⟨_, Tryd.underlying57, by kernel_rfl, by kernel_rfl⟩ (by kernel_rfl)
  · exact tyTabR_ok t i h
def okL (n : Nat) (v : vsK.T) : Prop := (v.2.1 = true ∨ n ≤ List.length (α := List UInt8) v.1) ∧ ∀ y ∈ v.1, List.length (α := UInt8) y ≤ 1000000
theorem okL_nx {n : Nat} {v : vsK.T} (h : okL (n + 1) v) : okL n (nxS v) := by
  obtain ⟨(l : List (List UInt8)), (b : Bool), u⟩ := v
  obtain ⟨h1, h2⟩ := h
  replace h1 : b = true ∨ n + 1 ≤ l.length := h1
  replace h2 : ∀ y ∈ l, y.length ≤ 1000000 := h2
  cases b with
  | true => exact ⟨.inl rfl, h2⟩
  | false =>
    cases l with
    | nil => rcases h1 with h | h <;> cases h
    | cons x r =>
      refine ⟨.inr ?_, fun y hy => h2 y (List.mem_cons_of_mem _ hy)⟩
      rcases h1 with h | h
      · cases h
      · show n ≤ r.length
        simpa using h
theorem okL_bad {n : Nat} {v w : vsK.T} (h : okL n v) (hl : w.1 = v.1) (hb : v.2.1 = true → w.2.1 = true) : okL n w := by
  obtain ⟨h1, h2⟩ := h
  exact ⟨h1.imp hb (fun e => by rw [hl]; exact e), by rw [hl]; exact h2⟩
theorem okL_nu {n : Nat} {v : vsK.T} (h : okL (n + 1) v) : okL n (nuS v) := okL_bad (okL_nx h) rfl (fun e => by show ((nxS v).2.1 || _) = true; rw [e]; rfl)
theorem okL_ti {n : Nat} {v : vsK.T} (h : okL (n + 1) v) : okL n (tiS v) := okL_bad (okL_nu h) rfl (fun e => by show ((nuS v).2.1 || _) = true; rw [e]; rfl)
theorem nxB_len {n : Nat} {v : vsK.T} (h : okL n v) : (nxB v).length ≤ 1000000 := by
  obtain ⟨(l : List (List UInt8)), (b : Bool), u⟩ := v
  obtain ⟨h1, h2⟩ := h
  replace h2 : ∀ y ∈ l, y.length ≤ 1000000 := h2
  cases b with
  | true => exact Nat.zero_le _
  | false =>
    cases l with
    | nil => exact Nat.zero_le _
    | cons x r => exact h2 x (List.mem_cons_self ..)
theorem keB_len (b : List UInt8) : (keB b).length = 16 := by
  rw [keB, List.length_append, List.length_drop, List.length_take]
  show min (min b.length 16) b.length + (16 - min (min b.length 16) b.length) = 16
  omega
theorem eqF_len' : ∀ {fs : List flK.T} {ts : List Int}, eqF fs ts = true → fs.length = ts.length
  | [], [], _ => rfl
  | [], _ :: _, h => by cases h
  | _ :: _, [], h => by cases h
  | f :: r, t :: s, h => by
    rw [eqF, Bool.and_eq_true] at h
    simp [eqF_len' h.2]
theorem spF_bnd (B : Nat) : ∀ (k : Nat) (d : List UInt8) (acc fs : List flK.T) (e : Int), d.length ≤ B → (∀ f ∈ acc, List.length (α := UInt8) f.2.1 ≤ B) → spF k d acc = (some fs, e) → ∀ f ∈ fs, List.length (α := UInt8) f.2.1 ≤ B
  | 0, d, acc, fs, e, hd, ha, h => by
    simp only [spF, Prod.mk.injEq, Option.some.injEq] at h
    rw [← h.1]; exact ha
  | k + 1, d, acc, fs, e, hd, ha, h => by
    rw [spF] at h
    split at h
    · simp only [Prod.mk.injEq, Option.some.injEq] at h
      rw [← h.1]; exact ha
    · split at h
      · cases h
      · split at h
        · cases h
        · split at h
          · cases h
          · refine spF_bnd B k _ _ fs e (by rw [List.length_drop, List.length_drop]; omega) (fun f hf => ?_) h
            rcases List.mem_append.1 hf with hf | hf
            · exact ha f hf
            · rw [List.mem_singleton] at hf
              subst hf
              show (List.take (spN d) (List.drop 3 d)).length ≤ B
              rw [List.length_take, List.length_drop]; omega
theorem vsF_ok {d : List UInt8} {ts : List Int} (hd : d.length ≤ 1000000) : okL ts.length (vsF d ts) := by
  rw [vsF]
  split
  · exact ⟨.inl rfl, fun y hy => by cases hy⟩
  · rename_i fs e hq
    split
    · rename_i hx
      refine ⟨.inr ?_, fun y hy => ?_⟩
      · show ts.length ≤ (vlL fs).length
        rw [vlL, List.length_map, eqF_len' hx]; exact Nat.le_refl _
      · obtain ⟨f, hf, rfl⟩ := List.mem_map.1 hy
        exact spF_bnd 1000000 _ d [] fs e hd (fun f hf => by cases hf) hq f hf
    · exact ⟨.inl rfl, fun y hy => by cases hy⟩
def auZ : auK.T := ([], (0 : Int), (0 : UInt64), [0, 0, 0, 0, 0, 0, 0, 0, 0, 0, 0, 0, 0, 0, 0, 0], ())
def auA (v : vsK.T) : auK.T := (nxB v, tiI (nxS v), nuU (tiS (nxS v)), keB (nxB (nuS (tiS (nxS v)))), ())
def auE (v : vsK.T) : vsK.T := keS (nuS (tiS (nxS v)))
def auV (v : vsK.T) : AV := if (waR (auA v) && !(auE v).2.1) = true then .tuple [.pure auK (auA v), .int .i64 (0 : Int)] else .tuple [.pure auK auZ, .int .i64 (21 : Int)]
def kRau : Con := Con.of [.v (.slice false (.int .u8))] (fun x => [List.length (α := UInt8) x.1 ≤ 1000000]) (fun x => ⟨auV (vsF x.1 (tgI 11 4)), []⟩)
def cfgTE1 : Cfg2 := { ty := tyTabS, fn := fun | 64 => some kVsp.sum | 65 => some kNx.sum | 66 => some kTi.sum | 67 => some kNu.sum | 68 => some kKe.sum | 37 => some kWa.sum | _ => none, G := gNone, pin := [], eq := fun _ => none }
theorem cfgTE1_ok : CfgOK Tryd.prog cfgTE1 := ⟨tyTabS_ok, (fun f s h => by
  simp only [cfgTE1] at h
  split at h
  · injection h with h; subst h; exact .inl vsp_sum
  · injection h with h; subst h; exact .inl nx_sum
  · injection h with h; subst h; exact .inl ti_sum
  · injection h with h; subst h; exact .inl nu_sum
  · injection h with h; subst h; exact .inl ke_sum
  · injection h with h; subst h; exact .inl wau_sum
  · cases h), (fun t d h => by cases h)⟩
section
attribute [local go_sem] Tryd.f39 kRau kVsp kNx kTi kNu kKe kWa cfgTE1 tyTabS tyTabR tyTabV tyTabM tyTabK tyTab
theorem rda_body (p : kRau.Par) (hp : ∀ q ∈ kRau.pre p, q) : BodyOK Tryd.prog cfgTE1 Tryd.f39 (Tryd.f39.body.get rfl) kRau p := by
  obtain ⟨(d : List UInt8), u⟩ := p
  obtain ⟨h0, _⟩ := Obs.of hp
  replace h0 : d.length ≤ 1000000 := h0
  refine ⟨?_, Nat.zero_le _, (by show (auV (vsF d (tgI 11 4))).strict = true; unfold auV; split <;> rfl), rfl⟩
  show Tri _ _ _ (Code.seq _ (Code.seq _ (Code.seq _ (Code.seq (Code.seq _ (Code.seq _ (Code.cond _ (Code.seq _ _) _))) (Code.seq _ _))))) _
  have hv := vsF_ok (d := d) (ts := tgI 11 4) h0
  have z4 : Int.toNat 4 = 4 := rfl
  generalize hv0 : vsF d (tgI 11 4) = v0 at *
  replace hv : okL 4 v0 := hv
  have hv1 := okL_nx hv
  have hv2 := okL_ti hv1
  have hv3 := okL_nu hv2
  have hb0 := nxB_len hv
  have hkl := keB_len (nxB (nuS (tiS (nxS v0))))
  have eA : auA v0 = (nxB v0, tiI (nxS v0), nuU (tiS (nxS v0)), keB (nxB (nuS (tiS (nxS v0)))), ()) := rfl
  have eE : auE v0 = keS (nuS (tiS (nxS v0))) := rfl
  have eX : nxV v0 = if v0.2.1 = true then .nilsl else .pure (.slice true (.int .u8)) (nxB v0) := by
    rw [nxV, nxB]
    split <;> rfl
  have eB : v0.2.1 = true → nxB v0 = [] := fun h => by rw [nxB, if_pos h]
  generalize hs1 : nxS v0 = s1 at *
  generalize ht1 : tiI s1 = t1 at *
  generalize hs2 : tiS s1 = s2 at *
  generalize hn2 : nuU s2 = n2 at *
  generalize hs3 : nuS s2 = s3 at *
  generalize hs4 : keS s3 = s4 at *
  generalize hk3 : keB (nxB s3) = k3 at *
  generalize hc0 : nxB v0 = c0 at *
  obtain ⟨p0, b0⟩ := hv
  obtain ⟨p1, b1⟩ := hv1
  obtain ⟨p2, b2⟩ := hv2
  obtain ⟨p3, b3⟩ := hv3
  have q0 : v0.2.1 = true ∨ 1 ≤ List.length (α := List UInt8) v0.1 := p0.imp id (fun h => by omega)
  have q1 : s1.2.1 = true ∨ 1 ≤ List.length (α := List UInt8) s1.1 := p1.imp id (fun h => by omega)
  have q2 : s2.2.1 = true ∨ 1 ≤ List.length (α := List UInt8) s2.1 := p2.imp id (fun h => by omega)
  have q3 : s3.2.1 = true ∨ 1 ≤ List.length (α := List UInt8) s3.1 := p3.imp id (fun h => by omega)
  have z0 : decide ((0 : Int) = 0) = true := rfl
  have z1 : decide ((1 : Int) = 0) = false := rfl
  have hV : auV v0 = if (waR (auA v0) && !(auE v0).2.1) = true then .tuple [.pure auK (auA v0), .int .i64 (0 : Int)] else .tuple [.pure auK auZ, .int .i64 (21 : Int)] := rfl
  rw [eA, eE] at hV
  have hO : (kRau.out (d, u)).v = auV v0 := by
    show auV (vsF d (tgI 11 4)) = _
    rw [hv0]
  rw [← hO] at hV
  have hW : waV (c0, t1, n2, k3, ()) = if waR (c0, t1, n2, k3, ()) = true then .tuple [.pure (.slice true (.int .u8)) (jnF (tgF 11 (waL (c0, t1, n2, k3, ())))), .int .i64 (0 : Int)] else .tuple [.nilsl, .int .i64 (1 : Int)] := rfl
  generalize hJ : jnF (tgF 11 (waL (c0, t1, n2, k3, ()))) = J at *
  cases hb : v0.2.1 with
  | true =>
    have hc : c0 = [] := eB hb
    rw [if_pos hb] at eX
    have hw : waR (c0, t1, n2, k3, ()) = false := by rw [hc]; rfl
    rw [hw, Bool.false_and, if_neg (by decide)] at hV
    refine Tri.at (by first | (simp only [hv0, z4, eX, hs1, ht1, hs2, hn2, hs3, hs4, hk3, Con.start, go_sem]; rfl) | rfl) ?_
    repeat (first | ((first | refine Tri.seq (Tri.regT (cfgTE1_ok.pins _) ?_) | refine Tri.rgnT (cfgTE1_ok.pins _) ?_); (repeat (first | refine RunT.oneA (hp := by simp (maxSteps := 2000000) (disch := first | decide | omega | (simp only [List.length_append, List.length_cons, List.length_nil, List.length_take, List.length_drop]; omega)) only [hv0, z4, eX, hs1, ht1, hs2, hn2, hs3, hs4, hk3, go_sem]; rfl) (h := ?_) | refine RunT.notA (h := ?_))); refine RunT.nil ?_; try simp only [InBlock, Then]) | ((first | refine Tri.seq (Tri.drwT (mixed) (cfgTE1_ok.pins _) ?_) | refine Tri.drnT (mixed) (cfgTE1_ok.pins _) ?_); (repeat (first | refine RunD.oneA (hp := by simp (maxSteps := 2000000) (disch := first | decide | omega | (simp only [List.length_append, List.length_cons, List.length_nil, List.length_take, List.length_drop]; omega)) only [hv0, z4, eX, hs1, ht1, hs2, hn2, hs3, hs4, hk3, go_sem]; rfl) (h := ?_) | refine RunD.notA (h := ?_))); refine RunD.nil ?_; refine ⟨by kernel_rfl, ?_⟩; try simp only [InBlock, Then]) | refine Tri.cF (by first | (simp only [hv0, z4, eX, hs1, ht1, hs2, hn2, hs3, hs4, hk3, go_sem]; done) | fail) ?_ | refine Tri.cT (by first | (simp only [hv0, z4, eX, hs1, ht1, hs2, hn2, hs3, hs4, hk3, go_sem]; done) | fail) ?_ | (refine Tri.skip ?_; try simp only [InBlock, Then]) | (refine Tri.exit ?_; simp only [Then, InBlock, if_true, if_false, ↓reduceIte, Nat.reduceEqDiff]) | refine Tri.seq (Tri.block ?_) | refine Tri.block ?_ | refine Tri.seq ?_ | (refine Tri.ret ?_; refine Con.fin (.inl rfl) (by simp only [Tryd.f39, cfgTE1, resA, resA1, go_sem]; rfl) (by simp only [Obs, and_true, true_and]) (by first | (simp only [kRau, Con.of, Con.ofO, resV, hv0, z4, eX, hs1, ht1, hs2, hn2, hs3, hs4, hk3, go_sem]; done) | fail) trivial rfl rfl))
    refine Tri.ret ?_
    refine Con.fin (.inl rfl) (by simp only [Tryd.f39, cfgTE1, resA, resA1, go_sem]; rfl) (by simp only [Obs, and_true, true_and]) ?_ ?_ ?_ rfl
    · exact hV.symm
    · exact True.intro
    · show (AS.mk [some (kRau.out (d, u)).v] []).closed = true
      rw [hV]; rfl
  | false =>
    rw [hb, if_neg (by decide)] at eX
    cases hw : waR (c0, t1, n2, k3, ()) with
    | false =>
      rw [hw, Bool.false_and, if_neg (by decide)] at hV
      rw [hw, if_neg (by decide)] at hW
      refine Tri.at (by first | (simp only [hv0, z4, eX, hs1, ht1, hs2, hn2, hs3, hs4, hk3, hW, z1, Con.start, go_sem]; rfl) | rfl) ?_
      repeat (first | ((first | refine Tri.seq (Tri.regT (cfgTE1_ok.pins _) ?_) | refine Tri.rgnT (cfgTE1_ok.pins _) ?_); (repeat (first | refine RunT.oneA (hp := by simp (maxSteps := 2000000) (disch := first | decide | omega | (simp only [List.length_append, List.length_cons, List.length_nil, List.length_take, List.length_drop]; omega)) only [hv0, z4, eX, hs1, ht1, hs2, hn2, hs3, hs4, hk3, hW, z1, go_sem]; rfl) (h := ?_) | refine RunT.notA (h := ?_))); refine RunT.nil ?_; try simp only [InBlock, Then]) | ((first | refine Tri.seq (Tri.drwT (mixed) (cfgTE1_ok.pins _) ?_) | refine Tri.drnT (mixed) (cfgTE1_ok.pins _) ?_); (repeat (first | refine RunD.oneA (hp := by simp (maxSteps := 2000000) (disch := first | decide | omega | (simp only [List.length_append, List.length_cons, List.length_nil, List.length_take, List.length_drop]; omega)) only [hv0, z4, eX, hs1, ht1, hs2, hn2, hs3, hs4, hk3, hW, z1, go_sem]; rfl) (h := ?_) | refine RunD.notA (h := ?_))); refine RunD.nil ?_; refine ⟨by kernel_rfl, ?_⟩; try simp only [InBlock, Then]) | refine Tri.cF (by first | (simp only [hv0, z4, eX, hs1, ht1, hs2, hn2, hs3, hs4, hk3, hW, z1, go_sem]; done) | fail) ?_ | refine Tri.cT (by first | (simp only [hv0, z4, eX, hs1, ht1, hs2, hn2, hs3, hs4, hk3, hW, z1, go_sem]; done) | fail) ?_ | (refine Tri.skip ?_; try simp only [InBlock, Then]) | (refine Tri.exit ?_; simp only [Then, InBlock, if_true, if_false, ↓reduceIte, Nat.reduceEqDiff]) | refine Tri.seq (Tri.block ?_) | refine Tri.block ?_ | refine Tri.seq ?_ | (refine Tri.ret ?_; refine Con.fin (.inl rfl) (by simp only [Tryd.f39, cfgTE1, resA, resA1, go_sem]; rfl) (by simp only [Obs, and_true, true_and]) (by first | (simp only [kRau, Con.of, Con.ofO, resV, hv0, z4, eX, hs1, ht1, hs2, hn2, hs3, hs4, hk3, hW, z1, go_sem]; done) | fail) trivial rfl rfl))
      refine Tri.ret ?_
      refine Con.fin (.inl rfl) (by simp only [Tryd.f39, cfgTE1, resA, resA1, go_sem]; rfl) (by simp only [Obs, and_true, true_and]) ?_ ?_ ?_ rfl
      · exact hV.symm
      · exact True.intro
      · show (AS.mk [some (kRau.out (d, u)).v] []).closed = true
        rw [hV]; rfl
    | true =>
      rw [hw, if_pos rfl] at hW
      rw [hw, Bool.true_and] at hV
      cases h4 : s4.2.1 with
      | true =>
        rw [h4, if_neg (by decide)] at hV
        refine Tri.at (by first | (simp only [hv0, z4, eX, hs1, ht1, hs2, hn2, hs3, hs4, hk3, hW, z0, h4, Con.start, go_sem]; rfl) | rfl) ?_
        repeat (first | ((first | refine Tri.seq (Tri.regT (cfgTE1_ok.pins _) ?_) | refine Tri.rgnT (cfgTE1_ok.pins _) ?_); (repeat (first | refine RunT.oneA (hp := by simp (maxSteps := 2000000) (disch := first | decide | omega | (simp only [List.length_append, List.length_cons, List.length_nil, List.length_take, List.length_drop]; omega)) only [hv0, z4, eX, hs1, ht1, hs2, hn2, hs3, hs4, hk3, hW, z0, h4, go_sem]; rfl) (h := ?_) | refine RunT.notA (h := ?_))); refine RunT.nil ?_; try simp only [InBlock, Then]) | ((first | refine Tri.seq (Tri.drwT (mixed) (cfgTE1_ok.pins _) ?_) | refine Tri.drnT (mixed) (cfgTE1_ok.pins _) ?_); (repeat (first | refine RunD.oneA (hp := by simp (maxSteps := 2000000) (disch := first | decide | omega | (simp only [List.length_append, List.length_cons, List.length_nil, List.length_take, List.length_drop]; omega)) only [hv0, z4, eX, hs1, ht1, hs2, hn2, hs3, hs4, hk3, hW, z0, h4, go_sem]; rfl) (h := ?_) | refine RunD.notA (h := ?_))); refine RunD.nil ?_; refine ⟨by kernel_rfl, ?_⟩; try simp only [InBlock, Then]) | refine Tri.cF (by first | (simp only [hv0, z4, eX, hs1, ht1, hs2, hn2, hs3, hs4, hk3, hW, z0, h4, go_sem]; done) | fail) ?_ | refine Tri.cT (by first | (simp only [hv0, z4, eX, hs1, ht1, hs2, hn2, hs3, hs4, hk3, hW, z0, h4, go_sem]; done) | fail) ?_ | (refine Tri.skip ?_; try simp only [InBlock, Then]) | (refine Tri.exit ?_; simp only [Then, InBlock, if_true, if_false, ↓reduceIte, Nat.reduceEqDiff]) | refine Tri.seq (Tri.block ?_) | refine Tri.block ?_ | refine Tri.seq ?_ | (refine Tri.ret ?_; refine Con.fin (.inl rfl) (by simp only [Tryd.f39, cfgTE1, resA, resA1, go_sem]; rfl) (by simp only [Obs, and_true, true_and]) (by first | (simp only [kRau, Con.of, Con.ofO, resV, hv0, z4, eX, hs1, ht1, hs2, hn2, hs3, hs4, hk3, hW, z0, h4, go_sem]; done) | fail) trivial rfl rfl))
        refine Tri.ret ?_
        refine Con.fin (.inl rfl) (by simp only [Tryd.f39, cfgTE1, resA, resA1, go_sem]; rfl) (by simp only [Obs, and_true, true_and]) ?_ ?_ ?_ rfl
        · exact hV.symm
        · exact True.intro
        · show (AS.mk [some (kRau.out (d, u)).v] []).closed = true
          rw [hV]; rfl
      | false =>
        rw [h4, if_pos (show (!false) = true from rfl)] at hV
        refine Tri.at (by first | (simp only [hv0, z4, eX, hs1, ht1, hs2, hn2, hs3, hs4, hk3, hW, z0, h4, Con.start, go_sem]; rfl) | rfl) ?_
        repeat (first | ((first | refine Tri.seq (Tri.regT (cfgTE1_ok.pins _) ?_) | refine Tri.rgnT (cfgTE1_ok.pins _) ?_); (repeat (first | refine RunT.oneA (hp := by simp (maxSteps := 2000000) (disch := first | decide | omega | (simp only [List.length_append, List.length_cons, List.length_nil, List.length_take, List.length_drop]; omega)) only [hv0, z4, eX, hs1, ht1, hs2, hn2, hs3, hs4, hk3, hW, z0, h4, go_sem]; rfl) (h := ?_) | refine RunT.notA (h := ?_))); refine RunT.nil ?_; try simp only [InBlock, Then]) | ((first | refine Tri.seq (Tri.drwT (mixed) (cfgTE1_ok.pins _) ?_) | refine Tri.drnT (mixed) (cfgTE1_ok.pins _) ?_); (repeat (first | refine RunD.oneA (hp := by simp (maxSteps := 2000000) (disch := first | decide | omega | (simp only [List.length_append, List.length_cons, List.length_nil, List.length_take, List.length_drop]; omega)) only [hv0, z4, eX, hs1, ht1, hs2, hn2, hs3, hs4, hk3, hW, z0, h4, go_sem]; rfl) (h := ?_) | refine RunD.notA (h := ?_))); refine RunD.nil ?_; refine ⟨by kernel_rfl, ?_⟩; try simp only [InBlock, Then]) | refine Tri.cF (by first | (simp only [hv0, z4, eX, hs1, ht1, hs2, hn2, hs3, hs4, hk3, hW, z0, h4, go_sem]; done) | fail) ?_ | refine Tri.cT (by first | (simp only [hv0, z4, eX, hs1, ht1, hs2, hn2, hs3, hs4, hk3, hW, z0, h4, go_sem]; done) | fail) ?_ | (refine Tri.skip ?_; try simp only [InBlock, Then]) | (refine Tri.exit ?_; simp only [Then, InBlock, if_true, if_false, ↓reduceIte, Nat.reduceEqDiff]) | refine Tri.seq (Tri.block ?_) | refine Tri.block ?_ | refine Tri.seq ?_ | (refine Tri.ret ?_; refine Con.fin (.inl rfl) (by simp only [Tryd.f39, cfgTE1, resA, resA1, go_sem]; rfl) (by simp only [Obs, and_true, true_and]) (by first | (simp only [kRau, Con.of, Con.ofO, resV, hv0, z4, eX, hs1, ht1, hs2, hn2, hs3, hs4, hk3, hW, z0, h4, go_sem]; done) | fail) trivial rfl rfl))
        refine Tri.ret ?_
        refine Con.fin (.inl rfl) (by simp only [Tryd.f39, cfgTE1, resA, resA1, go_sem]; rfl) (by simp only [Obs, and_true, true_and]) ?_ ?_ ?_ rfl
        · exact hV.symm
        · exact True.intro
        · show (AS.mk [some (kRau.out (d, u)).v] []).closed = true
          rw [hV]; rfl
theorem rda_sum : FSumOK Tryd.prog cfgTE1.G 39 kRau.sum := Con.sumOK cfgTE1_ok kRau Tryd.func39 rfl rfl (Con.of_inv _ _ _) rda_body
end
end Go.Proofs.YtjdeaphfamenaaaDoor
