/- Part of a proof: messages are written as the document says, and what was written is read again -/
import Derived.Shelf.Bytes.SlClone
import Derived.Test.YtjdeaphfamenaaaDoorP1
import Derived.Test.YtjdeaphfamenaaaDoorVc4
set_option linter.unusedVariables false
set_option linter.unusedSimpArgs false
set_option linter.unusedSectionVars false
namespace Go.Proofs
open Go.Shelf
def Tryd.laysSlK4_ren : Go.Shelf.Ren := ⟨fun | 4 => 96 | n => n, fun | 22 => 47 | 4 => 4 | 5 => 5 | n => n, fun | n => n⟩
theorem Tryd.laysSlK4 : Go.Proofs.SlLaysK.n4 Tryd.prog Tryd.laysSlK4_ren := {
  mixed := by kernel_rfl
  f4 := Tryd.func96.trans (congrArg some (by kernel_rfl))
  t4 := Tryd.underlying4
  a4 := Tryd.isAgg4
  z4 := Tryd.sizeOf4
  v4 := Tryd.zeroValue4
  t22 := Tryd.underlying47
  a22 := Tryd.isAgg47
  z22 := Tryd.sizeOf47
  v22 := Tryd.zeroValue47
  t5 := Tryd.underlying5
  i5 := by kernel_rfl }
end Go.Proofs
namespace Go.Proofs.YtjdeaphfamenaaaDoor
open Go.Vc Go.Proofs
set_option maxRecDepth 10000
set_option maxHeartbeats 4000000
def kClo : Con := Con.ofO [.a (.v (.slice false (.int .u8)))] [] (fun x => [List.length (α := UInt8) x.1 ≤ 140737488355328]) (fun x => ⟨.pure (.slice true (.int .u8)) x.1, []⟩)
theorem clo_sum : FSumOK Tryd.prog gNone 96 kClo.sum := by
  refine Con.sumOKn kClo Tryd.func96 rfl rfl (Con.ofO_inv _ _ _ _) rfl ?_
  rintro ⟨(xs : List UInt8), u⟩ hp
  obtain ⟨h0, _⟩ := Obs.of hp
  replace h0 : xs.length ≤ 140737488355328 := h0
  refine ⟨rfl, rfl, fun x w V hx hV => ?_⟩
  have hV' : RVs x [.pure (.slice false (.int .u8)) xs] V := hV
  clear hV
  cases hV' with
  | cons _ _ X1 _ h2 hr =>
    cases hr
    obtain ⟨A, cap, e1, h4, h5⟩ := h2.slice_inv
    injection e1 with e1 _
    subst e1
    have hlast : ∀ (e : Ending) (w' : World) (v' : Value), e = .returned v' → w'.ownsRow w.heap.size 5 1 v' xs.length (xs.map fun b => Value.int .u8 (UInt8.toNat b : Int)) → RowKit.Below w.heap.size w w' →
        ∃ X, e = .returned X ∧ RowKit.Below w.heap.size w w' ∧ ∀ x' : Ctx, x'.hp = (fun b => w'.heap[b]?) → (∀ own b, w.heap.size ≤ b → x'.ok own b) → RV x' (.pure (.slice true (.int .u8)) xs) X := by
      intro e w' v' he hown hb
      refine ⟨v', he, hb, fun x' hx' hok => ?_⟩
      obtain ⟨_, h | ⟨g, cp, cur, hv, hg, hh, hn, _, hsz, htk⟩⟩ := hown
      · have hx0 : xs = [] := List.eq_nil_of_length_eq_zero h.2
        subst hx0
        rw [h.1]
        exact .one _ _ rfl (.pure _ _ _ ⟨none, 0, rfl, Nat.le_refl _, .inl rfl⟩)
      · rw [hv]
        refine .one _ _ rfl (.pure _ _ _ ⟨_, cp, rfl, hn, .inr ⟨g, 0, cur, 5, (0, 0), _, rfl, hok true g hg, by rw [hx']; exact hh, RL.u8s xs, ?_⟩⟩)
        rw [List.drop_zero, List.length_map]
        rw [Nat.mul_one] at htk
        exact htk
    cases A with
    | none =>
      have hx0 : xs = [] := by
        rcases h5 with h5 | ⟨b, o, rc, el, fr, flat, h6, _⟩
        · exact h5
        · cases h6
      subst hx0
      exact (Any.bytes_Clone_nil (P := Tryd.prog) Tryd.laysSlK4 0 cap w).mono fun e w' ⟨h, hw⟩ => hlast e w' _ h ⟨rfl, .inl ⟨rfl, rfl⟩⟩ (hw ▸ RowKit.Below.refl _ _)
    | some a =>
      have hcl := Any.bytes_Clone_at (P := Tryd.prog) Tryd.laysSlK4 a xs.length cap (xs.map fun b => (UInt8.toNat b : Int)) w (by rw [List.length_map]) h0 (fun i hi => by
        rcases h5 with h5 | ⟨b, o, rc, el, fr, flat, h6, _, h7, h8, h9⟩
        · have : xs = [] := h5
          subst this
          simp at hi
        · injection h6 with h6
          subst h6
          have hfl := Reads.u8s h8
          rw [hx] at h7
          have h7' : w.heap[b]? = some (.cells rc el fr) := h7
          have hj1 : flat[i]? = some (.int .u8 (UInt8.toNat (xs[i]) : Int)) := by rw [hfl, List.getElem?_map, List.getElem?_eq_getElem hi]; rfl
          have hjl : i < flat.length := (List.getElem?_eq_some_iff.1 hj1).1
          rw [← h9, List.getElem?_take, if_pos hjl, List.getElem?_drop, Array.getElem?_toList] at hj1
          have hadd : (⟨b, o, none⟩ : Addr).add i = ⟨b, o + i, none⟩ := by
            by_cases hi0 : i = 0
            · subst hi0; rfl
            · simp [Addr.add, hi0]
          rw [hadd]
          simp only [World.cell?, h7', Option.isSome_none, Bool.false_eq_true, if_false]
          rw [hj1, List.getD_eq_getElem?_getD, List.getElem?_map, List.getElem?_eq_getElem hi]
          rfl)
      refine hcl.mono fun e w' ⟨v', he, hown, _, hb⟩ => hlast e w' v' he ?_ hb
      rw [List.map_map] at hown
      exact hown
def kNumP : Con := Con.of [.v (.int .u64)] (fun _ => []) (fun x => ⟨.pure (.slice true (.int .u8)) (numS x.1), []⟩)
section
attribute [local go_sem] Tryd.f60 kNumP kRev cfgR2 tyTab
theorem numP_body (p : kNumP.Par) (hp : ∀ q ∈ kNumP.pre p, q) : BodyOK Tryd.prog cfgR2 Tryd.f60 (Tryd.f60.body.get rfl) kNumP p := by
  obtain ⟨(n0 : UInt64), u⟩ := p
  refine ⟨?_, Nat.zero_le _, rfl, rfl⟩
  show Tri _ _ _ (Code.seq _ (Code.seq (Code.block _ (Code.loop (Code.seq (Code.seq _ (Code.cond _ _ _)) (Code.seq (Code.block _ _) _)))) (Code.seq _ (Code.seq _ _)))) _
  refine Tri.at (by first | (simp only [Con.start, go_sem]; rfl) | rfl) ?_
  repeat (first | ((first | refine Tri.seq (Tri.regT (cfgR2_ok.pins _) ?_) | refine Tri.rgnT (cfgR2_ok.pins _) ?_); (repeat (first | refine RunT.oneA (hp := by simp (maxSteps := 2000000) (disch := first | decide | omega | (simp only [List.length_append, List.length_cons, List.length_nil, List.length_take, List.length_drop]; omega)) only [go_sem]; rfl) (h := ?_) | refine RunT.notA (h := ?_))); refine RunT.nil ?_; try simp only [InBlock, Then]) | ((first | refine Tri.seq (Tri.drwT (mixed) (cfgR2_ok.pins _) ?_) | refine Tri.drnT (mixed) (cfgR2_ok.pins _) ?_); (repeat (first | refine RunD.oneA (hp := by simp (maxSteps := 2000000) (disch := first | decide | omega | (simp only [List.length_append, List.length_cons, List.length_nil, List.length_take, List.length_drop]; omega)) only [List.take_of_length_le, go_sem]; rfl) (h := ?_) | refine RunD.notA (h := ?_))); refine RunD.nil ?_; refine ⟨by kernel_rfl, ?_⟩; try simp only [InBlock, Then]) | refine Tri.cF (by first | (simp only [go_sem]; done) | fail) ?_ | refine Tri.cT (by first | (simp only [go_sem]; done) | fail) ?_ | (refine Tri.skip ?_; try simp only [InBlock, Then]) | (refine Tri.exit ?_; simp only [Then, InBlock, if_true, if_false, ↓reduceIte, Nat.reduceEqDiff]) | refine Tri.seq (Tri.block ?_) | refine Tri.block ?_ | refine Tri.seq ?_ | (refine Tri.ret ?_; refine Con.fin (.inl rfl) (by simp only [Tryd.f60, cfgR2, resA, resA1, go_sem]; rfl) (by simp only [Obs, and_true, true_and]) (by first | (simp only [kNumP, Con.of, Con.ofO, resV, List.take_of_length_le, go_sem]; done) | fail) trivial rfl rfl))
  refine Tri.phT 2 (.int .u8) 1 rfl rfl ?_
  refine Tri.loop (fun s : UInt64 × List UInt8 => (⟨[some (.int .u64 s.1), none, some (.tsl 0 [] 0 0 1 s.2.length)] ++ List.replicate 12 none, [.live (.pure (.arr s.2.length (.int .u8)) s.2)]⟩ : AS)) (fun s => s.2.length ≤ 8 ∧ s.1.toNat < 256 ^ (8 - s.2.length) ∧ s.2 ++ leN (8 - s.2.length) s.1 = leN 8 n0) (fun s => 8 - s.2.length) (n0, []) ?_ ⟨Nat.zero_le _, UInt64.toNat_lt n0, rfl⟩ ?_
  · refine Wk.of ?_ ?_ rfl rfl
    · simp only [List.reduceReplicate, List.cons_append, List.nil_append, List.length_nil] <;> ((repeat' apply And.intro) <;> first | with_reducible rfl | exact True.intro | exact congrArg (fun z : Int => some (AV.int IntKind.i64 z)) (show (_ : Int) = _ by omega) | exact congrArg (fun z : Nat => some (AV.tsl _ _ _ _ _ z)) (show (_ : Nat) = _ by omega) | exact arrEq (by omega) (by with_reducible rfl))
    · simp only [List.length_nil] <;> ((repeat' apply And.intro) <;> first | with_reducible rfl | exact True.intro | exact congrArg (fun z : Int => some (AV.int IntKind.i64 z)) (show (_ : Int) = _ by omega) | exact congrArg (fun z : Nat => some (AV.tsl _ _ _ _ _ z)) (show (_ : Nat) = _ by omega) | exact arrEq (by omega) (by with_reducible rfl))
  · intro ⟨n, acc⟩ ⟨ha, hn, he⟩
    replace ha : acc.length ≤ 8 := ha
    replace hn : n.toNat < 256 ^ (8 - acc.length) := hn
    replace he : acc ++ leN (8 - acc.length) n = leN 8 n0 := he
    have htk : List.take acc.length acc = acc := List.take_length
    by_cases hz : n = 0
    · have hz' : decide ((0 : UInt64) < n) = false := by rw [hz]; rfl
      have hl : leN (8 - acc.length) n = [] := by
        subst hz
        cases 8 - acc.length <;> rfl
      rw [hl, List.append_nil] at he
      subst he
      refine Tri.at (by first | (simp only [go_sem]; rfl) | rfl) ?_
      repeat (first | ((first | refine Tri.seq (Tri.regT (cfgR2_ok.pins _) ?_) | refine Tri.rgnT (cfgR2_ok.pins _) ?_); (repeat (first | refine RunT.oneA (hp := by simp (maxSteps := 2000000) (disch := first | decide | omega | (simp only [List.length_append, List.length_cons, List.length_nil, List.length_take, List.length_drop]; omega)) only [hz', go_sem]; rfl) (h := ?_) | refine RunT.notA (h := ?_))); refine RunT.nil ?_; try simp only []) | ((first | refine Tri.seq (Tri.drwT (mixed) (cfgR2_ok.pins _) ?_) | refine Tri.drnT (mixed) (cfgR2_ok.pins _) ?_); (repeat (first | refine RunD.oneA (hp := by simp (maxSteps := 2000000) (disch := first | decide | omega | (simp only [List.length_append, List.length_cons, List.length_nil, List.length_take, List.length_drop]; omega)) only [hz', htk, go_sem]; rfl) (h := ?_) | refine RunD.notA (h := ?_))); refine RunD.nil ?_; refine ⟨by kernel_rfl, ?_⟩; try simp only [InBlock, Then]) | refine Tri.cF (by first | (simp only [go_sem]; done) | fail) ?_ | refine Tri.cT (by first | (simp only [go_sem]; done) | fail) ?_ | (refine Tri.skip ?_; try simp only [InBlock, Then]) | (refine Tri.exit ?_; simp only [Then, InBlock, ↓reduceIte]) | refine Tri.seq (Tri.block ?_) | refine Tri.block ?_ | refine Tri.seq ?_ | (refine Tri.ret ?_; refine Con.fin (.inl rfl) (by simp only [Tryd.f60, cfgR2, resA, resA1, go_sem]; rfl) (by simp only [Obs]) (by first | (simp only [kNumP, Con.of, resV, go_sem]; done) | fail) trivial rfl rfl))
      have hrl : List.take (leN 8 n0).length (leN 8 n0).reverse = (leN 8 n0).reverse := List.take_of_length_le (by rw [List.length_reverse]; exact Nat.le_refl _)
      refine Tri.rel true 0 rfl ?_ rfl rfl ?_
      · simp only [go_sem]
        repeat' constructor
      refine Tri.at (by first | (simp only [hrl, go_sem]; rfl) | rfl) ?_
      refine Tri.ret ?_
      refine Con.fin (.inl rfl) (by simp only [Tryd.f60, cfgR2, resA, resA1, go_sem]; rfl) (by simp only [Obs]) ?_ ?_ rfl rfl
      · rfl
      · exact True.intro
    · have hz' : decide ((0 : UInt64) < n) = true := by
        refine decide_eq_true ?_
        rw [UInt64.lt_iff_toNat_lt]
        have : n.toNat ≠ 0 := fun e => hz (UInt64.toNat_inj.1 e)
        show 0 < n.toNat
        omega
      obtain ⟨k, hk⟩ : ∃ k, 8 - acc.length = k + 1 := by
        cases h8 : 8 - acc.length with
        | zero => rw [h8] at hn; have : n.toNat = 0 := by simpa using hn
                  exact absurd (UInt64.toNat_inj.1 this) hz
        | succ k => exact ⟨k, rfl⟩
      refine Tri.at (by first | (simp only [go_sem]; rfl) | rfl) ?_
      repeat (first | ((first | refine Tri.seq (Tri.regT (cfgR2_ok.pins _) ?_) | refine Tri.rgnT (cfgR2_ok.pins _) ?_); (repeat (first | refine RunT.oneA (hp := by simp (maxSteps := 2000000) (disch := first | decide | omega | (simp only [List.length_append, List.length_cons, List.length_nil, List.length_take, List.length_drop]; omega)) only [hz', htk, go_sem]; rfl) (h := ?_) | refine RunT.notA (h := ?_))); refine RunT.nil ?_; try simp only [InBlock, Then]) | ((first | refine Tri.seq (Tri.drwT (mixed) (cfgR2_ok.pins _) ?_) | refine Tri.drnT (mixed) (cfgR2_ok.pins _) ?_); (repeat (first | refine RunD.oneA (hp := by simp (maxSteps := 2000000) (disch := first | decide | omega | (simp only [List.length_append, List.length_cons, List.length_nil, List.length_take, List.length_drop]; omega)) only [hz', htk, go_sem]; rfl) (h := ?_) | refine RunD.notA (h := ?_))); refine RunD.nil ?_; refine ⟨by kernel_rfl, ?_⟩; try simp only [InBlock, Then]) | refine Tri.cF (by first | (simp only [go_sem]; done) | fail) ?_ | refine Tri.cT (by first | (simp only [go_sem]; done) | fail) ?_ | (refine Tri.skip ?_; try simp only [Then]) | (refine Tri.exit ?_; simp only [Then, InBlock, if_true, if_false, ↓reduceIte, Nat.reduceEqDiff]) | refine Tri.seq (Tri.block ?_) | refine Tri.block ?_ | refine Tri.seq ?_ | (refine Tri.ret ?_; refine Con.fin (.inl rfl) (by simp only [Tryd.f60, cfgR2, resA, resA1, go_sem]; rfl) (by simp only [Obs, and_true, true_and]) (by first | (simp only [kNumP, Con.of, Con.ofO, resV, hz', htk, go_sem]; done) | fail) trivial rfl rfl))
      have h8 : 8 - (acc ++ [n.toUInt8]).length = k := by rw [List.length_append]; simp; omega
      refine ⟨(n >>> 8, acc ++ [n.toUInt8]), ⟨?_, ?_, ?_⟩, ?_, Wk.of ?_ ?_ rfl rfl⟩
      · rw [List.length_append]; simp; omega
      · show (n >>> 8).toNat < 256 ^ (8 - (acc ++ [n.toUInt8]).length)
        rw [h8]
        rw [hk] at hn
        exact shr8_lt hn
      · show (acc ++ [n.toUInt8]) ++ leN (8 - (acc ++ [n.toUInt8]).length) (n >>> 8) = _
        rw [h8, ← he, hk]
        conv => rhs; unfold leN
        rw [if_neg hz]
        simp
      · show 8 - (acc ++ [n.toUInt8]).length < 8 - acc.length
        omega
      · simp only [lessTs, List.reduceReplicate, List.cons_append, List.nil_append, List.length_append, List.length_cons, List.length_nil] <;> ((repeat' apply And.intro) <;> first | with_reducible rfl | exact True.intro | exact congrArg (fun z : Int => some (AV.int IntKind.i64 z)) (show (_ : Int) = _ by omega) | exact congrArg (fun z : Nat => some (AV.tsl _ _ _ _ _ z)) (show (_ : Nat) = _ by omega) | exact arrEq (by omega) (by with_reducible rfl))
      · exact ⟨arrEq (by simp) rfl, trivial⟩
theorem numP_sum : FSumOK Tryd.prog cfgR2.G 60 kNumP.sum := Con.sumOK cfgR2_ok kNumP Tryd.func60 rfl rfl (Con.of_inv _ _ _) numP_body
end
def kBEq : Con := Con.of [.v (.slice false (.int .u8)), .v (.slice false (.int .u8))] (fun _ => []) (fun x => ⟨.bool (strEq x.1 x.2.1), []⟩)
def cfgK0 : Cfg2 := { ty := tyTab, fn := fun  | _ => none, G := gNone, pin := [], eq := fun _ => none }
theorem cfgK0_ok : CfgOK Tryd.prog cfgK0 := ⟨tysOK, (fun f s h => by cases h), (fun t d h => by cases h)⟩
section
attribute [local go_sem] Tryd.f105 kBEq cfgK0 tyTab
theorem beq_body (p : kBEq.Par) (hp : ∀ q ∈ kBEq.pre p, q) : BodyOK Tryd.prog cfgK0 Tryd.f105 (Tryd.f105.body.get rfl) kBEq p := by
  obtain ⟨(a : List UInt8), (b : List UInt8), u⟩ := p
  refine ⟨?_, Nat.zero_le _, rfl, rfl⟩
  show Tri _ _ _ (Code.seq _ (Code.seq _ _)) _
  refine Tri.at (by first | (simp only [go_sem, Con.start, go_sem]; rfl) | rfl) ?_
  repeat (first | ((first | refine Tri.seq (Tri.regT (cfgK0_ok.pins _) ?_) | refine Tri.rgnT (cfgK0_ok.pins _) ?_); (repeat (first | refine RunT.oneA (hp := by simp (maxSteps := 2000000) (disch := first | decide | omega | (simp only [List.length_append, List.length_cons, List.length_nil, List.length_take, List.length_drop]; omega)) only [go_sem, go_sem]; rfl) (h := ?_) | refine RunT.notA (h := ?_))); refine RunT.nil ?_; try simp only [InBlock, Then]) | refine Tri.cF (by first | (simp only [go_sem, go_sem]; done) | fail) ?_ | refine Tri.cT (by first | (simp only [go_sem, go_sem]; done) | fail) ?_ | (refine Tri.skip ?_; try simp only [InBlock, Then]) | (refine Tri.exit ?_; simp only [Then, InBlock, if_true, if_false, ↓reduceIte, Nat.reduceEqDiff]) | refine Tri.seq (Tri.block ?_) | refine Tri.block ?_ | refine Tri.seq ?_ | (refine Tri.ret ?_; refine Con.fin (.inl rfl) (by simp only [Tryd.f105, cfgK0, resA, resA1, go_sem]; rfl) (by simp only [Obs]) (by first | (simp only [kBEq, Con.of, resV, go_sem, go_sem]; done) | fail) trivial rfl rfl))
theorem beq_sum : FSumOK Tryd.prog cfgK0.G 105 kBEq.sum := Con.sumOK cfgK0_ok kBEq Tryd.func105 rfl rfl (Con.of_inv _ _ _) beq_body
end
end Go.Proofs.YtjdeaphfamenaaaDoor

namespace Go.Proofs.YtjdeaphfamenaaaDoor
open Go.Vc Go.Proofs
set_option maxRecDepth 10000
set_option maxHeartbeats 4000000
def rdI (b : List UInt8) : Nat → UInt64
  | 0 => 0
  | i + 1 => (rdI b i <<< 8) ||| (b.getD i 0).toUInt64
def rdB (b : List UInt8) : Bool := !(decide ((8 : Int) < (b.length : Int)) || (decide ((0 : Int) < (b.length : Int)) && decide (b.getD 0 0 = 0)))
def rdU (b : List UInt8) : UInt64 := if rdB b = true then rdI b b.length else 0
def kRd : Con := Con.of [.v (.slice false (.int .u8))] (fun x => [List.length (α := UInt8) x.1 ≤ 9223372036854775807]) (fun x => ⟨.tuple [.int .u64 (rdU x.1), .bool (rdB x.1)], []⟩)
def cfgKB0 : Cfg2 := { ty := tyTab, fn := fun  | _ => none, G := gNone, pin := [], eq := fun _ => none }
theorem cfgKB0_ok : CfgOK Tryd.prog cfgKB0 := ⟨tysOK, (fun f s h => by cases h), (fun t d h => by cases h)⟩
section
attribute [local go_sem] Tryd.f94 kRd cfgKB0 tyTab
theorem trd_body (p : kRd.Par) (hp : ∀ q ∈ kRd.pre p, q) : BodyOK Tryd.prog cfgKB0 Tryd.f94 (Tryd.f94.body.get rfl) kRd p := by
  obtain ⟨(b : List UInt8), u⟩ := p
  obtain ⟨h0, _⟩ := Obs.of hp
  replace h0 : b.length ≤ 9223372036854775807 := h0
  refine ⟨?_, Nat.zero_le _, rfl, rfl⟩
  show Tri _ _ _ (Code.seq _ (Code.seq (Code.seq _ (Code.cond _ (Code.seq _ _) _)) (Code.seq (Code.seq _ (Code.block _ (Code.loop (Code.seq _ (Code.seq (Code.cond _ _ _) (Code.seq (Code.block _ (Code.seq _ _)) _)))))) (Code.seq _ _)))) _
  cases b1 : decide ((8 : Int) < (b.length : Int)) with
  | true =>
    have e1 : rdB b = false := by rw [rdB, b1]; rfl
    have e2 : rdU b = 0 := by rw [rdU, e1]; rfl
    refine Tri.at (by first | (simp only [Con.start, go_sem]; rfl) | rfl) ?_
    repeat (first | ((first | refine Tri.seq (Tri.regT (cfgKB0_ok.pins _) ?_) | refine Tri.rgnT (cfgKB0_ok.pins _) ?_); (repeat (first | refine RunT.oneA (hp := by simp (maxSteps := 2000000) (disch := first | decide | omega | (simp only [List.length_append, List.length_cons, List.length_nil, List.length_take, List.length_drop]; omega)) only [b1, go_sem]; rfl) (h := ?_) | refine RunT.notA (h := ?_))); refine RunT.nil ?_; try simp only [InBlock, Then]) | refine Tri.cF (by first | (simp only [go_sem]; done) | fail) ?_ | refine Tri.cT (by first | (simp only [go_sem]; done) | fail) ?_ | (refine Tri.skip ?_; try simp only [InBlock, Then]) | (refine Tri.exit ?_; simp only [Then, InBlock, if_true, if_false, ↓reduceIte, Nat.reduceEqDiff]) | refine Tri.seq (Tri.block ?_) | refine Tri.block ?_ | refine Tri.seq ?_ | (refine Tri.ret ?_; refine Con.fin (.inl rfl) (by simp only [Tryd.f94, cfgKB0, resA, resA1, go_sem]; rfl) (by simp only [Obs]) (by first | (simp only [kRd, Con.of, resV, e1, e2, go_sem]; done) | fail) trivial rfl rfl))
  | false =>
  cases b2 : decide ((0 : Int) < (b.length : Int)) && decide (b.getD 0 0 = 0) with
  | true =>
    have b2' := b2
    rw [Bool.and_eq_true] at b2'
    obtain ⟨b3, b4⟩ := b2'
    have hpos : 0 < b.length := by have := of_decide_eq_true b3; omega
    have e1 : rdB b = false := by rw [rdB, b1, b2]; rfl
    have e2 : rdU b = 0 := by rw [rdU, e1]; rfl
    refine Tri.at (by first | (simp only [Con.start, go_sem]; rfl) | rfl) ?_
    repeat (first | ((first | refine Tri.seq (Tri.regT (cfgKB0_ok.pins _) ?_) | refine Tri.rgnT (cfgKB0_ok.pins _) ?_); (repeat (first | refine RunT.oneA (hp := by simp (maxSteps := 2000000) (disch := first | decide | omega | (simp only [List.length_append, List.length_cons, List.length_nil, List.length_take, List.length_drop]; omega)) only [b1, b3, b4, go_sem]; rfl) (h := ?_) | refine RunT.notA (h := ?_))); refine RunT.nil ?_; try simp only [InBlock, Then]) | refine Tri.cF (by first | (simp only [go_sem]; done) | fail) ?_ | refine Tri.cT (by first | (simp only [go_sem]; done) | fail) ?_ | (refine Tri.skip ?_; try simp only [InBlock, Then]) | (refine Tri.exit ?_; simp only [Then, InBlock, if_true, if_false, ↓reduceIte, Nat.reduceEqDiff]) | refine Tri.seq (Tri.block ?_) | refine Tri.block ?_ | refine Tri.seq ?_ | (refine Tri.ret ?_; refine Con.fin (.inl rfl) (by simp only [Tryd.f94, cfgKB0, resA, resA1, go_sem]; rfl) (by simp only [Obs]) (by first | (simp only [kRd, Con.of, resV, e1, e2, go_sem]; done) | fail) trivial rfl rfl))
  | false =>
    have e1 : rdB b = true := by rw [rdB, b1, b2]; rfl
    have e2 : rdU b = rdI b b.length := by rw [rdU, if_pos e1]
    cases b3 : decide ((0 : Int) < (b.length : Int))
    · have hz : b.length = 0 := by have := of_decide_eq_false b3; omega
      refine Tri.at (by first | (simp only [Con.start, go_sem]; rfl) | rfl) ?_
      repeat (first | ((first | refine Tri.seq (Tri.regT (cfgKB0_ok.pins _) ?_) | refine Tri.rgnT (cfgKB0_ok.pins _) ?_); (repeat (first | refine RunT.oneA (hp := by simp (maxSteps := 2000000) (disch := first | decide | omega | (simp only [List.length_append, List.length_cons, List.length_nil, List.length_take, List.length_drop]; omega)) only [b1, b3, go_sem]; rfl) (h := ?_) | refine RunT.notA (h := ?_))); refine RunT.nil ?_; try simp only [InBlock, Then]) | refine Tri.cF (by first | (simp only [go_sem]; done) | fail) ?_ | refine Tri.cT (by first | (simp only [go_sem]; done) | fail) ?_ | (refine Tri.skip ?_; try simp only [Then]) | (refine Tri.exit ?_; simp only [Then, InBlock, if_true, if_false, ↓reduceIte, Nat.reduceEqDiff]) | refine Tri.seq (Tri.block ?_) | refine Tri.block ?_ | refine Tri.seq ?_ | (refine Tri.ret ?_; refine Con.fin (.inl rfl) (by simp only [Tryd.f94, cfgKB0, resA, resA1, go_sem]; rfl) (by simp only [Obs, and_true, true_and]) (by first | (simp only [kRd, Con.of, Con.ofO, resV, b1, b3, go_sem]; done) | fail) trivial rfl rfl))
      have hb0 : b = [] := List.eq_nil_of_length_eq_zero hz
      subst hb0
      refine Tri.loop (fun i : Nat => (⟨[some (.pure (.slice false (.int .u8)) []), none, some (.int .u64 (0 : UInt64)), none, none, none, none, none, none, none, none, none, none, none, none, none, none, none, none, none, some (.pure (.slice false (.int .u8)) []), some (.int .i64 (0 : Int)), some (.int .i64 (0 : Int))] ++ List.replicate 10 none, []⟩ : AS)) (fun i => True) (fun i => 0) 0 ?_ True.intro ?_
      · refine Wk.of ?_ ?_ rfl rfl
        · simp only [lessTs, List.reduceReplicate, List.cons_append, List.nil_append, List.length_nil] <;> ((repeat' apply And.intro) <;> first | with_reducible rfl | exact True.intro | exact congrArg (fun z : Int => some (AV.int IntKind.i64 z)) (show (_ : Int) = _ by omega) | exact congrArg (fun z : Nat => some (AV.tsl _ _ _ _ _ z)) (show (_ : Nat) = _ by omega) | exact arrEq (by omega) (by with_reducible rfl))
        · simp only [lessHs] <;> ((repeat' apply And.intro) <;> first | with_reducible rfl | exact True.intro | exact congrArg (fun z : Int => some (AV.int IntKind.i64 z)) (show (_ : Int) = _ by omega) | exact congrArg (fun z : Nat => some (AV.tsl _ _ _ _ _ z)) (show (_ : Nat) = _ by omega) | exact arrEq (by omega) (by with_reducible rfl))
      · intro i _
        have z1 : decide ((0 : Int) < 0) = false := rfl
        refine Tri.at (by first | (simp only [go_sem]; rfl) | rfl) ?_
        repeat (first | ((first | refine Tri.seq (Tri.regT (cfgKB0_ok.pins _) ?_) | refine Tri.rgnT (cfgKB0_ok.pins _) ?_); (repeat (first | refine RunT.oneA (hp := by simp (maxSteps := 2000000) (disch := first | decide | omega | (simp only [List.length_append, List.length_cons, List.length_nil, List.length_take, List.length_drop]; omega)) only [go_sem]; rfl) (h := ?_) | refine RunT.notA (h := ?_))); refine RunT.nil ?_; try simp only [InBlock, Then]) | refine Tri.cF (by first | (simp only [go_sem]; done) | fail) ?_ | refine Tri.cT (by first | (simp only [go_sem]; done) | fail) ?_ | (refine Tri.skip ?_; try simp only [InBlock, Then]) | (refine Tri.exit ?_; simp only [Then, InBlock, ↓reduceIte]) | refine Tri.seq (Tri.block ?_) | refine Tri.block ?_ | refine Tri.seq ?_ | (refine Tri.ret ?_; refine Con.fin (.inl rfl) (by simp only [Tryd.f94, cfgKB0, resA, resA1, go_sem]; rfl) (by simp only [Obs]) (by first | (simp only [kRd, Con.of, resV, e1, e2, List.length_nil, rdI, go_sem]; done) | fail) trivial rfl rfl))
    · have hpos : 0 < b.length := by have := of_decide_eq_true b3; omega
      have b4 : decide (b.getD 0 0 = 0) = false := by rw [b3] at b2; simpa using b2
      refine Tri.at (by first | (simp only [Con.start, go_sem]; rfl) | rfl) ?_
      repeat (first | ((first | refine Tri.seq (Tri.regT (cfgKB0_ok.pins _) ?_) | refine Tri.rgnT (cfgKB0_ok.pins _) ?_); (repeat (first | refine RunT.oneA (hp := by simp (maxSteps := 2000000) (disch := first | decide | omega | (simp only [List.length_append, List.length_cons, List.length_nil, List.length_take, List.length_drop]; omega)) only [b1, b3, b4, go_sem]; rfl) (h := ?_) | refine RunT.notA (h := ?_))); refine RunT.nil ?_; try simp only [InBlock, Then]) | refine Tri.cF (by first | (simp only [go_sem]; done) | fail) ?_ | refine Tri.cT (by first | (simp only [go_sem]; done) | fail) ?_ | (refine Tri.skip ?_; try simp only [Then]) | (refine Tri.exit ?_; simp only [Then, InBlock, if_true, if_false, ↓reduceIte, Nat.reduceEqDiff]) | refine Tri.seq (Tri.block ?_) | refine Tri.block ?_ | refine Tri.seq ?_ | (refine Tri.ret ?_; refine Con.fin (.inl rfl) (by simp only [Tryd.f94, cfgKB0, resA, resA1, go_sem]; rfl) (by simp only [Obs, and_true, true_and]) (by first | (simp only [kRd, Con.of, Con.ofO, resV, b1, b3, b4, go_sem]; done) | fail) trivial rfl rfl))
      refine Tri.loop (fun i : Nat => (⟨[some (.pure (.slice false (.int .u8)) b), none, some (.int .u64 (rdI b i)), none, none, none, none, none, none, none, none, none, none, none, none, none, none, none, none, none, some (.pure (.slice false (.int .u8)) b), some (.int .i64 (b.length : Int)), some (.int .i64 (i : Int))] ++ List.replicate 10 none, []⟩ : AS)) (fun i => i ≤ b.length) (fun i => b.length - i) 0 ?_ (Nat.zero_le _) ?_
      · refine Wk.of ?_ ?_ rfl rfl
        · simp only [lessTs, List.reduceReplicate, List.cons_append, List.nil_append, rdI] <;> ((repeat' apply And.intro) <;> first | with_reducible rfl | exact True.intro | exact congrArg (fun z : Int => some (AV.int IntKind.i64 z)) (show (_ : Int) = _ by omega) | exact congrArg (fun z : Nat => some (AV.tsl _ _ _ _ _ z)) (show (_ : Nat) = _ by omega) | exact arrEq (by omega) (by with_reducible rfl))
        · simp only [lessHs] <;> ((repeat' apply And.intro) <;> first | with_reducible rfl | exact True.intro | exact congrArg (fun z : Int => some (AV.int IntKind.i64 z)) (show (_ : Int) = _ by omega) | exact congrArg (fun z : Nat => some (AV.tsl _ _ _ _ _ z)) (show (_ : Nat) = _ by omega) | exact arrEq (by omega) (by with_reducible rfl))
      · intro i hi
        by_cases h1 : i < b.length
        · have h1' : decide ((i : Int) < (b.length : Int)) = true := decide_eq_true (by omega)
          have hrd : rdI b (i + 1) = (rdI b i <<< 8) ||| (b.getD i 0).toUInt64 := rfl
          refine Tri.at (by first | (simp only [go_sem]; rfl) | rfl) ?_
          repeat (first | ((first | refine Tri.seq (Tri.regT (cfgKB0_ok.pins _) ?_) | refine Tri.rgnT (cfgKB0_ok.pins _) ?_); (repeat (first | refine RunT.oneA (hp := by simp (maxSteps := 2000000) (disch := first | decide | omega | (simp only [List.length_append, List.length_cons, List.length_nil, List.length_take, List.length_drop]; omega)) only [h1', go_sem]; rfl) (h := ?_) | refine RunT.notA (h := ?_))); refine RunT.nil ?_; try simp only [InBlock, Then]) | refine Tri.cF (by first | (simp only [go_sem]; done) | fail) ?_ | refine Tri.cT (by first | (simp only [go_sem]; done) | fail) ?_ | (refine Tri.skip ?_; try simp only [Then]) | (refine Tri.exit ?_; simp only [Then, InBlock, if_true, if_false, ↓reduceIte, Nat.reduceEqDiff]) | refine Tri.seq (Tri.block ?_) | refine Tri.block ?_ | refine Tri.seq ?_ | (refine Tri.ret ?_; refine Con.fin (.inl rfl) (by simp only [Tryd.f94, cfgKB0, resA, resA1, go_sem]; rfl) (by simp only [Obs, and_true, true_and]) (by first | (simp only [kRd, Con.of, Con.ofO, resV, h1', go_sem]; done) | fail) trivial rfl rfl))
          refine ⟨i + 1, (by omega), (by omega), Wk.of ?_ ?_ rfl rfl⟩
          · simp only [lessTs, List.reduceReplicate, List.cons_append, List.nil_append, hrd] <;> ((repeat' apply And.intro) <;> first | with_reducible rfl | exact True.intro | exact congrArg (fun z : Int => some (AV.int IntKind.i64 z)) (show (_ : Int) = _ by omega) | exact congrArg (fun z : Nat => some (AV.tsl _ _ _ _ _ z)) (show (_ : Nat) = _ by omega) | exact arrEq (by omega) (by with_reducible rfl))
          · trivial
        · have h1' : decide ((i : Int) < (b.length : Int)) = false := decide_eq_false (by omega)
          have hib : i = b.length := by omega
          subst hib
          refine Tri.at (by first | (simp only [go_sem]; rfl) | rfl) ?_
          repeat (first | ((first | refine Tri.seq (Tri.regT (cfgKB0_ok.pins _) ?_) | refine Tri.rgnT (cfgKB0_ok.pins _) ?_); (repeat (first | refine RunT.oneA (hp := by simp (maxSteps := 2000000) (disch := first | decide | omega | (simp only [List.length_append, List.length_cons, List.length_nil, List.length_take, List.length_drop]; omega)) only [h1', go_sem]; rfl) (h := ?_) | refine RunT.notA (h := ?_))); refine RunT.nil ?_; try simp only [InBlock, Then]) | refine Tri.cF (by first | (simp only [go_sem]; done) | fail) ?_ | refine Tri.cT (by first | (simp only [go_sem]; done) | fail) ?_ | (refine Tri.skip ?_; try simp only [InBlock, Then]) | (refine Tri.exit ?_; simp only [Then, InBlock, ↓reduceIte]) | refine Tri.seq (Tri.block ?_) | refine Tri.block ?_ | refine Tri.seq ?_ | (refine Tri.ret ?_; refine Con.fin (.inl rfl) (by simp only [Tryd.f94, cfgKB0, resA, resA1, go_sem]; rfl) (by simp only [Obs]) (by first | (simp only [kRd, Con.of, resV, e1, e2, go_sem]; done) | fail) trivial rfl rfl))
theorem trd_sum : FSumOK Tryd.prog cfgKB0.G 94 kRd.sum := Con.sumOK cfgKB0_ok kRd Tryd.func94 rfl rfl (Con.of_inv _ _ _) trd_body
end
def kN1 : Con := Con.of [.v (.int .i64), .v (.int .i64)] (fun _ => []) (fun x => ⟨.tuple [.pure (.slice true (.int .u8)) (numS (UInt64.ofInt (toI .i64 x.1))), .bool (!decide (toI .i64 x.1 < 0) && !decide (toI .i64 x.2.1 < toI .i64 x.1))], []⟩)
def cfgKB1 : Cfg2 := { ty := tyTab, fn := fun | 60 => some kNumP.sum | _ => none, G := gNone, pin := [], eq := fun _ => none }
theorem cfgKB1_ok : CfgOK Tryd.prog cfgKB1 := ⟨tysOK, (fun f s h => by
  simp only [cfgKB1] at h
  split at h
  · injection h with h; subst h; exact .inl numP_sum
  · cases h), (fun t d h => by cases h)⟩
section
attribute [local go_sem] Tryd.f103 kN1 kNumP cfgKB1 tyTab
theorem kn1_body (p : kN1.Par) (hp : ∀ q ∈ kN1.pre p, q) : BodyOK Tryd.prog cfgKB1 Tryd.f103 (Tryd.f103.body.get rfl) kN1 p := by
  obtain ⟨(n : Int), (mo : Int), u⟩ := p
  refine ⟨?_, Nat.zero_le _, rfl, rfl⟩
  show Tri _ _ _ (Code.seq _ (Code.seq _ _)) _
  cases b1 : decide (n < 0) with
  | false =>
    have e : (!decide (n < 0) && !decide (mo < n)) = !decide (mo < n) := by rw [b1]; rfl
    refine Tri.at (by first | (simp only [Con.start, go_sem]; rfl) | rfl) ?_
    repeat (first | ((first | refine Tri.seq (Tri.regT (cfgKB1_ok.pins _) ?_) | refine Tri.rgnT (cfgKB1_ok.pins _) ?_); (repeat (first | refine RunT.oneA (hp := by simp (maxSteps := 2000000) (disch := first | decide | omega | (simp only [List.length_append, List.length_cons, List.length_nil, List.length_take, List.length_drop]; omega)) only [b1, go_sem]; rfl) (h := ?_) | refine RunT.notA (h := ?_))); refine RunT.nil ?_; try simp only [InBlock, Then]) | refine Tri.cF (by first | (simp only [go_sem]; done) | fail) ?_ | refine Tri.cT (by first | (simp only [go_sem]; done) | fail) ?_ | (refine Tri.skip ?_; try simp only [InBlock, Then]) | (refine Tri.exit ?_; simp only [Then, InBlock, if_true, if_false, ↓reduceIte, Nat.reduceEqDiff]) | refine Tri.seq (Tri.block ?_) | refine Tri.block ?_ | refine Tri.seq ?_ | (refine Tri.ret ?_; refine Con.fin (.inl rfl) (by simp only [Tryd.f103, cfgKB1, resA, resA1, go_sem]; rfl) (by simp only [Obs]) (by first | (simp only [kN1, Con.of, resV, go_sem]; done) | fail) trivial rfl rfl))
    refine Tri.ret ?_
    refine Con.fin (.inl rfl) (by simp only [Tryd.f103, cfgKB1, resA, resA1, go_sem]; rfl) (by simp only [Obs]) ?_ ?_ rfl rfl
    · show AV.tuple [.pure (.slice true (.int .u8)) (numS (UInt64.ofInt n)), .bool (!decide (mo < n))] = AV.tuple [.pure (.slice true (.int .u8)) (numS (UInt64.ofInt n)), .bool (!decide (n < 0) && !decide (mo < n))]
      rw [e]
    · exact True.intro
  | true =>
    have e : (!decide (n < 0) && !decide (mo < n)) = false := by rw [b1]; rfl
    refine Tri.at (by first | (simp only [Con.start, go_sem]; rfl) | rfl) ?_
    repeat (first | ((first | refine Tri.seq (Tri.regT (cfgKB1_ok.pins _) ?_) | refine Tri.rgnT (cfgKB1_ok.pins _) ?_); (repeat (first | refine RunT.oneA (hp := by simp (maxSteps := 2000000) (disch := first | decide | omega | (simp only [List.length_append, List.length_cons, List.length_nil, List.length_take, List.length_drop]; omega)) only [b1, go_sem]; rfl) (h := ?_) | refine RunT.notA (h := ?_))); refine RunT.nil ?_; try simp only [InBlock, Then]) | refine Tri.cF (by first | (simp only [go_sem]; done) | fail) ?_ | refine Tri.cT (by first | (simp only [go_sem]; done) | fail) ?_ | (refine Tri.skip ?_; try simp only [InBlock, Then]) | (refine Tri.exit ?_; simp only [Then, InBlock, if_true, if_false, ↓reduceIte, Nat.reduceEqDiff]) | refine Tri.seq (Tri.block ?_) | refine Tri.block ?_ | refine Tri.seq ?_ | (refine Tri.ret ?_; refine Con.fin (.inl rfl) (by simp only [Tryd.f103, cfgKB1, resA, resA1, go_sem]; rfl) (by simp only [Obs]) (by first | (simp only [kN1, Con.of, resV, go_sem]; done) | fail) trivial rfl rfl))
    refine Tri.ret ?_
    refine Con.fin (.inl rfl) (by simp only [Tryd.f103, cfgKB1, resA, resA1, go_sem]; rfl) (by simp only [Obs]) ?_ ?_ rfl rfl
    · show AV.tuple [.pure (.slice true (.int .u8)) (numS (UInt64.ofInt n)), .bool false] = AV.tuple [.pure (.slice true (.int .u8)) (numS (UInt64.ofInt n)), .bool (!decide (n < 0) && !decide (mo < n))]
      rw [e]
    · exact True.intro
theorem kn1_sum : FSumOK Tryd.prog cfgKB1.G 103 kN1.sum := Con.sumOK cfgKB1_ok kN1 Tryd.func103 rfl rfl (Con.of_inv _ _ _) kn1_body
end
def kN2 : Con := Con.of [.v .str] (fun x => [List.length (α := UInt8) x.1 ≤ 1000000000]) (fun x => ⟨.tuple [.pure (.slice true (.int .u8)) x.1, .bool (rgS (pwS x.1))], []⟩)
def cfgKB2 : Cfg2 := { ty := tyTab, fn := fun | 25 => some kPrs.sum | _ => none, G := gNone, pin := [], eq := fun _ => none }
theorem cfgKB2_ok : CfgOK Tryd.prog cfgKB2 := ⟨tysOK, (fun f s h => by
  simp only [cfgKB2] at h
  split at h
  · injection h with h; subst h; exact .inl prs_sum
  · cases h), (fun t d h => by cases h)⟩
section
attribute [local go_sem] Tryd.f104 kN2 kPrs cfgKB2 tyTab
theorem kn2_body (p : kN2.Par) (hp : ∀ q ∈ kN2.pre p, q) : BodyOK Tryd.prog cfgKB2 Tryd.f104 (Tryd.f104.body.get rfl) kN2 p := by
  obtain ⟨(s : List UInt8), u⟩ := p
  obtain ⟨h0, _⟩ := Obs.of hp
  replace h0 : s.length ≤ 1000000000 := h0
  refine ⟨?_, Nat.zero_le _, rfl, rfl⟩
  show Tri _ _ _ (Code.seq _ (Code.seq _ (Code.seq _ _))) _
  have z1 : decide ((0 : Int) = 0) = true := rfl
  have z2 : decide ((30 : Int) = 0) = false := rfl
  have htk : List.take s.length s = s := List.take_length
  cases hr : rgS (pwS s) with
  | false =>
    have e1 : prV s = .pure nmK ([], [], ()) := by rw [prV, hr]; rfl
    have e3 : pcS s = 30 := by
      have : rgS (splS 47 (cutA s 64), cutR s 64, ()) = false := hr
      rw [pcS, ckS, this]; rfl
    refine Tri.at (by first | (simp only [Con.start, go_sem]; rfl) | rfl) ?_
    repeat (first | ((first | refine Tri.seq (Tri.regT (cfgKB2_ok.pins _) ?_) | refine Tri.rgnT (cfgKB2_ok.pins _) ?_); (repeat (first | refine RunT.oneA (hp := by simp (maxSteps := 2000000) (disch := first | decide | omega | (simp only [List.length_append, List.length_cons, List.length_nil, List.length_take, List.length_drop]; omega)) only [e1, e3, go_sem]; rfl) (h := ?_) | refine RunT.notA (h := ?_))); refine RunT.nil ?_; try simp only [InBlock, Then]) | refine Tri.cF (by first | (simp only [go_sem]; done) | fail) ?_ | refine Tri.cT (by first | (simp only [go_sem]; done) | fail) ?_ | (refine Tri.skip ?_; try simp only [InBlock, Then]) | (refine Tri.exit ?_; simp only [Then, InBlock, if_true, if_false, ↓reduceIte, Nat.reduceEqDiff]) | refine Tri.seq (Tri.block ?_) | refine Tri.block ?_ | refine Tri.seq ?_ | (refine Tri.ret ?_; refine Con.fin (.inl rfl) (by simp only [Tryd.f104, cfgKB2, resA, resA1, go_sem]; rfl) (by simp only [Obs]) (by first | (simp only [kN2, Con.of, resV, hr, go_sem]; done) | fail) trivial rfl rfl))
    refine Tri.rel true 1 rfl ?_ rfl rfl ?_
    · simp only [go_sem]
      repeat' constructor
    refine Tri.at (by first | (simp only [htk, go_sem]; rfl) | rfl) ?_
    repeat (first | ((first | refine Tri.seq (Tri.regT (cfgKB2_ok.pins _) ?_) | refine Tri.rgnT (cfgKB2_ok.pins _) ?_); (repeat (first | refine RunT.oneA (hp := by simp (maxSteps := 2000000) (disch := first | decide | omega | (simp only [List.length_append, List.length_cons, List.length_nil, List.length_take, List.length_drop]; omega)) only [hr, e1, e3, z2, htk, go_sem]; rfl) (h := ?_) | refine RunT.notA (h := ?_))); refine RunT.nil ?_; try simp only [InBlock, Then]) | refine Tri.cF (by first | (simp only [go_sem]; done) | fail) ?_ | refine Tri.cT (by first | (simp only [go_sem]; done) | fail) ?_ | (refine Tri.skip ?_; try simp only [InBlock, Then]) | (refine Tri.exit ?_; simp only [Then, InBlock, if_true, if_false, ↓reduceIte, Nat.reduceEqDiff]) | refine Tri.seq (Tri.block ?_) | refine Tri.block ?_ | refine Tri.seq ?_ | (refine Tri.ret ?_; refine Con.fin (.inl rfl) (by simp only [Tryd.f104, cfgKB2, resA, resA1, go_sem]; rfl) (by simp only [Obs]) (by first | (simp only [kN2, Con.of, resV, hr, go_sem]; done) | fail) trivial rfl rfl))
  | true =>
    have e1 : prV s = .agg [.pure (.slice true .str) (splS 47 (cutA s 64)), .str (cutR s 64)] := by rw [prV, hr]; rfl
    have e3 : pcS s = 0 := by
      have : rgS (splS 47 (cutA s 64), cutR s 64, ()) = true := hr
      rw [pcS, ckS, this]; rfl
    refine Tri.at (by first | (simp only [Con.start, go_sem]; rfl) | rfl) ?_
    repeat (first | ((first | refine Tri.seq (Tri.regT (cfgKB2_ok.pins _) ?_) | refine Tri.rgnT (cfgKB2_ok.pins _) ?_); (repeat (first | refine RunT.oneA (hp := by simp (maxSteps := 2000000) (disch := first | decide | omega | (simp only [List.length_append, List.length_cons, List.length_nil, List.length_take, List.length_drop]; omega)) only [e1, e3, go_sem]; rfl) (h := ?_) | refine RunT.notA (h := ?_))); refine RunT.nil ?_; try simp only [InBlock, Then]) | refine Tri.cF (by first | (simp only [go_sem]; done) | fail) ?_ | refine Tri.cT (by first | (simp only [go_sem]; done) | fail) ?_ | (refine Tri.skip ?_; try simp only [InBlock, Then]) | (refine Tri.exit ?_; simp only [Then, InBlock, if_true, if_false, ↓reduceIte, Nat.reduceEqDiff]) | refine Tri.seq (Tri.block ?_) | refine Tri.block ?_ | refine Tri.seq ?_ | (refine Tri.ret ?_; refine Con.fin (.inl rfl) (by simp only [Tryd.f104, cfgKB2, resA, resA1, go_sem]; rfl) (by simp only [Obs]) (by first | (simp only [kN2, Con.of, resV, hr, go_sem]; done) | fail) trivial rfl rfl))
    refine Tri.rel true 1 rfl ?_ rfl rfl ?_
    · simp only [go_sem]
      repeat' constructor
    refine Tri.at (by first | (simp only [htk, go_sem]; rfl) | rfl) ?_
    repeat (first | ((first | refine Tri.seq (Tri.regT (cfgKB2_ok.pins _) ?_) | refine Tri.rgnT (cfgKB2_ok.pins _) ?_); (repeat (first | refine RunT.oneA (hp := by simp (maxSteps := 2000000) (disch := first | decide | omega | (simp only [List.length_append, List.length_cons, List.length_nil, List.length_take, List.length_drop]; omega)) only [hr, e1, e3, z1, htk, go_sem]; rfl) (h := ?_) | refine RunT.notA (h := ?_))); refine RunT.nil ?_; try simp only [InBlock, Then]) | refine Tri.cF (by first | (simp only [go_sem]; done) | fail) ?_ | refine Tri.cT (by first | (simp only [go_sem]; done) | fail) ?_ | (refine Tri.skip ?_; try simp only [InBlock, Then]) | (refine Tri.exit ?_; simp only [Then, InBlock, if_true, if_false, ↓reduceIte, Nat.reduceEqDiff]) | refine Tri.seq (Tri.block ?_) | refine Tri.block ?_ | refine Tri.seq ?_ | (refine Tri.ret ?_; refine Con.fin (.inl rfl) (by simp only [Tryd.f104, cfgKB2, resA, resA1, go_sem]; rfl) (by simp only [Obs]) (by first | (simp only [kN2, Con.of, resV, hr, go_sem]; done) | fail) trivial rfl rfl))
theorem kn2_sum : FSumOK Tryd.prog cfgKB2.G 104 kN2.sum := Con.sumOK cfgKB2_ok kN2 Tryd.func104 rfl rfl (Con.of_inv _ _ _) kn2_body
end
def tyTabK : TypeId → Option TyI := fun t => if t = 134 then some (.slice1 3) else tyTab t
theorem tyTabK_ok : TysOK Tryd.prog tyTabK := by
  intro t i h
  unfold tyTabK at h
  split at h
  · rename_i e
    injection h with h
    subst h e
    exact TyOK.slice1 Tryd.underlying134 (by kernel_rfl)
  · exact tysOK t i h
def hasK (k : Int) : List Int :=
  if k = 1 then [32, 33, 34, 35, 36] else if k = 2 then [33, 34, 35, 36, 37, 38] else if k = 3 then [34, 37, 38] else if k = 4 then [34, 37, 38] else if k = 5 then [34, 38] else if k = 6 then [34, 38] else if k = 7 then [34, 39] else []
def kHas : Con := Con.of [.v (.int .i64)] (fun _ => []) (fun x => ⟨.pure (.slice true (.int .i64)) (hasK (toI .i64 x.1)), []⟩)
def cfgKB3 : Cfg2 := { ty := tyTabK, fn := fun  | _ => none, G := gNone, pin := [], eq := fun _ => none }
theorem cfgKB3_ok : CfgOK Tryd.prog cfgKB3 := ⟨tyTabK_ok, (fun f s h => by cases h), (fun t d h => by cases h)⟩
section
attribute [local go_sem] Tryd.f87 kHas cfgKB3 tyTabK tyTab
theorem has_body (p : kHas.Par) (hp : ∀ q ∈ kHas.pre p, q) : BodyOK Tryd.prog cfgKB3 Tryd.f87 (Tryd.f87.body.get rfl) kHas p := by
  obtain ⟨(k : Int), u⟩ := p
  refine ⟨?_, Nat.zero_le _, rfl, rfl⟩
  show Tri _ _ _ (Code.seq _ (Code.seq (Code.seq _ (Code.block _ (Code.seq (Code.block _ (Code.seq (Code.block _ (Code.seq (Code.block _ (Code.seq (Code.block _ (Code.seq (Code.block _ (Code.seq (Code.seq (Code.seq _ (Code.cond _ _ _)) (Code.seq (Code.seq _ (Code.cond _ _ _)) (Code.seq (Code.seq (Code.seq _ (Code.cond _ _ _)) (Code.cond _ _ _)) (Code.seq (Code.seq (Code.seq _ (Code.cond _ _ _)) (Code.cond _ _ _)) (Code.seq _ (Code.cond _ _ _)))))) _)) _)) (Code.seq (Code.seq _ (Code.seq _ (Code.cond _ _ _))) _))) (Code.seq _ _))) (Code.seq _ _))) (Code.seq _ _)))) (Code.seq _ _))) _
  have t1 : List.take 1 [(32 : Int)] = [32] := rfl
  have t2 : List.take 4 [(33 : Int), 34, 35, 36] = [33, 34, 35, 36] := rfl
  have t3 : List.take 2 [(37 : Int), 38] = [37, 38] := rfl
  have t4 : List.take 3 [(34 : Int), 37, 38] = [34, 37, 38] := rfl
  have t5 : List.take 2 [(34 : Int), 38] = [34, 38] := rfl
  have t6 : List.take 2 [(34 : Int), 39] = [34, 39] := rfl
  have t7 : List.take 1 [(32 : Int)] = [32] := rfl
  have t8 : List.take 4 [(33 : Int), 34, 35, 36] = [33, 34, 35, 36] := rfl
  have t9 : List.take 5 [(32 : Int), 33, 34, 35, 36] = [32, 33, 34, 35, 36] := rfl
  have t10 : List.take 6 [(33 : Int), 34, 35, 36, 37, 38] = [33, 34, 35, 36, 37, 38] := rfl
  by_cases k1 : k = 1
  · subst k1
    have z1 : decide ((1 : Int) = 1) = true := rfl
    have z2 : decide ((1 : Int) = 2) = false := rfl
    have z3 : decide ((1 : Int) = 3) = false := rfl
    have z4 : decide ((1 : Int) = 4) = false := rfl
    have z5 : decide ((1 : Int) = 5) = false := rfl
    have z6 : decide ((1 : Int) = 6) = false := rfl
    have z7 : decide ((1 : Int) = 7) = false := rfl
    refine Tri.at (by first | (simp only [Con.start, go_sem]; rfl) | rfl) ?_
    repeat (first | ((first | refine Tri.seq (Tri.regT (cfgKB3_ok.pins _) ?_) | refine Tri.rgnT (cfgKB3_ok.pins _) ?_); (repeat (first | refine RunT.oneA (hp := by simp (maxSteps := 2000000) (disch := first | decide | omega | (simp only [List.length_append, List.length_cons, List.length_nil, List.length_take, List.length_drop]; omega)) only [t1, t2, go_sem]; rfl) (h := ?_) | refine RunT.notA (h := ?_))); refine RunT.nil ?_; try simp only [InBlock, Then]) | refine Tri.cF (by first | (simp only [go_sem]; done) | fail) ?_ | refine Tri.cT (by first | (simp only [go_sem]; done) | fail) ?_ | (refine Tri.skip ?_; try simp only [Then]) | (refine Tri.exit ?_; simp only [Then, InBlock, ↓reduceIte, Nat.reduceEqDiff]) | refine Tri.seq (Tri.block ?_) | refine Tri.block ?_ | refine Tri.seq ?_ | (refine Tri.ret ?_; refine Con.fin (.inl rfl) (by simp only [Tryd.f87, cfgKB3, resA, resA1, go_sem]; rfl) (by simp only [Obs]) (by first | (simp only [kHas, Con.of, resV, go_sem]; done) | fail) trivial rfl rfl))
    refine Tri.rel true 1 rfl ?_ rfl rfl ?_
    · simp only [go_sem]
      repeat' constructor
    refine Tri.at (by first | (simp only [t9, go_sem]; rfl) | rfl) ?_
    refine Tri.ret ?_
    refine Con.fin (.inl rfl) (by simp only [Tryd.f87, cfgKB3, resA, resA1, go_sem]; rfl) (by simp only [Obs]) ?_ ?_ rfl rfl
    · rfl
    · exact True.intro
  by_cases k2 : k = 2
  · subst k2
    have z1 : decide ((2 : Int) = 1) = false := rfl
    have z2 : decide ((2 : Int) = 2) = true := rfl
    have z3 : decide ((2 : Int) = 3) = false := rfl
    have z4 : decide ((2 : Int) = 4) = false := rfl
    have z5 : decide ((2 : Int) = 5) = false := rfl
    have z6 : decide ((2 : Int) = 6) = false := rfl
    have z7 : decide ((2 : Int) = 7) = false := rfl
    refine Tri.at (by first | (simp only [Con.start, go_sem]; rfl) | rfl) ?_
    repeat (first | ((first | refine Tri.seq (Tri.regT (cfgKB3_ok.pins _) ?_) | refine Tri.rgnT (cfgKB3_ok.pins _) ?_); (repeat (first | refine RunT.oneA (hp := by simp (maxSteps := 2000000) (disch := first | decide | omega | (simp only [List.length_append, List.length_cons, List.length_nil, List.length_take, List.length_drop]; omega)) only [t2, t3, go_sem]; rfl) (h := ?_) | refine RunT.notA (h := ?_))); refine RunT.nil ?_; try simp only [Then]) | refine Tri.cF (by first | (simp only [go_sem]; done) | fail) ?_ | refine Tri.cT (by first | (simp only [go_sem]; done) | fail) ?_ | (refine Tri.skip ?_; try simp only [Then]) | (refine Tri.exit ?_; simp only [Then, InBlock, ↓reduceIte, Nat.reduceEqDiff]) | refine Tri.seq (Tri.block ?_) | refine Tri.block ?_ | refine Tri.seq ?_ | (refine Tri.ret ?_; refine Con.fin (.inl rfl) (by simp only [Tryd.f87, cfgKB3, resA, resA1, go_sem]; rfl) (by simp only [Obs]) (by first | (simp only [kHas, Con.of, resV, go_sem]; done) | fail) trivial rfl rfl))
    refine Tri.rel true 1 rfl ?_ rfl rfl ?_
    · simp only [go_sem]
      repeat' constructor
    refine Tri.at (by first | (simp only [t10, go_sem]; rfl) | rfl) ?_
    refine Tri.ret ?_
    refine Con.fin (.inl rfl) (by simp only [Tryd.f87, cfgKB3, resA, resA1, go_sem]; rfl) (by simp only [Obs]) ?_ ?_ rfl rfl
    · rfl
    · exact True.intro
  by_cases k3 : k = 3
  · subst k3
    have z1 : decide ((3 : Int) = 1) = false := rfl
    have z2 : decide ((3 : Int) = 2) = false := rfl
    have z3 : decide ((3 : Int) = 3) = true := rfl
    have z4 : decide ((3 : Int) = 4) = false := rfl
    have z5 : decide ((3 : Int) = 5) = false := rfl
    have z6 : decide ((3 : Int) = 6) = false := rfl
    have z7 : decide ((3 : Int) = 7) = false := rfl
    refine Tri.at (by first | (simp only [Con.start, go_sem]; rfl) | rfl) ?_
    repeat (first | ((first | refine Tri.seq (Tri.regT (cfgKB3_ok.pins _) ?_) | refine Tri.rgnT (cfgKB3_ok.pins _) ?_); (repeat (first | refine RunT.oneA (hp := by simp (maxSteps := 2000000) (disch := first | decide | omega | (simp only [List.length_append, List.length_cons, List.length_nil, List.length_take, List.length_drop]; omega)) only [t4, go_sem]; rfl) (h := ?_) | refine RunT.notA (h := ?_))); refine RunT.nil ?_; try simp only [InBlock, Then]) | refine Tri.cF (by first | (simp only [go_sem]; done) | fail) ?_ | refine Tri.cT (by first | (simp only [go_sem]; done) | fail) ?_ | (refine Tri.skip ?_; try simp only [Then]) | (refine Tri.exit ?_; simp only [Then, InBlock, ↓reduceIte, Nat.reduceEqDiff]) | refine Tri.seq (Tri.block ?_) | refine Tri.block ?_ | refine Tri.seq ?_ | (refine Tri.ret ?_; refine Con.fin (.inl rfl) (by simp only [Tryd.f87, cfgKB3, resA, resA1, go_sem]; rfl) (by simp only [Obs]) (by first | (simp only [kHas, Con.of, resV, go_sem]; done) | fail) trivial rfl rfl))
    refine Tri.rel true 1 rfl ?_ rfl rfl ?_
    · simp only [go_sem]
      repeat' constructor
    refine Tri.at (by first | (simp only [t4, go_sem]; rfl) | rfl) ?_
    refine Tri.ret ?_
    refine Con.fin (.inl rfl) (by simp only [Tryd.f87, cfgKB3, resA, resA1, go_sem]; rfl) (by simp only [Obs]) ?_ ?_ rfl rfl
    · rfl
    · exact True.intro
  by_cases k4 : k = 4
  · subst k4
    have z1 : decide ((4 : Int) = 1) = false := rfl
    have z2 : decide ((4 : Int) = 2) = false := rfl
    have z3 : decide ((4 : Int) = 3) = false := rfl
    have z4 : decide ((4 : Int) = 4) = true := rfl
    have z5 : decide ((4 : Int) = 5) = false := rfl
    have z6 : decide ((4 : Int) = 6) = false := rfl
    have z7 : decide ((4 : Int) = 7) = false := rfl
    refine Tri.at (by first | (simp only [Con.start, go_sem]; rfl) | rfl) ?_
    repeat (first | ((first | refine Tri.seq (Tri.regT (cfgKB3_ok.pins _) ?_) | refine Tri.rgnT (cfgKB3_ok.pins _) ?_); (repeat (first | refine RunT.oneA (hp := by simp (maxSteps := 2000000) (disch := first | decide | omega | (simp only [List.length_append, List.length_cons, List.length_nil, List.length_take, List.length_drop]; omega)) only [t4, go_sem]; rfl) (h := ?_) | refine RunT.notA (h := ?_))); refine RunT.nil ?_; try simp only [Then]) | refine Tri.cF (by first | (simp only [go_sem]; done) | fail) ?_ | refine Tri.cT (by first | (simp only [go_sem]; done) | fail) ?_ | (refine Tri.skip ?_; try simp only [Then]) | (refine Tri.exit ?_; simp only [Then, InBlock, ↓reduceIte, Nat.reduceEqDiff]) | refine Tri.seq (Tri.block ?_) | refine Tri.block ?_ | refine Tri.seq ?_ | (refine Tri.ret ?_; refine Con.fin (.inl rfl) (by simp only [Tryd.f87, cfgKB3, resA, resA1, go_sem]; rfl) (by simp only [Obs]) (by first | (simp only [kHas, Con.of, resV, go_sem]; done) | fail) trivial rfl rfl))
    refine Tri.rel true 1 rfl ?_ rfl rfl ?_
    · simp only [go_sem]
      repeat' constructor
    refine Tri.at (by first | (simp only [t4, go_sem]; rfl) | rfl) ?_
    refine Tri.ret ?_
    refine Con.fin (.inl rfl) (by simp only [Tryd.f87, cfgKB3, resA, resA1, go_sem]; rfl) (by simp only [Obs]) ?_ ?_ rfl rfl
    · rfl
    · exact True.intro
  by_cases k5 : k = 5
  · subst k5
    have z1 : decide ((5 : Int) = 1) = false := rfl
    have z2 : decide ((5 : Int) = 2) = false := rfl
    have z3 : decide ((5 : Int) = 3) = false := rfl
    have z4 : decide ((5 : Int) = 4) = false := rfl
    have z5 : decide ((5 : Int) = 5) = true := rfl
    have z6 : decide ((5 : Int) = 6) = false := rfl
    have z7 : decide ((5 : Int) = 7) = false := rfl
    refine Tri.at (by first | (simp only [Con.start, go_sem]; rfl) | rfl) ?_
    repeat (first | ((first | refine Tri.seq (Tri.regT (cfgKB3_ok.pins _) ?_) | refine Tri.rgnT (cfgKB3_ok.pins _) ?_); (repeat (first | refine RunT.oneA (hp := by simp (maxSteps := 2000000) (disch := first | decide | omega | (simp only [List.length_append, List.length_cons, List.length_nil, List.length_take, List.length_drop]; omega)) only [t5, go_sem]; rfl) (h := ?_) | refine RunT.notA (h := ?_))); refine RunT.nil ?_; try simp only [Then]) | refine Tri.cF (by first | (simp only [go_sem]; done) | fail) ?_ | refine Tri.cT (by first | (simp only [go_sem]; done) | fail) ?_ | (refine Tri.skip ?_; try simp only [Then]) | (refine Tri.exit ?_; simp only [Then, InBlock, ↓reduceIte, Nat.reduceEqDiff]) | refine Tri.seq (Tri.block ?_) | refine Tri.block ?_ | refine Tri.seq ?_ | (refine Tri.ret ?_; refine Con.fin (.inl rfl) (by simp only [Tryd.f87, cfgKB3, resA, resA1, go_sem]; rfl) (by simp only [Obs]) (by first | (simp only [kHas, Con.of, resV, go_sem]; done) | fail) trivial rfl rfl))
    refine Tri.rel true 1 rfl ?_ rfl rfl ?_
    · simp only [go_sem]
      repeat' constructor
    refine Tri.at (by first | (simp only [t5, go_sem]; rfl) | rfl) ?_
    refine Tri.ret ?_
    refine Con.fin (.inl rfl) (by simp only [Tryd.f87, cfgKB3, resA, resA1, go_sem]; rfl) (by simp only [Obs]) ?_ ?_ rfl rfl
    · rfl
    · exact True.intro
  by_cases k6 : k = 6
  · subst k6
    have z1 : decide ((6 : Int) = 1) = false := rfl
    have z2 : decide ((6 : Int) = 2) = false := rfl
    have z3 : decide ((6 : Int) = 3) = false := rfl
    have z4 : decide ((6 : Int) = 4) = false := rfl
    have z5 : decide ((6 : Int) = 5) = false := rfl
    have z6 : decide ((6 : Int) = 6) = true := rfl
    have z7 : decide ((6 : Int) = 7) = false := rfl
    refine Tri.at (by first | (simp only [Con.start, go_sem]; rfl) | rfl) ?_
    repeat (first | ((first | refine Tri.seq (Tri.regT (cfgKB3_ok.pins _) ?_) | refine Tri.rgnT (cfgKB3_ok.pins _) ?_); (repeat (first | refine RunT.oneA (hp := by simp (maxSteps := 2000000) (disch := first | decide | omega | (simp only [List.length_append, List.length_cons, List.length_nil, List.length_take, List.length_drop]; omega)) only [t5, go_sem]; rfl) (h := ?_) | refine RunT.notA (h := ?_))); refine RunT.nil ?_; try simp only [Then]) | refine Tri.cF (by first | (simp only [go_sem]; done) | fail) ?_ | refine Tri.cT (by first | (simp only [go_sem]; done) | fail) ?_ | (refine Tri.skip ?_; try simp only [Then]) | (refine Tri.exit ?_; simp only [Then, InBlock, ↓reduceIte, Nat.reduceEqDiff]) | refine Tri.seq (Tri.block ?_) | refine Tri.block ?_ | refine Tri.seq ?_ | (refine Tri.ret ?_; refine Con.fin (.inl rfl) (by simp only [Tryd.f87, cfgKB3, resA, resA1, go_sem]; rfl) (by simp only [Obs]) (by first | (simp only [kHas, Con.of, resV, go_sem]; done) | fail) trivial rfl rfl))
    refine Tri.rel true 1 rfl ?_ rfl rfl ?_
    · simp only [go_sem]
      repeat' constructor
    refine Tri.at (by first | (simp only [t5, go_sem]; rfl) | rfl) ?_
    refine Tri.ret ?_
    refine Con.fin (.inl rfl) (by simp only [Tryd.f87, cfgKB3, resA, resA1, go_sem]; rfl) (by simp only [Obs]) ?_ ?_ rfl rfl
    · rfl
    · exact True.intro
  by_cases k7 : k = 7
  · subst k7
    have z1 : decide ((7 : Int) = 1) = false := rfl
    have z2 : decide ((7 : Int) = 2) = false := rfl
    have z3 : decide ((7 : Int) = 3) = false := rfl
    have z4 : decide ((7 : Int) = 4) = false := rfl
    have z5 : decide ((7 : Int) = 5) = false := rfl
    have z6 : decide ((7 : Int) = 6) = false := rfl
    have z7 : decide ((7 : Int) = 7) = true := rfl
    refine Tri.at (by first | (simp only [Con.start, go_sem]; rfl) | rfl) ?_
    repeat (first | ((first | refine Tri.seq (Tri.regT (cfgKB3_ok.pins _) ?_) | refine Tri.rgnT (cfgKB3_ok.pins _) ?_); (repeat (first | refine RunT.oneA (hp := by simp (maxSteps := 2000000) (disch := first | decide | omega | (simp only [List.length_append, List.length_cons, List.length_nil, List.length_take, List.length_drop]; omega)) only [t6, go_sem]; rfl) (h := ?_) | refine RunT.notA (h := ?_))); refine RunT.nil ?_; try simp only [Then]) | refine Tri.cF (by first | (simp only [go_sem]; done) | fail) ?_ | refine Tri.cT (by first | (simp only [go_sem]; done) | fail) ?_ | (refine Tri.skip ?_; try simp only [Then]) | (refine Tri.exit ?_; simp only [Then, InBlock, ↓reduceIte, Nat.reduceEqDiff]) | refine Tri.seq (Tri.block ?_) | refine Tri.block ?_ | refine Tri.seq ?_ | (refine Tri.ret ?_; refine Con.fin (.inl rfl) (by simp only [Tryd.f87, cfgKB3, resA, resA1, go_sem]; rfl) (by simp only [Obs]) (by first | (simp only [kHas, Con.of, resV, go_sem]; done) | fail) trivial rfl rfl))
    refine Tri.rel true 1 rfl ?_ rfl rfl ?_
    · simp only [go_sem]
      repeat' constructor
    refine Tri.at (by first | (simp only [t6, go_sem]; rfl) | rfl) ?_
    refine Tri.ret ?_
    refine Con.fin (.inl rfl) (by simp only [Tryd.f87, cfgKB3, resA, resA1, go_sem]; rfl) (by simp only [Obs]) ?_ ?_ rfl rfl
    · rfl
    · exact True.intro
  have z1 : decide (k = 1) = false := decide_eq_false k1
  have z2 : decide (k = 2) = false := decide_eq_false k2
  have z3 : decide (k = 3) = false := decide_eq_false k3
  have z4 : decide (k = 4) = false := decide_eq_false k4
  have z5 : decide (k = 5) = false := decide_eq_false k5
  have z6 : decide (k = 6) = false := decide_eq_false k6
  have z7 : decide (k = 7) = false := decide_eq_false k7
  have e : hasK k = [] := by rw [hasK, if_neg k1, if_neg k2, if_neg k3, if_neg k4, if_neg k5, if_neg k6, if_neg k7]
  refine Tri.at (by first | (simp only [Con.start, go_sem]; rfl) | rfl) ?_
  repeat (first | ((first | refine Tri.seq (Tri.regT (cfgKB3_ok.pins _) ?_) | refine Tri.rgnT (cfgKB3_ok.pins _) ?_); (repeat (first | refine RunT.oneA (hp := by simp (maxSteps := 2000000) (disch := first | decide | omega | (simp only [List.length_append, List.length_cons, List.length_nil, List.length_take, List.length_drop]; omega)) only [z1, z2, z3, z4, z5, z6, z7, go_sem]; rfl) (h := ?_) | refine RunT.notA (h := ?_))); refine RunT.nil ?_; try simp only [Then]) | refine Tri.cF (by first | (simp only [go_sem]; done) | fail) ?_ | refine Tri.cT (by first | (simp only [go_sem]; done) | fail) ?_ | (refine Tri.skip ?_; try simp only [Then]) | (refine Tri.exit ?_; simp only [Then, InBlock, ↓reduceIte, Nat.reduceEqDiff]) | refine Tri.seq (Tri.block ?_) | refine Tri.block ?_ | refine Tri.seq ?_ | (refine Tri.ret ?_; refine Con.fin (.inl rfl) (by simp only [Tryd.f87, cfgKB3, resA, resA1, go_sem]; rfl) (by simp only [Obs]) (by first | (simp only [kHas, Con.of, resV, go_sem]; done) | fail) trivial rfl rfl))
  refine Tri.phT 2 (.int .i64) 1 rfl rfl ?_
  refine Tri.at (by first | (simp only [go_sem, go_sem]; rfl) | rfl) ?_
  refine Tri.rel true 0 rfl ?_ rfl rfl ?_
  · simp only [go_sem]
    repeat' constructor
  refine Tri.at (by first | (simp only [List.take_nil, List.drop_nil, go_sem]; rfl) | rfl) ?_
  refine Tri.ret ?_
  refine Con.fin (.inl rfl) (by simp only [Tryd.f87, cfgKB3, resA, resA1, go_sem]; rfl) (by simp only [Obs]) ?_ ?_ rfl rfl
  · show AV.pure (.slice true (.int .i64)) ([] : List Int) = AV.pure (.slice true (.int .i64)) (hasK k)
    rw [e]
  · exact True.intro
theorem has_sum : FSumOK Tryd.prog cfgKB3.G 87 kHas.sum := Con.sumOK cfgKB3_ok kHas Tryd.func87 rfl rfl (Con.of_inv _ _ _) has_body
end
end Go.Proofs.YtjdeaphfamenaaaDoor

namespace Go.Proofs.YtjdeaphfamenaaaDoor
open Go.Vc Go.Proofs
set_option maxRecDepth 10000
set_option maxHeartbeats 4000000
abbrev krK : Kd := .st (.pair (.int .i64) (.pair .str (.pair .str (.pair (.int .u64) (.pair (.int .i64) (.pair (.int .i64) (.pair (.slice true (.int .u8)) (.pair (.slice true (.int .u8)) (.pair (.int .i64) .unit)))))))))
abbrev flK : Kd := .st (.pair (.int .i64) (.pair (.slice true (.int .u8)) .unit))
abbrev krTD : TD := .st [(3, 0, 1), (9, 1, 1), (9, 2, 1), (46, 3, 1), (2, 4, 1), (3, 5, 1), (47, 6, 1), (47, 7, 1), (3, 8, 1)]
def tyTabM : TypeId → Option TyI := fun t => if t = 49 then some (.kd1 krTD krK 120) else if t = 114 then some (.ptr1 49) else if t = 82 then some (.slice1 112) else if t = 112 then some (.kd1 (.st [(3, 0, 1), (47, 1, 1)]) flK 32) else tyTabK t
theorem tyTabM_ok : TysOK Tryd.prog tyTabM := by
  intro t i h
  unfold tyTabM at h
  split at h
  · rename_i e
    injection h with h
    subst h e
    exact TyOK.kd1 (td := krTD) ⟨_, Tryd.underlying49, by kernel_rfl, by kernel_rfl⟩ (by kernel_rfl)
  · split at h
    · rename_i e
      injection h with h
      subst h e
      exact TyOK.ptr1 Tryd.underlying114 (by kernel_rfl)
    · split at h
      · rename_i e
        injection h with h
        subst h e
        exact TyOK.slice1 Tryd.underlying82 (by kernel_rfl)
      · split at h
        · rename_i e
          injection h with h
          subst h e
          exact TyOK.kd1 (td := .st [(3, 0, 1), (47, 1, 1)]) ⟨_, Tryd.underlying112, by kernel_rfl, by kernel_rfl⟩ (by kernel_rfl)
        · exact tyTabK_ok t i h
def smM (a b : krK.T) : Bool := decide ((a.1 : Int) = b.1) && (strEq a.2.1 b.2.1 && (strEq a.2.2.1 b.2.2.1 && (decide ((a.2.2.2.1 : UInt64) = b.2.2.2.1) && (decide ((a.2.2.2.2.1 : Int) = b.2.2.2.2.1) && (decide ((a.2.2.2.2.2.1 : Int) = b.2.2.2.2.2.1) && (decide ((a.2.2.2.2.2.2.2.2.1 : Int) = b.2.2.2.2.2.2.2.2.1) && (strEq a.2.2.2.2.2.2.1 b.2.2.2.2.2.2.1 && (strEq a.2.2.2.2.2.2.2.1 b.2.2.2.2.2.2.2.1))))))))
def kSmM : Con := Con.of [.v krK, .v krK] (fun _ => []) (fun x => ⟨.bool (smM x.1 x.2.1), []⟩)
def cfgKC1 : Cfg2 := { ty := tyTabM, fn := fun | 105 => some kBEq.sum | _ => none, G := gNone, pin := [], eq := fun _ => none }
theorem cfgKC1_ok : CfgOK Tryd.prog cfgKC1 := ⟨tyTabM_ok, (fun f s h => by
  simp only [cfgKC1] at h
  split at h
  · injection h with h; subst h; exact .inl beq_sum
  · cases h), (fun t d h => by cases h)⟩
section
attribute [local go_sem] Tryd.f89 kSmM kBEq cfgKC1 tyTabM tyTabK tyTab
theorem smm_body (p : kSmM.Par) (hp : ∀ q ∈ kSmM.pre p, q) : BodyOK Tryd.prog cfgKC1 Tryd.f89 (Tryd.f89.body.get rfl) kSmM p := by
  obtain ⟨⟨(akd : Int), (acl : List UInt8), (asv : List UInt8), (ano : UInt64), (aen : Int), (afl : Int), (ati : List UInt8), (ase : List UInt8), (aco : Int), u1⟩, ⟨(bkd : Int), (bcl : List UInt8), (bsv : List UInt8), (bno : UInt64), (ben : Int), (bfl : Int), (bti : List UInt8), (bse : List UInt8), (bco : Int), u2⟩, u⟩ := p
  refine ⟨?_, Nat.zero_le _, rfl, rfl⟩
  show Tri _ _ _ (Code.seq _ (Code.seq _ (Code.seq _ _))) _
  have e : smM (akd, acl, asv, ano, aen, afl, ati, ase, aco, u1) (bkd, bcl, bsv, bno, ben, bfl, bti, bse, bco, u2) = (decide ((akd : Int) = bkd) && (strEq acl bcl && (strEq asv bsv && (decide ((ano : UInt64) = bno) && (decide ((aen : Int) = ben) && (decide ((afl : Int) = bfl) && (decide ((aco : Int) = bco) && (strEq ati bti && (strEq ase bse))))))))) := rfl
  cases c0 : decide ((akd : Int) = bkd) with
  | false =>
    rw [c0] at e
    replace e : smM (akd, acl, asv, ano, aen, afl, ati, ase, aco, u1) (bkd, bcl, bsv, bno, ben, bfl, bti, bse, bco, u2) = false := e
    refine Tri.at (by first | (simp only [Con.start, go_sem]; rfl) | rfl) ?_
    repeat (first | ((first | refine Tri.seq (Tri.regT (cfgKC1_ok.pins _) ?_) | refine Tri.rgnT (cfgKC1_ok.pins _) ?_); (repeat (first | refine RunT.oneA (hp := by simp (maxSteps := 2000000) (disch := first | decide | omega | (simp only [List.length_append, List.length_cons, List.length_nil, List.length_take, List.length_drop]; omega)) only [c0, go_sem]; rfl) (h := ?_) | refine RunT.notA (h := ?_))); refine RunT.nil ?_; try simp only [InBlock, Then]) | refine Tri.cF (by first | (simp only [go_sem]; done) | fail) ?_ | refine Tri.cT (by first | (simp only [go_sem]; done) | fail) ?_ | (refine Tri.skip ?_; try simp only [InBlock, Then]) | (refine Tri.exit ?_; simp only [Then, InBlock, if_true, if_false, ↓reduceIte, Nat.reduceEqDiff]) | refine Tri.seq (Tri.block ?_) | refine Tri.block ?_ | refine Tri.seq ?_ | (refine Tri.ret ?_; refine Con.fin (.inl rfl) (by simp only [Tryd.f89, cfgKC1, resA, resA1, go_sem]; rfl) (by simp only [Obs]) (by first | (simp only [kSmM, Con.of, resV, e, go_sem]; done) | fail) trivial rfl rfl))
  | true =>
  cases c1 : strEq acl bcl with
  | false =>
    rw [c0, c1] at e
    replace e : smM (akd, acl, asv, ano, aen, afl, ati, ase, aco, u1) (bkd, bcl, bsv, bno, ben, bfl, bti, bse, bco, u2) = false := e
    refine Tri.at (by first | (simp only [Con.start, go_sem]; rfl) | rfl) ?_
    repeat (first | ((first | refine Tri.seq (Tri.regT (cfgKC1_ok.pins _) ?_) | refine Tri.rgnT (cfgKC1_ok.pins _) ?_); (repeat (first | refine RunT.oneA (hp := by simp (maxSteps := 2000000) (disch := first | decide | omega | (simp only [List.length_append, List.length_cons, List.length_nil, List.length_take, List.length_drop]; omega)) only [c0, c1, go_sem]; rfl) (h := ?_) | refine RunT.notA (h := ?_))); refine RunT.nil ?_; try simp only [InBlock, Then]) | refine Tri.cF (by first | (simp only [go_sem]; done) | fail) ?_ | refine Tri.cT (by first | (simp only [go_sem]; done) | fail) ?_ | (refine Tri.skip ?_; try simp only [InBlock, Then]) | (refine Tri.exit ?_; simp only [Then, InBlock, if_true, if_false, ↓reduceIte, Nat.reduceEqDiff]) | refine Tri.seq (Tri.block ?_) | refine Tri.block ?_ | refine Tri.seq ?_ | (refine Tri.ret ?_; refine Con.fin (.inl rfl) (by simp only [Tryd.f89, cfgKC1, resA, resA1, go_sem]; rfl) (by simp only [Obs]) (by first | (simp only [kSmM, Con.of, resV, e, go_sem]; done) | fail) trivial rfl rfl))
  | true =>
  cases c2 : strEq asv bsv with
  | false =>
    rw [c0, c1, c2] at e
    replace e : smM (akd, acl, asv, ano, aen, afl, ati, ase, aco, u1) (bkd, bcl, bsv, bno, ben, bfl, bti, bse, bco, u2) = false := e
    refine Tri.at (by first | (simp only [Con.start, go_sem]; rfl) | rfl) ?_
    repeat (first | ((first | refine Tri.seq (Tri.regT (cfgKC1_ok.pins _) ?_) | refine Tri.rgnT (cfgKC1_ok.pins _) ?_); (repeat (first | refine RunT.oneA (hp := by simp (maxSteps := 2000000) (disch := first | decide | omega | (simp only [List.length_append, List.length_cons, List.length_nil, List.length_take, List.length_drop]; omega)) only [c0, c1, c2, go_sem]; rfl) (h := ?_) | refine RunT.notA (h := ?_))); refine RunT.nil ?_; try simp only [InBlock, Then]) | refine Tri.cF (by first | (simp only [go_sem]; done) | fail) ?_ | refine Tri.cT (by first | (simp only [go_sem]; done) | fail) ?_ | (refine Tri.skip ?_; try simp only [InBlock, Then]) | (refine Tri.exit ?_; simp only [Then, InBlock, if_true, if_false, ↓reduceIte, Nat.reduceEqDiff]) | refine Tri.seq (Tri.block ?_) | refine Tri.block ?_ | refine Tri.seq ?_ | (refine Tri.ret ?_; refine Con.fin (.inl rfl) (by simp only [Tryd.f89, cfgKC1, resA, resA1, go_sem]; rfl) (by simp only [Obs]) (by first | (simp only [kSmM, Con.of, resV, e, go_sem]; done) | fail) trivial rfl rfl))
  | true =>
  cases c3 : decide ((ano : UInt64) = bno) with
  | false =>
    rw [c0, c1, c2, c3] at e
    replace e : smM (akd, acl, asv, ano, aen, afl, ati, ase, aco, u1) (bkd, bcl, bsv, bno, ben, bfl, bti, bse, bco, u2) = false := e
    refine Tri.at (by first | (simp only [Con.start, go_sem]; rfl) | rfl) ?_
    repeat (first | ((first | refine Tri.seq (Tri.regT (cfgKC1_ok.pins _) ?_) | refine Tri.rgnT (cfgKC1_ok.pins _) ?_); (repeat (first | refine RunT.oneA (hp := by simp (maxSteps := 2000000) (disch := first | decide | omega | (simp only [List.length_append, List.length_cons, List.length_nil, List.length_take, List.length_drop]; omega)) only [c0, c1, c2, c3, go_sem]; rfl) (h := ?_) | refine RunT.notA (h := ?_))); refine RunT.nil ?_; try simp only [InBlock, Then]) | refine Tri.cF (by first | (simp only [go_sem]; done) | fail) ?_ | refine Tri.cT (by first | (simp only [go_sem]; done) | fail) ?_ | (refine Tri.skip ?_; try simp only [InBlock, Then]) | (refine Tri.exit ?_; simp only [Then, InBlock, if_true, if_false, ↓reduceIte, Nat.reduceEqDiff]) | refine Tri.seq (Tri.block ?_) | refine Tri.block ?_ | refine Tri.seq ?_ | (refine Tri.ret ?_; refine Con.fin (.inl rfl) (by simp only [Tryd.f89, cfgKC1, resA, resA1, go_sem]; rfl) (by simp only [Obs]) (by first | (simp only [kSmM, Con.of, resV, e, go_sem]; done) | fail) trivial rfl rfl))
  | true =>
  cases c4 : decide ((aen : Int) = ben) with
  | false =>
    rw [c0, c1, c2, c3, c4] at e
    replace e : smM (akd, acl, asv, ano, aen, afl, ati, ase, aco, u1) (bkd, bcl, bsv, bno, ben, bfl, bti, bse, bco, u2) = false := e
    refine Tri.at (by first | (simp only [Con.start, go_sem]; rfl) | rfl) ?_
    repeat (first | ((first | refine Tri.seq (Tri.regT (cfgKC1_ok.pins _) ?_) | refine Tri.rgnT (cfgKC1_ok.pins _) ?_); (repeat (first | refine RunT.oneA (hp := by simp (maxSteps := 2000000) (disch := first | decide | omega | (simp only [List.length_append, List.length_cons, List.length_nil, List.length_take, List.length_drop]; omega)) only [c0, c1, c2, c3, c4, go_sem]; rfl) (h := ?_) | refine RunT.notA (h := ?_))); refine RunT.nil ?_; try simp only [InBlock, Then]) | refine Tri.cF (by first | (simp only [go_sem]; done) | fail) ?_ | refine Tri.cT (by first | (simp only [go_sem]; done) | fail) ?_ | (refine Tri.skip ?_; try simp only [InBlock, Then]) | (refine Tri.exit ?_; simp only [Then, InBlock, if_true, if_false, ↓reduceIte, Nat.reduceEqDiff]) | refine Tri.seq (Tri.block ?_) | refine Tri.block ?_ | refine Tri.seq ?_ | (refine Tri.ret ?_; refine Con.fin (.inl rfl) (by simp only [Tryd.f89, cfgKC1, resA, resA1, go_sem]; rfl) (by simp only [Obs]) (by first | (simp only [kSmM, Con.of, resV, e, go_sem]; done) | fail) trivial rfl rfl))
  | true =>
  cases c5 : decide ((afl : Int) = bfl) with
  | false =>
    rw [c0, c1, c2, c3, c4, c5] at e
    replace e : smM (akd, acl, asv, ano, aen, afl, ati, ase, aco, u1) (bkd, bcl, bsv, bno, ben, bfl, bti, bse, bco, u2) = false := e
    refine Tri.at (by first | (simp only [Con.start, go_sem]; rfl) | rfl) ?_
    repeat (first | ((first | refine Tri.seq (Tri.regT (cfgKC1_ok.pins _) ?_) | refine Tri.rgnT (cfgKC1_ok.pins _) ?_); (repeat (first | refine RunT.oneA (hp := by simp (maxSteps := 2000000) (disch := first | decide | omega | (simp only [List.length_append, List.length_cons, List.length_nil, List.length_take, List.length_drop]; omega)) only [c0, c1, c2, c3, c4, c5, go_sem]; rfl) (h := ?_) | refine RunT.notA (h := ?_))); refine RunT.nil ?_; try simp only [InBlock, Then]) | refine Tri.cF (by first | (simp only [go_sem]; done) | fail) ?_ | refine Tri.cT (by first | (simp only [go_sem]; done) | fail) ?_ | (refine Tri.skip ?_; try simp only [InBlock, Then]) | (refine Tri.exit ?_; simp only [Then, InBlock, if_true, if_false, ↓reduceIte, Nat.reduceEqDiff]) | refine Tri.seq (Tri.block ?_) | refine Tri.block ?_ | refine Tri.seq ?_ | (refine Tri.ret ?_; refine Con.fin (.inl rfl) (by simp only [Tryd.f89, cfgKC1, resA, resA1, go_sem]; rfl) (by simp only [Obs]) (by first | (simp only [kSmM, Con.of, resV, e, go_sem]; done) | fail) trivial rfl rfl))
  | true =>
  cases c6 : decide ((aco : Int) = bco) with
  | false =>
    rw [c0, c1, c2, c3, c4, c5, c6] at e
    replace e : smM (akd, acl, asv, ano, aen, afl, ati, ase, aco, u1) (bkd, bcl, bsv, bno, ben, bfl, bti, bse, bco, u2) = false := e
    refine Tri.at (by first | (simp only [Con.start, go_sem]; rfl) | rfl) ?_
    repeat (first | ((first | refine Tri.seq (Tri.regT (cfgKC1_ok.pins _) ?_) | refine Tri.rgnT (cfgKC1_ok.pins _) ?_); (repeat (first | refine RunT.oneA (hp := by simp (maxSteps := 2000000) (disch := first | decide | omega | (simp only [List.length_append, List.length_cons, List.length_nil, List.length_take, List.length_drop]; omega)) only [c0, c1, c2, c3, c4, c5, c6, go_sem]; rfl) (h := ?_) | refine RunT.notA (h := ?_))); refine RunT.nil ?_; try simp only [InBlock, Then]) | refine Tri.cF (by first | (simp only [go_sem]; done) | fail) ?_ | refine Tri.cT (by first | (simp only [go_sem]; done) | fail) ?_ | (refine Tri.skip ?_; try simp only [InBlock, Then]) | (refine Tri.exit ?_; simp only [Then, InBlock, if_true, if_false, ↓reduceIte, Nat.reduceEqDiff]) | refine Tri.seq (Tri.block ?_) | refine Tri.block ?_ | refine Tri.seq ?_ | (refine Tri.ret ?_; refine Con.fin (.inl rfl) (by simp only [Tryd.f89, cfgKC1, resA, resA1, go_sem]; rfl) (by simp only [Obs]) (by first | (simp only [kSmM, Con.of, resV, e, go_sem]; done) | fail) trivial rfl rfl))
  | true =>
  cases c7 : strEq ati bti with
  | false =>
    rw [c0, c1, c2, c3, c4, c5, c6, c7] at e
    replace e : smM (akd, acl, asv, ano, aen, afl, ati, ase, aco, u1) (bkd, bcl, bsv, bno, ben, bfl, bti, bse, bco, u2) = false := e
    refine Tri.at (by first | (simp only [Con.start, go_sem]; rfl) | rfl) ?_
    repeat (first | ((first | refine Tri.seq (Tri.regT (cfgKC1_ok.pins _) ?_) | refine Tri.rgnT (cfgKC1_ok.pins _) ?_); (repeat (first | refine RunT.oneA (hp := by simp (maxSteps := 2000000) (disch := first | decide | omega | (simp only [List.length_append, List.length_cons, List.length_nil, List.length_take, List.length_drop]; omega)) only [c0, c1, c2, c3, c4, c5, c6, c7, go_sem]; rfl) (h := ?_) | refine RunT.notA (h := ?_))); refine RunT.nil ?_; try simp only [InBlock, Then]) | refine Tri.cF (by first | (simp only [go_sem]; done) | fail) ?_ | refine Tri.cT (by first | (simp only [go_sem]; done) | fail) ?_ | (refine Tri.skip ?_; try simp only [InBlock, Then]) | (refine Tri.exit ?_; simp only [Then, InBlock, if_true, if_false, ↓reduceIte, Nat.reduceEqDiff]) | refine Tri.seq (Tri.block ?_) | refine Tri.block ?_ | refine Tri.seq ?_ | (refine Tri.ret ?_; refine Con.fin (.inl rfl) (by simp only [Tryd.f89, cfgKC1, resA, resA1, go_sem]; rfl) (by simp only [Obs]) (by first | (simp only [kSmM, Con.of, resV, e, go_sem]; done) | fail) trivial rfl rfl))
  | true =>
  cases c8 : strEq ase bse with
  | false =>
    rw [c0, c1, c2, c3, c4, c5, c6, c7, c8] at e
    replace e : smM (akd, acl, asv, ano, aen, afl, ati, ase, aco, u1) (bkd, bcl, bsv, bno, ben, bfl, bti, bse, bco, u2) = false := e
    refine Tri.at (by first | (simp only [Con.start, go_sem]; rfl) | rfl) ?_
    repeat (first | ((first | refine Tri.seq (Tri.regT (cfgKC1_ok.pins _) ?_) | refine Tri.rgnT (cfgKC1_ok.pins _) ?_); (repeat (first | refine RunT.oneA (hp := by simp (maxSteps := 2000000) (disch := first | decide | omega | (simp only [List.length_append, List.length_cons, List.length_nil, List.length_take, List.length_drop]; omega)) only [c0, c1, c2, c3, c4, c5, c6, c7, c8, go_sem]; rfl) (h := ?_) | refine RunT.notA (h := ?_))); refine RunT.nil ?_; try simp only [InBlock, Then]) | refine Tri.cF (by first | (simp only [go_sem]; done) | fail) ?_ | refine Tri.cT (by first | (simp only [go_sem]; done) | fail) ?_ | (refine Tri.skip ?_; try simp only [InBlock, Then]) | (refine Tri.exit ?_; simp only [Then, InBlock, if_true, if_false, ↓reduceIte, Nat.reduceEqDiff]) | refine Tri.seq (Tri.block ?_) | refine Tri.block ?_ | refine Tri.seq ?_ | (refine Tri.ret ?_; refine Con.fin (.inl rfl) (by simp only [Tryd.f89, cfgKC1, resA, resA1, go_sem]; rfl) (by simp only [Obs]) (by first | (simp only [kSmM, Con.of, resV, e, go_sem]; done) | fail) trivial rfl rfl))
  | true =>
    rw [c0, c1, c2, c3, c4, c5, c6, c7, c8] at e
    replace e : smM (akd, acl, asv, ano, aen, afl, ati, ase, aco, u1) (bkd, bcl, bsv, bno, ben, bfl, bti, bse, bco, u2) = true := e
    refine Tri.at (by first | (simp only [Con.start, go_sem]; rfl) | rfl) ?_
    repeat (first | ((first | refine Tri.seq (Tri.regT (cfgKC1_ok.pins _) ?_) | refine Tri.rgnT (cfgKC1_ok.pins _) ?_); (repeat (first | refine RunT.oneA (hp := by simp (maxSteps := 2000000) (disch := first | decide | omega | (simp only [List.length_append, List.length_cons, List.length_nil, List.length_take, List.length_drop]; omega)) only [c0, c1, c2, c3, c4, c5, c6, c7, c8, go_sem]; rfl) (h := ?_) | refine RunT.notA (h := ?_))); refine RunT.nil ?_; try simp only [InBlock, Then]) | refine Tri.cF (by first | (simp only [go_sem]; done) | fail) ?_ | refine Tri.cT (by first | (simp only [go_sem]; done) | fail) ?_ | (refine Tri.skip ?_; try simp only [InBlock, Then]) | (refine Tri.exit ?_; simp only [Then, InBlock, if_true, if_false, ↓reduceIte, Nat.reduceEqDiff]) | refine Tri.seq (Tri.block ?_) | refine Tri.block ?_ | refine Tri.seq ?_ | (refine Tri.ret ?_; refine Con.fin (.inl rfl) (by simp only [Tryd.f89, cfgKC1, resA, resA1, go_sem]; rfl) (by simp only [Obs]) (by first | (simp only [kSmM, Con.of, resV, e, go_sem]; done) | fail) trivial rfl rfl))
theorem smm_sum : FSumOK Tryd.prog cfgKC1.G 89 kSmM.sum := Con.sumOK cfgKC1_ok kSmM Tryd.func89 rfl rfl (Con.of_inv _ _ _) smm_body
end
def vaB (m : krK.T) (tag : Int) : List UInt8 :=
  if tag = 32 then m.2.1 else if tag = 33 then m.2.2.1 else if tag = 34 then numS m.2.2.2.1 else if tag = 35 then numS (UInt64.ofInt m.2.2.2.2.1) else if tag = 36 then numS (UInt64.ofInt m.2.2.2.2.2.1) else if tag = 37 then m.2.2.2.2.2.2.1 else if tag = 38 then m.2.2.2.2.2.2.2.1 else numS (UInt64.ofInt m.2.2.2.2.2.2.2.2.1)
def vaO (m : krK.T) (tag : Int) : Bool :=
  if tag = 32 then rgS (pwS m.2.1) else if tag = 33 then rgS (pwS m.2.2.1) else if tag = 34 then true else if tag = 35 then !decide ((m.2.2.2.2.1 : Int) < 0) && !decide ((1099511627776 : Int) < m.2.2.2.2.1) else if tag = 36 then !decide ((m.2.2.2.2.2.1 : Int) < 0) && !decide ((3 : Int) < m.2.2.2.2.2.1) else if tag = 37 then !decide ((3000 : Int) < ((List.length (α := UInt8) m.2.2.2.2.2.2.1 : Nat) : Int)) else if tag = 38 then !decide ((3000 : Int) < ((List.length (α := UInt8) m.2.2.2.2.2.2.2.1 : Nat) : Int)) else !decide ((m.2.2.2.2.2.2.2.2.1 : Int) < 1) && !decide ((999 : Int) < m.2.2.2.2.2.2.2.2.1)
def kVal : Con := Con.ofO [.rd krK, .a (.v (.int .i64))] [] (fun x => [List.length (α := UInt8) x.1.2.1 ≤ 1000000000, List.length (α := UInt8) x.1.2.2.1 ≤ 1000000000]) (fun x => ⟨.tuple [.pure (.slice true (.int .u8)) (vaB x.1 (toI .i64 x.2.1)), .bool (vaO x.1 (toI .i64 x.2.1))], []⟩)
def cfgKC2 : Cfg2 := { ty := tyTabM, fn := fun | 60 => some kNumP.sum | 103 => some kN1.sum | 104 => some kN2.sum | _ => none, G := gNone, pin := [], eq := fun _ => none }
theorem cfgKC2_ok : CfgOK Tryd.prog cfgKC2 := ⟨tyTabM_ok, (fun f s h => by
  simp only [cfgKC2] at h
  split at h
  · injection h with h; subst h; exact .inl numP_sum
  · injection h with h; subst h; exact .inl kn1_sum
  · injection h with h; subst h; exact .inl kn2_sum
  · cases h), (fun t d h => by cases h)⟩
section
attribute [local go_sem] Tryd.f88 kVal kNumP kN1 kN2 cfgKC2 tyTabM tyTabK tyTab
theorem val_body (p : kVal.Par) (hp : ∀ q ∈ kVal.pre p, q) : BodyOK Tryd.prog cfgKC2 Tryd.f88 (Tryd.f88.body.get rfl) kVal p := by
  obtain ⟨⟨(kd : Int), (cl : List UInt8), (sv : List UInt8), (no : UInt64), (en : Int), (fl : Int), (ti : List UInt8), (se : List UInt8), (co : Int), u1⟩, (tag : Int), u⟩ := p
  obtain ⟨h0, h1, _⟩ := Obs.of hp
  replace h0 : cl.length ≤ 1000000000 := h0
  replace h1 : sv.length ≤ 1000000000 := h1
  refine ⟨?_, Nat.zero_le _, rfl, rfl⟩
  show Tri _ _ _ (Code.seq _ (Code.seq _ (Code.seq _ (Code.seq (Code.seq _ (Code.block _ (Code.seq _ (Code.cond _ (Code.seq _ _) (Code.seq _ (Code.cond _ (Code.seq _ _) (Code.seq _ (Code.cond _ (Code.seq _ _) (Code.seq _ (Code.cond _ (Code.seq _ _) (Code.seq _ (Code.cond _ (Code.seq _ _) (Code.seq _ (Code.cond _ (Code.seq _ _) (Code.seq _ (Code.cond _ (Code.seq _ _) _)))))))))))))))) (Code.seq _ (Code.seq _ _)))))) _
  by_cases k32 : tag = 32
  · subst k32
    have z32 : decide ((32 : Int) = 32) = true := rfl
    have e1 : vaB (kd, cl, sv, no, en, fl, ti, se, co, u1) 32 = cl := rfl
    have e2 : vaO (kd, cl, sv, no, en, fl, ti, se, co, u1) 32 = rgS (pwS cl) := rfl
    refine Tri.at (by first | (simp only [Con.start, go_sem]; rfl) | rfl) ?_
    repeat (first | ((first | refine Tri.seq (Tri.regT (cfgKC2_ok.pins _) ?_) | refine Tri.rgnT (cfgKC2_ok.pins _) ?_); (repeat (first | refine RunT.oneA (hp := by simp (maxSteps := 2000000) (disch := first | decide | omega | (simp only [List.length_append, List.length_cons, List.length_nil, List.length_take, List.length_drop]; omega)) only [go_sem]; rfl) (h := ?_) | refine RunT.notA (h := ?_))); refine RunT.nil ?_; try simp only [InBlock, Then]) | ((first | refine Tri.seq (Tri.drwT (mixed) (cfgKC2_ok.pins _) ?_) | refine Tri.drnT (mixed) (cfgKC2_ok.pins _) ?_); (repeat (first | refine RunD.oneA (hp := by simp (maxSteps := 2000000) (disch := first | decide | omega | (simp only [List.length_append, List.length_cons, List.length_nil, List.length_take, List.length_drop]; omega)) only [z32, e1, e2, go_sem]; rfl) (h := ?_) | refine RunD.notA (h := ?_))); refine RunD.nil ?_; refine ⟨by kernel_rfl, ?_⟩; try simp only [InBlock, Then]) | refine Tri.cF (by first | (simp only [go_sem]; done) | fail) ?_ | refine Tri.cT (by first | (simp only [go_sem]; done) | fail) ?_ | (refine Tri.skip ?_; try simp only [InBlock, Then]) | (refine Tri.exit ?_; simp only [Then, InBlock, if_true, if_false, ↓reduceIte, Nat.reduceEqDiff]) | refine Tri.seq (Tri.block ?_) | refine Tri.block ?_ | refine Tri.seq ?_ | (refine Tri.ret ?_; refine Con.fin (.inl rfl) (by simp only [Tryd.f88, cfgKC2, resA, resA1, go_sem]; rfl) (by simp only [Obs]) (by first | (simp only [kVal, Con.ofO, resV, e1, e2, go_sem]; done) | fail) trivial rfl rfl))
  by_cases k33 : tag = 33
  · subst k33
    have z32 : decide ((33 : Int) = 32) = false := rfl
    have z33 : decide ((33 : Int) = 33) = true := rfl
    have e1 : vaB (kd, cl, sv, no, en, fl, ti, se, co, u1) 33 = sv := rfl
    have e2 : vaO (kd, cl, sv, no, en, fl, ti, se, co, u1) 33 = rgS (pwS sv) := rfl
    refine Tri.at (by first | (simp only [Con.start, go_sem]; rfl) | rfl) ?_
    repeat (first | ((first | refine Tri.seq (Tri.regT (cfgKC2_ok.pins _) ?_) | refine Tri.rgnT (cfgKC2_ok.pins _) ?_); (repeat (first | refine RunT.oneA (hp := by simp (maxSteps := 2000000) (disch := first | decide | omega | (simp only [List.length_append, List.length_cons, List.length_nil, List.length_take, List.length_drop]; omega)) only [go_sem]; rfl) (h := ?_) | refine RunT.notA (h := ?_))); refine RunT.nil ?_; try simp only [InBlock, Then]) | ((first | refine Tri.seq (Tri.drwT (mixed) (cfgKC2_ok.pins _) ?_) | refine Tri.drnT (mixed) (cfgKC2_ok.pins _) ?_); (repeat (first | refine RunD.oneA (hp := by simp (maxSteps := 2000000) (disch := first | decide | omega | (simp only [List.length_append, List.length_cons, List.length_nil, List.length_take, List.length_drop]; omega)) only [z32, z33, e1, e2, go_sem]; rfl) (h := ?_) | refine RunD.notA (h := ?_))); refine RunD.nil ?_; refine ⟨by kernel_rfl, ?_⟩; try simp only [InBlock, Then]) | refine Tri.cF (by first | (simp only [go_sem]; done) | fail) ?_ | refine Tri.cT (by first | (simp only [go_sem]; done) | fail) ?_ | (refine Tri.skip ?_; try simp only [InBlock, Then]) | (refine Tri.exit ?_; simp only [Then, InBlock, if_true, if_false, ↓reduceIte, Nat.reduceEqDiff]) | refine Tri.seq (Tri.block ?_) | refine Tri.block ?_ | refine Tri.seq ?_ | (refine Tri.ret ?_; refine Con.fin (.inl rfl) (by simp only [Tryd.f88, cfgKC2, resA, resA1, go_sem]; rfl) (by simp only [Obs]) (by first | (simp only [kVal, Con.ofO, resV, e1, e2, go_sem]; done) | fail) trivial rfl rfl))
  by_cases k34 : tag = 34
  · subst k34
    have z32 : decide ((34 : Int) = 32) = false := rfl
    have z33 : decide ((34 : Int) = 33) = false := rfl
    have z34 : decide ((34 : Int) = 34) = true := rfl
    have e1 : vaB (kd, cl, sv, no, en, fl, ti, se, co, u1) 34 = numS no := rfl
    have e2 : vaO (kd, cl, sv, no, en, fl, ti, se, co, u1) 34 = true := rfl
    refine Tri.at (by first | (simp only [Con.start, go_sem]; rfl) | rfl) ?_
    repeat (first | ((first | refine Tri.seq (Tri.regT (cfgKC2_ok.pins _) ?_) | refine Tri.rgnT (cfgKC2_ok.pins _) ?_); (repeat (first | refine RunT.oneA (hp := by simp (maxSteps := 2000000) (disch := first | decide | omega | (simp only [List.length_append, List.length_cons, List.length_nil, List.length_take, List.length_drop]; omega)) only [go_sem]; rfl) (h := ?_) | refine RunT.notA (h := ?_))); refine RunT.nil ?_; try simp only [InBlock, Then]) | ((first | refine Tri.seq (Tri.drwT (mixed) (cfgKC2_ok.pins _) ?_) | refine Tri.drnT (mixed) (cfgKC2_ok.pins _) ?_); (repeat (first | refine RunD.oneA (hp := by simp (maxSteps := 2000000) (disch := first | decide | omega | (simp only [List.length_append, List.length_cons, List.length_nil, List.length_take, List.length_drop]; omega)) only [z32, z33, z34, e1, e2, go_sem]; rfl) (h := ?_) | refine RunD.notA (h := ?_))); refine RunD.nil ?_; refine ⟨by kernel_rfl, ?_⟩; try simp only [InBlock, Then]) | refine Tri.cF (by first | (simp only [go_sem]; done) | fail) ?_ | refine Tri.cT (by first | (simp only [go_sem]; done) | fail) ?_ | (refine Tri.skip ?_; try simp only [InBlock, Then]) | (refine Tri.exit ?_; simp only [Then, InBlock, if_true, if_false, ↓reduceIte, Nat.reduceEqDiff]) | refine Tri.seq (Tri.block ?_) | refine Tri.block ?_ | refine Tri.seq ?_ | (refine Tri.ret ?_; refine Con.fin (.inl rfl) (by simp only [Tryd.f88, cfgKC2, resA, resA1, go_sem]; rfl) (by simp only [Obs]) (by first | (simp only [kVal, Con.ofO, resV, e1, e2, go_sem]; done) | fail) trivial rfl rfl))
  by_cases k35 : tag = 35
  · subst k35
    have z32 : decide ((35 : Int) = 32) = false := rfl
    have z33 : decide ((35 : Int) = 33) = false := rfl
    have z34 : decide ((35 : Int) = 34) = false := rfl
    have z35 : decide ((35 : Int) = 35) = true := rfl
    have e1 : vaB (kd, cl, sv, no, en, fl, ti, se, co, u1) 35 = numS (UInt64.ofInt en) := rfl
    have e2 : vaO (kd, cl, sv, no, en, fl, ti, se, co, u1) 35 = (!decide (en < 0) && !decide ((1099511627776 : Int) < en)) := rfl
    refine Tri.at (by first | (simp only [Con.start, go_sem]; rfl) | rfl) ?_
    repeat (first | ((first | refine Tri.seq (Tri.regT (cfgKC2_ok.pins _) ?_) | refine Tri.rgnT (cfgKC2_ok.pins _) ?_); (repeat (first | refine RunT.oneA (hp := by simp (maxSteps := 2000000) (disch := first | decide | omega | (simp only [List.length_append, List.length_cons, List.length_nil, List.length_take, List.length_drop]; omega)) only [go_sem]; rfl) (h := ?_) | refine RunT.notA (h := ?_))); refine RunT.nil ?_; try simp only [InBlock, Then]) | ((first | refine Tri.seq (Tri.drwT (mixed) (cfgKC2_ok.pins _) ?_) | refine Tri.drnT (mixed) (cfgKC2_ok.pins _) ?_); (repeat (first | refine RunD.oneA (hp := by simp (maxSteps := 2000000) (disch := first | decide | omega | (simp only [List.length_append, List.length_cons, List.length_nil, List.length_take, List.length_drop]; omega)) only [z32, z33, z34, z35, go_sem]; rfl) (h := ?_) | refine RunD.notA (h := ?_))); refine RunD.nil ?_; refine ⟨by kernel_rfl, ?_⟩; try simp only [InBlock, Then]) | refine Tri.cF (by first | (simp only [go_sem]; done) | fail) ?_ | refine Tri.cT (by first | (simp only [go_sem]; done) | fail) ?_ | (refine Tri.skip ?_; try simp only [InBlock, Then]) | (refine Tri.exit ?_; simp only [Then, InBlock, if_true, if_false, ↓reduceIte, Nat.reduceEqDiff]) | refine Tri.seq (Tri.block ?_) | refine Tri.block ?_ | refine Tri.seq ?_ | (refine Tri.ret ?_; refine Con.fin (.inl rfl) (by simp only [Tryd.f88, cfgKC2, resA, resA1, go_sem]; rfl) (by simp only [Obs]) (by first | (simp only [kVal, Con.ofO, resV, go_sem]; done) | fail) trivial rfl rfl))
    refine Tri.ret ?_
    refine Con.fin (.inl rfl) (by simp only [Tryd.f88, cfgKC2, resA, resA1, go_sem]; rfl) (by simp only [Obs]) ?_ ?_ rfl rfl
    · show AV.tuple [.pure (.slice true (.int .u8)) (numS (UInt64.ofInt en)), .bool (!decide (en < 0) && !decide ((1099511627776 : Int) < en))] = AV.tuple [.pure (.slice true (.int .u8)) (vaB (kd, cl, sv, no, en, fl, ti, se, co, u1) 35), .bool (vaO (kd, cl, sv, no, en, fl, ti, se, co, u1) 35)]
      rw [e1, e2]
    · exact True.intro
  by_cases k36 : tag = 36
  · subst k36
    have z32 : decide ((36 : Int) = 32) = false := rfl
    have z33 : decide ((36 : Int) = 33) = false := rfl
    have z34 : decide ((36 : Int) = 34) = false := rfl
    have z35 : decide ((36 : Int) = 35) = false := rfl
    have z36 : decide ((36 : Int) = 36) = true := rfl
    have e1 : vaB (kd, cl, sv, no, en, fl, ti, se, co, u1) 36 = numS (UInt64.ofInt fl) := rfl
    have e2 : vaO (kd, cl, sv, no, en, fl, ti, se, co, u1) 36 = (!decide (fl < 0) && !decide ((3 : Int) < fl)) := rfl
    refine Tri.at (by first | (simp only [Con.start, go_sem]; rfl) | rfl) ?_
    repeat (first | ((first | refine Tri.seq (Tri.regT (cfgKC2_ok.pins _) ?_) | refine Tri.rgnT (cfgKC2_ok.pins _) ?_); (repeat (first | refine RunT.oneA (hp := by simp (maxSteps := 2000000) (disch := first | decide | omega | (simp only [List.length_append, List.length_cons, List.length_nil, List.length_take, List.length_drop]; omega)) only [go_sem]; rfl) (h := ?_) | refine RunT.notA (h := ?_))); refine RunT.nil ?_; try simp only [InBlock, Then]) | ((first | refine Tri.seq (Tri.drwT (mixed) (cfgKC2_ok.pins _) ?_) | refine Tri.drnT (mixed) (cfgKC2_ok.pins _) ?_); (repeat (first | refine RunD.oneA (hp := by simp (maxSteps := 2000000) (disch := first | decide | omega | (simp only [List.length_append, List.length_cons, List.length_nil, List.length_take, List.length_drop]; omega)) only [z32, z33, z34, z35, z36, go_sem]; rfl) (h := ?_) | refine RunD.notA (h := ?_))); refine RunD.nil ?_; refine ⟨by kernel_rfl, ?_⟩; try simp only [InBlock, Then]) | refine Tri.cF (by first | (simp only [go_sem]; done) | fail) ?_ | refine Tri.cT (by first | (simp only [go_sem]; done) | fail) ?_ | (refine Tri.skip ?_; try simp only [InBlock, Then]) | (refine Tri.exit ?_; simp only [Then, InBlock, if_true, if_false, ↓reduceIte, Nat.reduceEqDiff]) | refine Tri.seq (Tri.block ?_) | refine Tri.block ?_ | refine Tri.seq ?_ | (refine Tri.ret ?_; refine Con.fin (.inl rfl) (by simp only [Tryd.f88, cfgKC2, resA, resA1, go_sem]; rfl) (by simp only [Obs]) (by first | (simp only [kVal, Con.ofO, resV, go_sem]; done) | fail) trivial rfl rfl))
    refine Tri.ret ?_
    refine Con.fin (.inl rfl) (by simp only [Tryd.f88, cfgKC2, resA, resA1, go_sem]; rfl) (by simp only [Obs]) ?_ ?_ rfl rfl
    · show AV.tuple [.pure (.slice true (.int .u8)) (numS (UInt64.ofInt fl)), .bool (!decide (fl < 0) && !decide ((3 : Int) < fl))] = AV.tuple [.pure (.slice true (.int .u8)) (vaB (kd, cl, sv, no, en, fl, ti, se, co, u1) 36), .bool (vaO (kd, cl, sv, no, en, fl, ti, se, co, u1) 36)]
      rw [e1, e2]
    · exact True.intro
  by_cases k37 : tag = 37
  · subst k37
    have z32 : decide ((37 : Int) = 32) = false := rfl
    have z33 : decide ((37 : Int) = 33) = false := rfl
    have z34 : decide ((37 : Int) = 34) = false := rfl
    have z35 : decide ((37 : Int) = 35) = false := rfl
    have z36 : decide ((37 : Int) = 36) = false := rfl
    have z37 : decide ((37 : Int) = 37) = true := rfl
    have e1 : vaB (kd, cl, sv, no, en, fl, ti, se, co, u1) 37 = ti := rfl
    have e2 : vaO (kd, cl, sv, no, en, fl, ti, se, co, u1) 37 = !decide ((3000 : Int) < (ti.length : Int)) := rfl
    refine Tri.at (by first | (simp only [Con.start, go_sem]; rfl) | rfl) ?_
    repeat (first | ((first | refine Tri.seq (Tri.regT (cfgKC2_ok.pins _) ?_) | refine Tri.rgnT (cfgKC2_ok.pins _) ?_); (repeat (first | refine RunT.oneA (hp := by simp (maxSteps := 2000000) (disch := first | decide | omega | (simp only [List.length_append, List.length_cons, List.length_nil, List.length_take, List.length_drop]; omega)) only [go_sem]; rfl) (h := ?_) | refine RunT.notA (h := ?_))); refine RunT.nil ?_; try simp only [InBlock, Then]) | ((first | refine Tri.seq (Tri.drwT (mixed) (cfgKC2_ok.pins _) ?_) | refine Tri.drnT (mixed) (cfgKC2_ok.pins _) ?_); (repeat (first | refine RunD.oneA (hp := by simp (maxSteps := 2000000) (disch := first | decide | omega | (simp only [List.length_append, List.length_cons, List.length_nil, List.length_take, List.length_drop]; omega)) only [go_sem]; rfl) (h := ?_) | refine RunD.notA (h := ?_))); refine RunD.nil ?_; refine ⟨by kernel_rfl, ?_⟩; try simp only [InBlock, Then]) | refine Tri.cF (by first | (simp only [go_sem]; done) | fail) ?_ | refine Tri.cT (by first | (simp only [go_sem]; done) | fail) ?_ | (refine Tri.skip ?_; try simp only [InBlock, Then]) | (refine Tri.exit ?_; simp only [Then, InBlock, if_true, if_false, ↓reduceIte, Nat.reduceEqDiff]) | refine Tri.seq (Tri.block ?_) | refine Tri.block ?_ | refine Tri.seq ?_ | (refine Tri.ret ?_; refine Con.fin (.inl rfl) (by simp only [Tryd.f88, cfgKC2, resA, resA1, go_sem]; rfl) (by simp only [Obs]) (by first | (simp only [kVal, Con.ofO, resV, e1, e2, go_sem]; done) | fail) trivial rfl rfl))
  by_cases k38 : tag = 38
  · subst k38
    have z32 : decide ((38 : Int) = 32) = false := rfl
    have z33 : decide ((38 : Int) = 33) = false := rfl
    have z34 : decide ((38 : Int) = 34) = false := rfl
    have z35 : decide ((38 : Int) = 35) = false := rfl
    have z36 : decide ((38 : Int) = 36) = false := rfl
    have z37 : decide ((38 : Int) = 37) = false := rfl
    have z38 : decide ((38 : Int) = 38) = true := rfl
    have e1 : vaB (kd, cl, sv, no, en, fl, ti, se, co, u1) 38 = se := rfl
    have e2 : vaO (kd, cl, sv, no, en, fl, ti, se, co, u1) 38 = !decide ((3000 : Int) < (se.length : Int)) := rfl
    refine Tri.at (by first | (simp only [Con.start, go_sem]; rfl) | rfl) ?_
    repeat (first | ((first | refine Tri.seq (Tri.regT (cfgKC2_ok.pins _) ?_) | refine Tri.rgnT (cfgKC2_ok.pins _) ?_); (repeat (first | refine RunT.oneA (hp := by simp (maxSteps := 2000000) (disch := first | decide | omega | (simp only [List.length_append, List.length_cons, List.length_nil, List.length_take, List.length_drop]; omega)) only [go_sem]; rfl) (h := ?_) | refine RunT.notA (h := ?_))); refine RunT.nil ?_; try simp only [InBlock, Then]) | ((first | refine Tri.seq (Tri.drwT (mixed) (cfgKC2_ok.pins _) ?_) | refine Tri.drnT (mixed) (cfgKC2_ok.pins _) ?_); (repeat (first | refine RunD.oneA (hp := by simp (maxSteps := 2000000) (disch := first | decide | omega | (simp only [List.length_append, List.length_cons, List.length_nil, List.length_take, List.length_drop]; omega)) only [go_sem]; rfl) (h := ?_) | refine RunD.notA (h := ?_))); refine RunD.nil ?_; refine ⟨by kernel_rfl, ?_⟩; try simp only [InBlock, Then]) | refine Tri.cF (by first | (simp only [go_sem]; done) | fail) ?_ | refine Tri.cT (by first | (simp only [go_sem]; done) | fail) ?_ | (refine Tri.skip ?_; try simp only [InBlock, Then]) | (refine Tri.exit ?_; simp only [Then, InBlock, if_true, if_false, ↓reduceIte, Nat.reduceEqDiff]) | refine Tri.seq (Tri.block ?_) | refine Tri.block ?_ | refine Tri.seq ?_ | (refine Tri.ret ?_; refine Con.fin (.inl rfl) (by simp only [Tryd.f88, cfgKC2, resA, resA1, go_sem]; rfl) (by simp only [Obs]) (by first | (simp only [kVal, Con.ofO, resV, e1, e2, go_sem]; done) | fail) trivial rfl rfl))
  have z32 : decide (tag = 32) = false := decide_eq_false k32
  have z33 : decide (tag = 33) = false := decide_eq_false k33
  have z34 : decide (tag = 34) = false := decide_eq_false k34
  have z35 : decide (tag = 35) = false := decide_eq_false k35
  have z36 : decide (tag = 36) = false := decide_eq_false k36
  have z37 : decide (tag = 37) = false := decide_eq_false k37
  have z38 : decide (tag = 38) = false := decide_eq_false k38
  have e1 : vaB (kd, cl, sv, no, en, fl, ti, se, co, u1) tag = numS (UInt64.ofInt co) := by simp only [vaB, k32, k33, k34, k35, k36, k37, k38, if_false]
  have e2 : vaO (kd, cl, sv, no, en, fl, ti, se, co, u1) tag = (!decide (co < 1) && !decide ((999 : Int) < co)) := by simp only [vaO, k32, k33, k34, k35, k36, k37, k38, if_false]
  cases b1 : decide (co < 1)
  all_goals
    rw [b1] at e2
    simp only [Bool.not_true, Bool.not_false, Bool.true_and, Bool.false_and] at e2
    refine Tri.at (by first | (simp only [Con.start, go_sem]; rfl) | rfl) ?_
    repeat (first | ((first | refine Tri.seq (Tri.regT (cfgKC2_ok.pins _) ?_) | refine Tri.rgnT (cfgKC2_ok.pins _) ?_); (repeat (first | refine RunT.oneA (hp := by simp (maxSteps := 2000000) (disch := first | decide | omega | (simp only [List.length_append, List.length_cons, List.length_nil, List.length_take, List.length_drop]; omega)) only [z32, z33, z34, z35, z36, z37, z38, go_sem]; rfl) (h := ?_) | refine RunT.notA (h := ?_))); refine RunT.nil ?_; try simp only [InBlock, Then]) | ((first | refine Tri.seq (Tri.drwT (mixed) (cfgKC2_ok.pins _) ?_) | refine Tri.drnT (mixed) (cfgKC2_ok.pins _) ?_); (repeat (first | refine RunD.oneA (hp := by simp (maxSteps := 2000000) (disch := first | decide | omega | (simp only [List.length_append, List.length_cons, List.length_nil, List.length_take, List.length_drop]; omega)) only [b1, go_sem]; rfl) (h := ?_) | refine RunD.notA (h := ?_))); refine RunD.nil ?_; refine ⟨by kernel_rfl, ?_⟩; try simp only [InBlock, Then]) | refine Tri.cF (by first | (simp only [go_sem]; done) | fail) ?_ | refine Tri.cT (by first | (simp only [go_sem]; done) | fail) ?_ | (refine Tri.skip ?_; try simp only [InBlock, Then]) | (refine Tri.exit ?_; simp only [Then, InBlock, if_true, if_false, ↓reduceIte, Nat.reduceEqDiff]) | refine Tri.seq (Tri.block ?_) | refine Tri.block ?_ | refine Tri.seq ?_ | (refine Tri.ret ?_; refine Con.fin (.inl rfl) (by simp only [Tryd.f88, cfgKC2, resA, resA1, go_sem]; rfl) (by simp only [Obs]) (by first | (simp only [kVal, Con.ofO, resV, e1, e2, go_sem]; done) | fail) trivial rfl rfl))
theorem val_sum : FSumOK Tryd.prog cfgKC2.G 88 kVal.sum := Con.sumOK cfgKC2_ok kVal Tryd.func88 rfl rfl (Con.ofO_inv _ _ _ _) val_body
end
end Go.Proofs.YtjdeaphfamenaaaDoor

namespace Go.Proofs.YtjdeaphfamenaaaDoor
open Go.Vc Go.Proofs
set_option maxRecDepth 10000
set_option maxHeartbeats 4000000
def spN (d : List UInt8) : Nat := (d.getD 1 0).toNat * 256 + (d.getD 2 0).toNat
def spF : Nat → List UInt8 → List flK.T → Option (List flK.T) × Int
  | 0, _, acc => (some acc, 0)
  | k + 1, d, acc =>
    if d.length = 0 then (some acc, 0)
    else if d.getD 0 0 = 0 then (none, 21)
    else if d.length < 3 then (none, 20)
    else if d.length - 3 < spN d then (none, 20)
    else spF k (List.drop (spN d) (List.drop 3 d)) (acc ++ [((((d.getD 0 0).toNat : Int), List.take (spN d) (List.drop 3 d), ()) : flK.T)])
def spV (d : List UInt8) : AV := match spF d.length d [] with
  | (none, e) => .tuple [.nilsl, .int .i64 e]
  | (some fs, _) => .tuple [.pure (.slice true flK) fs, .int .i64 (0 : Int)]
theorem sp_or (a b : UInt8) : orT .i64 (shlT .i64 ((a.toNat : Nat) : Int) 8) ((b.toNat : Nat) : Int) = ((a.toNat * 256 + b.toNat : Nat) : Int) := by
  have ha := UInt8.toNat_lt a
  have hb := UInt8.toNat_lt b
  have h1 : (shlT .i64 ((a.toNat : Nat) : Int) 8 : Int) = ((a.toNat * 256 : Nat) : Int) := by
    have h := toI_shlT .i64 ((a.toNat : Nat) : Int) 8
    have e : toI .i64 (shlT .i64 ((a.toNat : Nat) : Int) 8) = (shlT .i64 ((a.toNat : Nat) : Int) 8 : Int) := rfl
    rw [← e, h]
    show IntKind.i64.wrap (((a.toNat : Nat) : Int) * 2 ^ min 8 64) = _
    have e2 : ((2 : Int) ^ min 8 64) = 256 := by decide
    rw [e2, wrap_i64_id _ (by omega) (by omega)]
    omega
  rw [h1]
  show bits .or .i64 ((a.toNat * 256 : Nat) : Int) ((b.toNat : Nat) : Int) = _
  have e3 : bits .or .i64 ((a.toNat * 256 : Nat) : Int) ((b.toNat : Nat) : Int) = IntKind.wrap .i64 (((BitVec.ofInt 64 ((a.toNat * 256 : Nat) : Int)) ||| (BitVec.ofInt 64 ((b.toNat : Nat) : Int))).toNat : Int) := rfl
  have h2 : ((BitVec.ofInt 64 ((a.toNat * 256 : Nat) : Int)) ||| (BitVec.ofInt 64 ((b.toNat : Nat) : Int))).toNat = a.toNat * 256 + b.toNat := by
    rw [BitVec.toNat_or]
    have f1 : (BitVec.ofInt 64 ((a.toNat * 256 : Nat) : Int)).toNat = a.toNat * 256 := by simp <;> omega
    have f2 : (BitVec.ofInt 64 ((b.toNat : Nat) : Int)).toNat = b.toNat := by simp <;> omega
    rw [f1, f2]
    have h3 := Nat.two_pow_add_eq_or_of_lt (i := 8) (b := b.toNat) (by omega) a.toNat
    rw [Nat.mul_comm a.toNat 256]
    exact h3.symm
  rw [e3, h2, wrap_i64_id _ (by omega) (by omega)]
def kSpt : Con := Con.of [.v (.slice false (.int .u8))] (fun x => [List.length (α := UInt8) x.1 ≤ 1000000]) (fun x => ⟨spV x.1, []⟩)
def cfgKP1 : Cfg2 := { ty := tyTabM, fn := fun | 96 => some kClo.sum | _ => none, G := gNone, pin := [], eq := fun _ => none }
theorem cfgKP1_ok : CfgOK Tryd.prog cfgKP1 := ⟨tyTabM_ok, (fun f s h => by
  simp only [cfgKP1] at h
  split at h
  · injection h with h; subst h; exact .inl clo_sum
  · cases h), (fun t d h => by cases h)⟩
section
attribute [local go_sem] Tryd.f72 kSpt kClo cfgKP1 tyTabM tyTabK tyTab
theorem spt_body (p : kSpt.Par) (hp : ∀ q ∈ kSpt.pre p, q) : BodyOK Tryd.prog cfgKP1 Tryd.f72 (Tryd.f72.body.get rfl) kSpt p := by
  obtain ⟨(d0 : List UInt8), u⟩ := p
  obtain ⟨h0, _⟩ := Obs.of hp
  replace h0 : d0.length ≤ 1000000 := h0
  refine ⟨?_, Nat.zero_le _, (by show (spV d0).strict = true; unfold spV; split <;> rfl), rfl⟩
  show Tri _ _ _ (Code.seq _ (Code.seq (Code.block _ (Code.loop (Code.seq (Code.seq _ (Code.cond _ _ _)) (Code.block _ (Code.seq (Code.seq _ (Code.cond _ (Code.seq _ _) _)) (Code.seq (Code.seq _ (Code.cond _ (Code.seq _ _) _)) (Code.seq _ (Code.seq _ (Code.seq (Code.seq _ (Code.cond _ (Code.seq _ _) _)) (Code.seq _ _)))))))))) (Code.seq _ _))) _
  have hV : spV d0 = (match spF d0.length d0 [] with
    | (none, e) => .tuple [.nilsl, .int .i64 e]
    | (some fs, _) => .tuple [.pure (.slice true flK) fs, .int .i64 (0 : Int)]) := rfl
  refine Tri.at (by first | (simp only [go_sem, Con.start, go_sem]; rfl) | rfl) ?_
  repeat (first | ((first | refine Tri.seq (Tri.regT (cfgKP1_ok.pins _) ?_) | refine Tri.rgnT (cfgKP1_ok.pins _) ?_); (repeat (first | refine RunT.oneA (hp := by simp (maxSteps := 2000000) (disch := first | decide | omega | (simp only [List.length_append, List.length_cons, List.length_nil, List.length_take, List.length_drop]; omega)) only [go_sem, go_sem]; rfl) (h := ?_) | refine RunT.notA (h := ?_))); refine RunT.nil ?_; try simp only [InBlock, Then]) | refine Tri.cF (by first | (simp only [go_sem, go_sem]; done) | fail) ?_ | refine Tri.cT (by first | (simp only [go_sem, go_sem]; done) | fail) ?_ | (refine Tri.skip ?_; try simp only [InBlock, Then]) | (refine Tri.exit ?_; simp only [Then, InBlock, if_true, if_false, ↓reduceIte, Nat.reduceEqDiff]) | refine Tri.seq (Tri.block ?_) | refine Tri.block ?_ | refine Tri.seq ?_ | (refine Tri.ret ?_; refine Con.fin (.inl rfl) (by simp only [Tryd.f72, cfgKP1, resA, resA1, go_sem]; rfl) (by simp only [Obs, and_true, true_and]) (by first | (simp only [kSpt, Con.of, Con.ofO, resV, go_sem, go_sem]; done) | fail) trivial rfl rfl))
  refine Tri.phT 2 flK 2 rfl rfl ?_
  refine Tri.loop (fun v : Nat × List UInt8 × List flK.T => (⟨[some (.pure (.slice false (.int .u8)) v.2.1), none, some (.tsl 0 [] 0 0 2 v.2.2.length), some (.int .i64 (0 : Int))] ++ List.replicate 44 none, [.live (.pure (.arr v.2.2.length flK) v.2.2)]⟩ : AS)) (fun v => v.2.1.length ≤ v.1 ∧ v.1 ≤ d0.length ∧ v.2.2.length + v.1 ≤ d0.length ∧ spF d0.length d0 [] = spF v.1 v.2.1 v.2.2) (fun v => v.1) (d0.length, d0, []) ?_ ⟨Nat.le_refl _, Nat.le_refl _, (by show 0 + d0.length ≤ d0.length; omega), rfl⟩ ?_
  · refine Wk.of ?_ ?_ rfl rfl
    · simp only [List.reduceReplicate, List.cons_append, List.nil_append, List.length_nil] <;> ((repeat' apply And.intro) <;> first | with_reducible rfl | exact True.intro | exact congrArg (fun z : Int => some (AV.int IntKind.i64 z)) (show (_ : Int) = _ by omega) | exact congrArg (fun z : Nat => some (AV.tsl _ _ _ _ _ z)) (show (_ : Nat) = _ by omega) | exact arrEq (by omega) (by with_reducible rfl))
    exact ⟨rfl, trivial⟩
  · intro ⟨k, d, acc⟩ ⟨hk, hk2, hal, hsp⟩
    replace hk : d.length ≤ k := hk
    replace hk2 : k ≤ d0.length := hk2
    replace hal : acc.length + k ≤ d0.length := hal
    replace hsp : spF d0.length d0 [] = spF k d acc := hsp
    have htk : List.take acc.length acc = acc := List.take_length
    by_cases hz : d.length = 0
    · have hz' : decide ((0 : Int) < (d.length : Int)) = false := decide_eq_false (by omega)
      have hend : spF k d acc = (some acc, 0) := by
        cases k with
        | zero => rfl
        | succ k => rw [spF, if_pos hz]
      rw [hsp, hend] at hV
      replace hV : spV d0 = .tuple [.pure (.slice true flK) acc, .int .i64 (0 : Int)] := hV
      refine Tri.at (by first | (simp only [go_sem]; rfl) | rfl) ?_
      repeat (first | ((first | refine Tri.seq (Tri.regT (cfgKP1_ok.pins _) ?_) | refine Tri.rgnT (cfgKP1_ok.pins _) ?_); (repeat (first | refine RunT.oneA (hp := by simp (maxSteps := 2000000) (disch := first | decide | omega | (simp only [List.length_append, List.length_cons, List.length_nil, List.length_take, List.length_drop]; omega)) only [hz', go_sem]; rfl) (h := ?_) | refine RunT.notA (h := ?_))); refine RunT.nil ?_; try simp only []) | refine Tri.cF (by first | (simp only [go_sem]; done) | fail) ?_ | refine Tri.cT (by first | (simp only [go_sem]; done) | fail) ?_ | (refine Tri.skip ?_; try simp only [InBlock, Then]) | (refine Tri.exit ?_; simp only [Then, InBlock, ↓reduceIte]) | refine Tri.seq (Tri.block ?_) | refine Tri.block ?_ | refine Tri.seq ?_ | (refine Tri.ret ?_; refine Con.fin (.inl rfl) (by simp only [Tryd.f72, cfgKP1, resA, resA1, go_sem]; rfl) (by simp only [Obs]) (by first | (simp only [kSpt, Con.of, resV, go_sem]; done) | fail) trivial rfl rfl))
      refine Tri.rel true 0 rfl ?_ rfl rfl ?_
      · simp only [go_sem]
        repeat' constructor
      refine Tri.at (by first | (simp only [htk, go_sem]; rfl) | rfl) ?_
      refine Tri.ret ?_
      refine Con.fin (.inl rfl) (by simp only [Tryd.f72, cfgKP1, resA, resA1, go_sem]; rfl) (by simp only [Obs]) ?_ ?_ ?_ rfl
      · exact hV.symm
      · exact True.intro
      · show (AS.mk [some (spV d0)] []).closed = true
        rw [hV]; rfl
    · have hz' : decide ((0 : Int) < (d.length : Int)) = true := decide_eq_true (by omega)
      obtain ⟨k', rfl⟩ : ∃ k', k = k' + 1 := ⟨k - 1, by omega⟩
      rw [spF, if_neg hz] at hsp
      by_cases h1 : d.getD 0 0 = 0
      · have h1' : decide (d.getD 0 0 = 0) = true := decide_eq_true h1
        rw [if_pos h1] at hsp
        rw [hsp] at hV
        replace hV : spV d0 = .tuple [.nilsl, .int .i64 (21 : Int)] := hV
        refine Tri.at (by first | (simp only [go_sem]; rfl) | rfl) ?_
        repeat (first | ((first | refine Tri.seq (Tri.regT (cfgKP1_ok.pins _) ?_) | refine Tri.rgnT (cfgKP1_ok.pins _) ?_); (repeat (first | refine RunT.oneA (hp := by simp (maxSteps := 2000000) (disch := first | decide | omega | (simp only [List.length_append, List.length_cons, List.length_nil, List.length_take, List.length_drop]; omega)) only [hz', h1', go_sem]; rfl) (h := ?_) | refine RunT.notA (h := ?_))); refine RunT.nil ?_; try simp only []) | refine Tri.cF (by first | (simp only [go_sem]; done) | fail) ?_ | refine Tri.cT (by first | (simp only [go_sem]; done) | fail) ?_ | (refine Tri.skip ?_; try simp only [Then]) | (refine Tri.exit ?_; simp only [Then, InBlock, if_true, if_false, ↓reduceIte, Nat.reduceEqDiff]) | refine Tri.seq (Tri.block ?_) | refine Tri.block ?_ | refine Tri.seq ?_ | (refine Tri.ret ?_; refine Con.fin (.inl rfl) (by simp only [Tryd.f72, cfgKP1, resA, resA1, go_sem]; rfl) (by simp only [Obs]) (by first | (simp only [kSpt, Con.of, resV, go_sem]; done) | fail) trivial rfl rfl))
        refine Tri.ret ?_
        refine Con.fin (.inl rfl) (by simp only [Tryd.f72, cfgKP1, resA, resA1, go_sem]; rfl) (by simp only [Obs]) ?_ ?_ ?_ rfl
        · exact hV.symm
        · exact True.intro
        · show (AS.mk [some (spV d0)] []).closed = true
          rw [hV]; rfl
      · have h1' : decide (d.getD 0 0 = 0) = false := decide_eq_false h1
        rw [if_neg h1] at hsp
        by_cases h2 : d.length < 3
        · have h2' : decide ((d.length : Int) < 3) = true := decide_eq_true (by omega)
          rw [if_pos h2] at hsp
          rw [hsp] at hV
          replace hV : spV d0 = .tuple [.nilsl, .int .i64 (20 : Int)] := hV
          refine Tri.at (by first | (simp only [go_sem]; rfl) | rfl) ?_
          repeat (first | ((first | refine Tri.seq (Tri.regT (cfgKP1_ok.pins _) ?_) | refine Tri.rgnT (cfgKP1_ok.pins _) ?_); (repeat (first | refine RunT.oneA (hp := by simp (maxSteps := 2000000) (disch := first | decide | omega | (simp only [List.length_append, List.length_cons, List.length_nil, List.length_take, List.length_drop]; omega)) only [hz', h1', h2', go_sem]; rfl) (h := ?_) | refine RunT.notA (h := ?_))); refine RunT.nil ?_; try simp only []) | refine Tri.cF (by first | (simp only [go_sem]; done) | fail) ?_ | refine Tri.cT (by first | (simp only [go_sem]; done) | fail) ?_ | (refine Tri.skip ?_; try simp only [Then]) | (refine Tri.exit ?_; simp only [Then, InBlock, if_true, if_false, ↓reduceIte, Nat.reduceEqDiff]) | refine Tri.seq (Tri.block ?_) | refine Tri.block ?_ | refine Tri.seq ?_ | (refine Tri.ret ?_; refine Con.fin (.inl rfl) (by simp only [Tryd.f72, cfgKP1, resA, resA1, go_sem]; rfl) (by simp only [Obs]) (by first | (simp only [kSpt, Con.of, resV, go_sem]; done) | fail) trivial rfl rfl))
          refine Tri.ret ?_
          refine Con.fin (.inl rfl) (by simp only [Tryd.f72, cfgKP1, resA, resA1, go_sem]; rfl) (by simp only [Obs]) ?_ ?_ ?_ rfl
          · exact hV.symm
          · exact True.intro
          · show (AS.mk [some (spV d0)] []).closed = true
            rw [hV]; rfl
        · have h2' : decide ((d.length : Int) < 3) = false := decide_eq_false (by omega)
          rw [if_neg h2] at hsp
          have hor := sp_or (d.getD 1 0) (d.getD 2 0)
          have hn : (d.getD 1 0).toNat * 256 + (d.getD 2 0).toNat = spN d := rfl
          rw [hn] at hor
          have hr : List.take (d.length - 3) (List.drop 3 d) = List.drop 3 d := List.take_of_length_le (by rw [List.length_drop]; exact Nat.le_refl _)
          have hrl : (List.drop 3 d).length = d.length - 3 := List.length_drop ..
          by_cases h3 : d.length - 3 < spN d
          · have h3' : decide (((d.length - 3 : Nat) : Int) < (spN d : Int)) = true := decide_eq_true (by omega)
            rw [if_pos h3] at hsp
            rw [hsp] at hV
            replace hV : spV d0 = .tuple [.nilsl, .int .i64 (20 : Int)] := hV
            refine Tri.at (by first | (simp only [go_sem]; rfl) | rfl) ?_
            repeat (first | ((first | refine Tri.seq (Tri.regT (cfgKP1_ok.pins _) ?_) | refine Tri.rgnT (cfgKP1_ok.pins _) ?_); (repeat (first | refine RunT.oneA (hp := by simp (maxSteps := 2000000) (disch := first | decide | omega | (simp only [List.length_append, List.length_cons, List.length_nil, List.length_take, List.length_drop]; omega)) only [hz', h1', h2', hr, hrl, h3', go_sem]; rfl) (h := ?_) | refine RunT.notA (h := ?_))); refine RunT.nil ?_; try simp only []) | ((first | refine Tri.seq (Tri.drwT (mixed) (cfgKP1_ok.pins _) ?_) | refine Tri.drnT (mixed) (cfgKP1_ok.pins _) ?_); (repeat (first | refine RunD.oneA (hp := by simp (maxSteps := 2000000) (disch := first | decide | omega | (simp only [List.length_append, List.length_cons, List.length_nil, List.length_take, List.length_drop]; omega)) only [hor, go_sem]; rfl) (h := ?_) | refine RunD.notA (h := ?_))); refine RunD.nil ?_; refine ⟨by kernel_rfl, ?_⟩; try simp only [InBlock, Then]) | refine Tri.cF (by first | (simp only [go_sem]; done) | fail) ?_ | refine Tri.cT (by first | (simp only [go_sem]; done) | fail) ?_ | (refine Tri.skip ?_; try simp only [Then]) | (refine Tri.exit ?_; simp only [Then, InBlock, if_true, if_false, ↓reduceIte, Nat.reduceEqDiff]) | refine Tri.seq (Tri.block ?_) | refine Tri.block ?_ | refine Tri.seq ?_ | (refine Tri.ret ?_; refine Con.fin (.inl rfl) (by simp only [Tryd.f72, cfgKP1, resA, resA1, go_sem]; rfl) (by simp only [Obs]) (by first | (simp only [kSpt, Con.of, resV, go_sem]; done) | fail) trivial rfl rfl))
            refine Tri.ret ?_
            refine Con.fin (.inl rfl) (by simp only [Tryd.f72, cfgKP1, resA, resA1, go_sem]; rfl) (by simp only [Obs]) ?_ ?_ ?_ rfl
            · exact hV.symm
            · exact True.intro
            · show (AS.mk [some (spV d0)] []).closed = true
              rw [hV]; rfl
          · have h3' : decide (((d.length - 3 : Nat) : Int) < (spN d : Int)) = false := decide_eq_false (by omega)
            rw [if_neg h3] at hsp
            have hcl : (List.take (spN d) (List.drop 3 d)).length ≤ 140737488355328 := by rw [List.length_take, hrl]; omega
            have hr2 : List.take (d.length - 3 - spN d) (List.drop (spN d) (List.drop 3 d)) = List.drop (spN d) (List.drop 3 d) := List.take_of_length_le (by rw [List.length_drop, hrl]; exact Nat.le_refl _)
            refine Tri.at (by first | (simp only [go_sem]; rfl) | rfl) ?_
            repeat (first | ((first | refine Tri.seq (Tri.regT (cfgKP1_ok.pins _) ?_) | refine Tri.rgnT (cfgKP1_ok.pins _) ?_); (repeat (first | refine RunT.oneA (hp := by simp (maxSteps := 2000000) (disch := first | decide | omega | (simp only [List.length_append, List.length_cons, List.length_nil, List.length_take, List.length_drop]; omega)) only [hz', h1', h2', hr, hrl, h3', hr2, go_sem]; rfl) (h := ?_) | refine RunT.notA (h := ?_))); refine RunT.nil ?_; try simp only [InBlock, Then]) | ((first | refine Tri.seq (Tri.drwT (mixed) (cfgKP1_ok.pins _) ?_) | refine Tri.drnT (mixed) (cfgKP1_ok.pins _) ?_); (repeat (first | refine RunD.oneA (hp := by simp (maxSteps := 2000000) (disch := first | decide | omega | (simp only [List.length_append, List.length_cons, List.length_nil, List.length_take, List.length_drop]; omega)) only [hor, hrl, htk, Nat.sub_zero, go_sem]; rfl) (h := ?_) | refine RunD.notA (h := ?_))); refine RunD.nil ?_; refine ⟨by kernel_rfl, ?_⟩; try simp only [InBlock, Then]) | refine Tri.cF (by first | (simp only [go_sem]; done) | fail) ?_ | refine Tri.cT (by first | (simp only [go_sem]; done) | fail) ?_ | (refine Tri.skip ?_; try simp only [Then]) | (refine Tri.exit ?_; simp only [Then, InBlock, if_true, if_false, ↓reduceIte, Nat.reduceEqDiff]) | refine Tri.seq (Tri.block ?_) | refine Tri.block ?_ | refine Tri.seq ?_ | (refine Tri.ret ?_; refine Con.fin (.inl rfl) (by simp only [Tryd.f72, cfgKP1, resA, resA1, go_sem]; rfl) (by simp only [Obs, and_true, true_and]) (by first | (simp only [kSpt, Con.of, Con.ofO, resV, hz', h1', h2', hor, hr, hrl, h3', htk, hr2, Nat.sub_zero, go_sem]; done) | fail) trivial rfl rfl))
            refine ⟨(k', List.drop (spN d) (List.drop 3 d), acc ++ [((((d.getD 0 0).toNat : Int), List.take (spN d) (List.drop 3 d), ()) : flK.T)]), ⟨(by show (List.drop (spN d) (List.drop 3 d)).length ≤ k'; rw [List.length_drop, hrl]; omega), (by show k' ≤ d0.length; omega), (by show (acc ++ [((((d.getD 0 0).toNat : Int), List.take (spN d) (List.drop 3 d), ()) : flK.T)]).length + k' ≤ d0.length; rw [List.length_append]; show acc.length + 1 + k' ≤ d0.length; omega), hsp⟩, (by show k' < k' + 1; omega), Wk.of ?_ ?_ rfl rfl⟩
            · simp only [lessTs, List.reduceReplicate, List.cons_append, List.nil_append, List.length_append, List.length_cons, List.length_nil] <;> ((repeat' apply And.intro) <;> first | with_reducible rfl | exact True.intro | exact congrArg (fun z : Int => some (AV.int IntKind.i64 z)) (show (_ : Int) = _ by omega) | exact congrArg (fun z : Nat => some (AV.tsl _ _ _ _ _ z)) (show (_ : Nat) = _ by omega) | exact arrEq (by omega) (by with_reducible rfl))
            · exact ⟨arrEq (by show acc.length + 1 = (acc ++ [((((d.getD 0 0).toNat : Int), List.take (spN d) (List.drop 3 d), ()) : flK.T)]).length; rw [List.length_append]; rfl) rfl, trivial⟩
theorem spt_sum : FSumOK Tryd.prog cfgKP1.G 72 kSpt.sum := Con.sumOK cfgKP1_ok kSpt Tryd.func72 rfl rfl (Con.of_inv _ _ _) spt_body
end
end Go.Proofs.YtjdeaphfamenaaaDoor

namespace Go.Proofs.YtjdeaphfamenaaaDoor
open Go.Vc Go.Proofs
set_option maxRecDepth 10000
set_option maxHeartbeats 4000000
def smN (n : UInt64) : Int := convT .i64 .u64 (bif decide ((1099511627777 : UInt64) < n) then 1099511627777 else n)
def stM (m : krK.T) (tag : Int) (b : List UInt8) : krK.T :=
  if tag = 31 then (smN (rdU b), m.2.1, m.2.2.1, m.2.2.2.1, m.2.2.2.2.1, m.2.2.2.2.2.1, m.2.2.2.2.2.2.1, m.2.2.2.2.2.2.2.1, m.2.2.2.2.2.2.2.2.1, ()) else if tag = 32 then (m.1, b, m.2.2.1, m.2.2.2.1, m.2.2.2.2.1, m.2.2.2.2.2.1, m.2.2.2.2.2.2.1, m.2.2.2.2.2.2.2.1, m.2.2.2.2.2.2.2.2.1, ()) else if tag = 33 then (m.1, m.2.1, b, m.2.2.2.1, m.2.2.2.2.1, m.2.2.2.2.2.1, m.2.2.2.2.2.2.1, m.2.2.2.2.2.2.2.1, m.2.2.2.2.2.2.2.2.1, ()) else if tag = 34 then (m.1, m.2.1, m.2.2.1, rdU b, m.2.2.2.2.1, m.2.2.2.2.2.1, m.2.2.2.2.2.2.1, m.2.2.2.2.2.2.2.1, m.2.2.2.2.2.2.2.2.1, ()) else if tag = 35 then (m.1, m.2.1, m.2.2.1, m.2.2.2.1, smN (rdU b), m.2.2.2.2.2.1, m.2.2.2.2.2.2.1, m.2.2.2.2.2.2.2.1, m.2.2.2.2.2.2.2.2.1, ()) else if tag = 36 then (m.1, m.2.1, m.2.2.1, m.2.2.2.1, m.2.2.2.2.1, smN (rdU b), m.2.2.2.2.2.2.1, m.2.2.2.2.2.2.2.1, m.2.2.2.2.2.2.2.2.1, ()) else if tag = 37 then (m.1, m.2.1, m.2.2.1, m.2.2.2.1, m.2.2.2.2.1, m.2.2.2.2.2.1, b, m.2.2.2.2.2.2.2.1, m.2.2.2.2.2.2.2.2.1, ()) else if tag = 38 then (m.1, m.2.1, m.2.2.1, m.2.2.2.1, m.2.2.2.2.1, m.2.2.2.2.2.1, m.2.2.2.2.2.2.1, b, m.2.2.2.2.2.2.2.2.1, ()) else if tag = 39 then (m.1, m.2.1, m.2.2.1, m.2.2.2.1, m.2.2.2.2.1, m.2.2.2.2.2.1, m.2.2.2.2.2.2.1, m.2.2.2.2.2.2.2.1, smN (rdU b), ()) else m
def kSet : Con := Con.ofO [.a (.p krK), .a (.v (.int .i64)), .a (.v (.slice false (.int .u8)))] [] (fun x => [List.length (α := UInt8) x.2.2.1 ≤ 140737488355328]) (fun x => ⟨.tuple [], [.pure krK (stM x.1 (toI .i64 x.2.1) x.2.2.1)]⟩)
def cfgKD1 : Cfg2 := { ty := tyTabM, fn := fun | 94 => some kRd.sum | 96 => some kClo.sum | _ => none, G := gNone, pin := [], eq := fun _ => none }
theorem cfgKD1_ok : CfgOK Tryd.prog cfgKD1 := ⟨tyTabM_ok, (fun f s h => by
  simp only [cfgKD1] at h
  split at h
  · injection h with h; subst h; exact .inl trd_sum
  · injection h with h; subst h; exact .inl clo_sum
  · cases h), (fun t d h => by cases h)⟩
section
attribute [local go_sem] Tryd.f73 kSet kRd kClo cfgKD1 tyTabM tyTabK tyTab
theorem set_body (p : kSet.Par) (hp : ∀ q ∈ kSet.pre p, q) : BodyOK Tryd.prog cfgKD1 Tryd.f73 (Tryd.f73.body.get rfl) kSet p := by
  obtain ⟨⟨(kd : Int), (cl : List UInt8), (sv : List UInt8), (no : UInt64), (en : Int), (fl : Int), (ti : List UInt8), (se : List UInt8), (co : Int), u1⟩, (tag : Int), (b : List UInt8), u⟩ := p
  obtain ⟨h0, _⟩ := Obs.of hp
  replace h0 : b.length ≤ 140737488355328 := h0
  refine ⟨?_, Nat.le_refl _, rfl, rfl⟩
  show Tri _ _ _ (Code.seq _ (Code.seq _ (Code.seq _ (Code.block _ (Code.seq _ (Code.cond _ _ (Code.seq _ (Code.cond _ _ (Code.seq _ (Code.cond _ _ (Code.seq _ (Code.cond _ _ (Code.seq _ (Code.cond _ _ (Code.seq _ (Code.cond _ _ (Code.seq _ (Code.cond _ _ (Code.seq _ (Code.cond _ _ (Code.seq _ (Code.cond _ _ _)))))))))))))))))))))) _
  have es : convT .i64 .u64 (bif decide ((1099511627777 : UInt64) < rdU b) then 1099511627777 else rdU b) = smN (rdU b) := rfl
  by_cases k31 : tag = 31
  · subst k31
    have z31 : decide ((31 : Int) = 31) = true := rfl
    refine Tri.at (by first | (simp only [Con.start, go_sem]; rfl) | rfl) ?_
    repeat (first | ((first | refine Tri.seq (Tri.regT (cfgKD1_ok.pins _) ?_) | refine Tri.rgnT (cfgKD1_ok.pins _) ?_); (repeat (first | refine RunT.oneA (hp := by simp (maxSteps := 2000000) (disch := first | decide | omega | (simp only [List.length_append, List.length_cons, List.length_nil, List.length_take, List.length_drop]; omega)) only [es, go_sem]; rfl) (h := ?_) | refine RunT.notA (h := ?_))); refine RunT.nil ?_; try simp only [InBlock]) | ((first | refine Tri.seq (Tri.drwT (mixed) (cfgKD1_ok.pins _) ?_) | refine Tri.drnT (mixed) (cfgKD1_ok.pins _) ?_); (repeat (first | refine RunD.oneA (hp := by simp (maxSteps := 2000000) (disch := first | decide | omega | (simp only [List.length_append, List.length_cons, List.length_nil, List.length_take, List.length_drop]; omega)) only [z31, es, go_sem]; rfl) (h := ?_) | refine RunD.notA (h := ?_))); refine RunD.nil ?_; refine ⟨by kernel_rfl, ?_⟩; try simp only [InBlock, Then]) | refine Tri.cF (by first | (simp only [go_sem]; done) | fail) ?_ | refine Tri.cT (by first | (simp only [go_sem]; done) | fail) ?_ | (refine Tri.skip ?_; try simp only [InBlock, Then]) | (refine Tri.exit ?_; simp only [Then, InBlock, if_true, if_false, ↓reduceIte, Nat.reduceEqDiff]) | refine Tri.seq (Tri.block ?_) | refine Tri.block ?_ | refine Tri.seq ?_ | (refine Tri.ret ?_; refine Con.fin (.inl rfl) (by simp only [Tryd.f73, cfgKD1, resA, resA1, go_sem]; rfl) (by simp only [Obs, and_true, true_and]) (by first | (simp only [kSet, Con.of, Con.ofO, resV, z31, es, go_sem]; done) | fail) trivial rfl rfl))
    refine Con.fin (.inr rfl) (by simp only [Tryd.f73, cfgKD1, resA, go_sem]; rfl) (by simp only [Obs]) rfl ?_ rfl rfl
    exact ⟨rfl, trivial⟩
  by_cases k32 : tag = 32
  · subst k32
    have z31 : decide ((32 : Int) = 31) = false := rfl
    have z32 : decide ((32 : Int) = 32) = true := rfl
    refine Tri.at (by first | (simp only [Con.start, go_sem]; rfl) | rfl) ?_
    repeat (first | ((first | refine Tri.seq (Tri.regT (cfgKD1_ok.pins _) ?_) | refine Tri.rgnT (cfgKD1_ok.pins _) ?_); (repeat (first | refine RunT.oneA (hp := by simp (maxSteps := 2000000) (disch := first | decide | omega | (simp only [List.length_append, List.length_cons, List.length_nil, List.length_take, List.length_drop]; omega)) only [es, go_sem]; rfl) (h := ?_) | refine RunT.notA (h := ?_))); refine RunT.nil ?_; try simp only [InBlock]) | ((first | refine Tri.seq (Tri.drwT (mixed) (cfgKD1_ok.pins _) ?_) | refine Tri.drnT (mixed) (cfgKD1_ok.pins _) ?_); (repeat (first | refine RunD.oneA (hp := by simp (maxSteps := 2000000) (disch := first | decide | omega | (simp only [List.length_append, List.length_cons, List.length_nil, List.length_take, List.length_drop]; omega)) only [z31, z32, es, go_sem]; rfl) (h := ?_) | refine RunD.notA (h := ?_))); refine RunD.nil ?_; refine ⟨by kernel_rfl, ?_⟩; try simp only [InBlock, Then]) | refine Tri.cF (by first | (simp only [go_sem]; done) | fail) ?_ | refine Tri.cT (by first | (simp only [go_sem]; done) | fail) ?_ | (refine Tri.skip ?_; try simp only [InBlock, Then]) | (refine Tri.exit ?_; simp only [Then, InBlock, if_true, if_false, ↓reduceIte, Nat.reduceEqDiff]) | refine Tri.seq (Tri.block ?_) | refine Tri.block ?_ | refine Tri.seq ?_ | (refine Tri.ret ?_; refine Con.fin (.inl rfl) (by simp only [Tryd.f73, cfgKD1, resA, resA1, go_sem]; rfl) (by simp only [Obs, and_true, true_and]) (by first | (simp only [kSet, Con.of, Con.ofO, resV, z31, z32, es, go_sem]; done) | fail) trivial rfl rfl))
    refine Con.fin (.inr rfl) (by simp only [Tryd.f73, cfgKD1, resA, go_sem]; rfl) (by simp only [Obs]) rfl ?_ rfl rfl
    exact ⟨rfl, trivial⟩
  by_cases k33 : tag = 33
  · subst k33
    have z31 : decide ((33 : Int) = 31) = false := rfl
    have z32 : decide ((33 : Int) = 32) = false := rfl
    have z33 : decide ((33 : Int) = 33) = true := rfl
    refine Tri.at (by first | (simp only [Con.start, go_sem]; rfl) | rfl) ?_
    repeat (first | ((first | refine Tri.seq (Tri.regT (cfgKD1_ok.pins _) ?_) | refine Tri.rgnT (cfgKD1_ok.pins _) ?_); (repeat (first | refine RunT.oneA (hp := by simp (maxSteps := 2000000) (disch := first | decide | omega | (simp only [List.length_append, List.length_cons, List.length_nil, List.length_take, List.length_drop]; omega)) only [es, go_sem]; rfl) (h := ?_) | refine RunT.notA (h := ?_))); refine RunT.nil ?_; try simp only [InBlock]) | ((first | refine Tri.seq (Tri.drwT (mixed) (cfgKD1_ok.pins _) ?_) | refine Tri.drnT (mixed) (cfgKD1_ok.pins _) ?_); (repeat (first | refine RunD.oneA (hp := by simp (maxSteps := 2000000) (disch := first | decide | omega | (simp only [List.length_append, List.length_cons, List.length_nil, List.length_take, List.length_drop]; omega)) only [z31, z32, z33, es, go_sem]; rfl) (h := ?_) | refine RunD.notA (h := ?_))); refine RunD.nil ?_; refine ⟨by kernel_rfl, ?_⟩; try simp only [InBlock, Then]) | refine Tri.cF (by first | (simp only [go_sem]; done) | fail) ?_ | refine Tri.cT (by first | (simp only [go_sem]; done) | fail) ?_ | (refine Tri.skip ?_; try simp only [InBlock, Then]) | (refine Tri.exit ?_; simp only [Then, InBlock, if_true, if_false, ↓reduceIte, Nat.reduceEqDiff]) | refine Tri.seq (Tri.block ?_) | refine Tri.block ?_ | refine Tri.seq ?_ | (refine Tri.ret ?_; refine Con.fin (.inl rfl) (by simp only [Tryd.f73, cfgKD1, resA, resA1, go_sem]; rfl) (by simp only [Obs, and_true, true_and]) (by first | (simp only [kSet, Con.of, Con.ofO, resV, z31, z32, z33, es, go_sem]; done) | fail) trivial rfl rfl))
    refine Con.fin (.inr rfl) (by simp only [Tryd.f73, cfgKD1, resA, go_sem]; rfl) (by simp only [Obs]) rfl ?_ rfl rfl
    exact ⟨rfl, trivial⟩
  by_cases k34 : tag = 34
  · subst k34
    have z31 : decide ((34 : Int) = 31) = false := rfl
    have z32 : decide ((34 : Int) = 32) = false := rfl
    have z33 : decide ((34 : Int) = 33) = false := rfl
    have z34 : decide ((34 : Int) = 34) = true := rfl
    refine Tri.at (by first | (simp only [Con.start, go_sem]; rfl) | rfl) ?_
    repeat (first | ((first | refine Tri.seq (Tri.regT (cfgKD1_ok.pins _) ?_) | refine Tri.rgnT (cfgKD1_ok.pins _) ?_); (repeat (first | refine RunT.oneA (hp := by simp (maxSteps := 2000000) (disch := first | decide | omega | (simp only [List.length_append, List.length_cons, List.length_nil, List.length_take, List.length_drop]; omega)) only [es, go_sem]; rfl) (h := ?_) | refine RunT.notA (h := ?_))); refine RunT.nil ?_; try simp only [InBlock]) | ((first | refine Tri.seq (Tri.drwT (mixed) (cfgKD1_ok.pins _) ?_) | refine Tri.drnT (mixed) (cfgKD1_ok.pins _) ?_); (repeat (first | refine RunD.oneA (hp := by simp (maxSteps := 2000000) (disch := first | decide | omega | (simp only [List.length_append, List.length_cons, List.length_nil, List.length_take, List.length_drop]; omega)) only [z31, z32, z33, z34, es, go_sem]; rfl) (h := ?_) | refine RunD.notA (h := ?_))); refine RunD.nil ?_; refine ⟨by kernel_rfl, ?_⟩; try simp only [InBlock, Then]) | refine Tri.cF (by first | (simp only [go_sem]; done) | fail) ?_ | refine Tri.cT (by first | (simp only [go_sem]; done) | fail) ?_ | (refine Tri.skip ?_; try simp only [InBlock, Then]) | (refine Tri.exit ?_; simp only [Then, InBlock, if_true, if_false, ↓reduceIte, Nat.reduceEqDiff]) | refine Tri.seq (Tri.block ?_) | refine Tri.block ?_ | refine Tri.seq ?_ | (refine Tri.ret ?_; refine Con.fin (.inl rfl) (by simp only [Tryd.f73, cfgKD1, resA, resA1, go_sem]; rfl) (by simp only [Obs, and_true, true_and]) (by first | (simp only [kSet, Con.of, Con.ofO, resV, z31, z32, z33, z34, es, go_sem]; done) | fail) trivial rfl rfl))
    refine Con.fin (.inr rfl) (by simp only [Tryd.f73, cfgKD1, resA, go_sem]; rfl) (by simp only [Obs]) rfl ?_ rfl rfl
    exact ⟨rfl, trivial⟩
  by_cases k35 : tag = 35
  · subst k35
    have z31 : decide ((35 : Int) = 31) = false := rfl
    have z32 : decide ((35 : Int) = 32) = false := rfl
    have z33 : decide ((35 : Int) = 33) = false := rfl
    have z34 : decide ((35 : Int) = 34) = false := rfl
    have z35 : decide ((35 : Int) = 35) = true := rfl
    refine Tri.at (by first | (simp only [Con.start, go_sem]; rfl) | rfl) ?_
    repeat (first | ((first | refine Tri.seq (Tri.regT (cfgKD1_ok.pins _) ?_) | refine Tri.rgnT (cfgKD1_ok.pins _) ?_); (repeat (first | refine RunT.oneA (hp := by simp (maxSteps := 2000000) (disch := first | decide | omega | (simp only [List.length_append, List.length_cons, List.length_nil, List.length_take, List.length_drop]; omega)) only [es, go_sem]; rfl) (h := ?_) | refine RunT.notA (h := ?_))); refine RunT.nil ?_; try simp only [InBlock]) | ((first | refine Tri.seq (Tri.drwT (mixed) (cfgKD1_ok.pins _) ?_) | refine Tri.drnT (mixed) (cfgKD1_ok.pins _) ?_); (repeat (first | refine RunD.oneA (hp := by simp (maxSteps := 2000000) (disch := first | decide | omega | (simp only [List.length_append, List.length_cons, List.length_nil, List.length_take, List.length_drop]; omega)) only [z31, z32, z33, z34, z35, es, go_sem]; rfl) (h := ?_) | refine RunD.notA (h := ?_))); refine RunD.nil ?_; refine ⟨by kernel_rfl, ?_⟩; try simp only [InBlock, Then]) | refine Tri.cF (by first | (simp only [go_sem]; done) | fail) ?_ | refine Tri.cT (by first | (simp only [go_sem]; done) | fail) ?_ | (refine Tri.skip ?_; try simp only [InBlock, Then]) | (refine Tri.exit ?_; simp only [Then, InBlock, if_true, if_false, ↓reduceIte, Nat.reduceEqDiff]) | refine Tri.seq (Tri.block ?_) | refine Tri.block ?_ | refine Tri.seq ?_ | (refine Tri.ret ?_; refine Con.fin (.inl rfl) (by simp only [Tryd.f73, cfgKD1, resA, resA1, go_sem]; rfl) (by simp only [Obs, and_true, true_and]) (by first | (simp only [kSet, Con.of, Con.ofO, resV, z31, z32, z33, z34, z35, es, go_sem]; done) | fail) trivial rfl rfl))
    refine Con.fin (.inr rfl) (by simp only [Tryd.f73, cfgKD1, resA, go_sem]; rfl) (by simp only [Obs]) rfl ?_ rfl rfl
    exact ⟨rfl, trivial⟩
  by_cases k36 : tag = 36
  · subst k36
    have z31 : decide ((36 : Int) = 31) = false := rfl
    have z32 : decide ((36 : Int) = 32) = false := rfl
    have z33 : decide ((36 : Int) = 33) = false := rfl
    have z34 : decide ((36 : Int) = 34) = false := rfl
    have z35 : decide ((36 : Int) = 35) = false := rfl
    have z36 : decide ((36 : Int) = 36) = true := rfl
    refine Tri.at (by first | (simp only [Con.start, go_sem]; rfl) | rfl) ?_
    repeat (first | ((first | refine Tri.seq (Tri.regT (cfgKD1_ok.pins _) ?_) | refine Tri.rgnT (cfgKD1_ok.pins _) ?_); (repeat (first | refine RunT.oneA (hp := by simp (maxSteps := 2000000) (disch := first | decide | omega | (simp only [List.length_append, List.length_cons, List.length_nil, List.length_take, List.length_drop]; omega)) only [es, go_sem]; rfl) (h := ?_) | refine RunT.notA (h := ?_))); refine RunT.nil ?_; try simp only [InBlock]) | ((first | refine Tri.seq (Tri.drwT (mixed) (cfgKD1_ok.pins _) ?_) | refine Tri.drnT (mixed) (cfgKD1_ok.pins _) ?_); (repeat (first | refine RunD.oneA (hp := by simp (maxSteps := 2000000) (disch := first | decide | omega | (simp only [List.length_append, List.length_cons, List.length_nil, List.length_take, List.length_drop]; omega)) only [z31, z32, z33, z34, z35, z36, es, go_sem]; rfl) (h := ?_) | refine RunD.notA (h := ?_))); refine RunD.nil ?_; refine ⟨by kernel_rfl, ?_⟩; try simp only [InBlock, Then]) | refine Tri.cF (by first | (simp only [go_sem]; done) | fail) ?_ | refine Tri.cT (by first | (simp only [go_sem]; done) | fail) ?_ | (refine Tri.skip ?_; try simp only [InBlock, Then]) | (refine Tri.exit ?_; simp only [Then, InBlock, if_true, if_false, ↓reduceIte, Nat.reduceEqDiff]) | refine Tri.seq (Tri.block ?_) | refine Tri.block ?_ | refine Tri.seq ?_ | (refine Tri.ret ?_; refine Con.fin (.inl rfl) (by simp only [Tryd.f73, cfgKD1, resA, resA1, go_sem]; rfl) (by simp only [Obs, and_true, true_and]) (by first | (simp only [kSet, Con.of, Con.ofO, resV, z31, z32, z33, z34, z35, z36, es, go_sem]; done) | fail) trivial rfl rfl))
    refine Con.fin (.inr rfl) (by simp only [Tryd.f73, cfgKD1, resA, go_sem]; rfl) (by simp only [Obs]) rfl ?_ rfl rfl
    exact ⟨rfl, trivial⟩
  by_cases k37 : tag = 37
  · subst k37
    have z31 : decide ((37 : Int) = 31) = false := rfl
    have z32 : decide ((37 : Int) = 32) = false := rfl
    have z33 : decide ((37 : Int) = 33) = false := rfl
    have z34 : decide ((37 : Int) = 34) = false := rfl
    have z35 : decide ((37 : Int) = 35) = false := rfl
    have z36 : decide ((37 : Int) = 36) = false := rfl
    have z37 : decide ((37 : Int) = 37) = true := rfl
    refine Tri.at (by first | (simp only [Con.start, go_sem]; rfl) | rfl) ?_
    repeat (first | ((first | refine Tri.seq (Tri.regT (cfgKD1_ok.pins _) ?_) | refine Tri.rgnT (cfgKD1_ok.pins _) ?_); (repeat (first | refine RunT.oneA (hp := by simp (maxSteps := 2000000) (disch := first | decide | omega | (simp only [List.length_append, List.length_cons, List.length_nil, List.length_take, List.length_drop]; omega)) only [es, go_sem]; rfl) (h := ?_) | refine RunT.notA (h := ?_))); refine RunT.nil ?_; try simp only [InBlock]) | ((first | refine Tri.seq (Tri.drwT (mixed) (cfgKD1_ok.pins _) ?_) | refine Tri.drnT (mixed) (cfgKD1_ok.pins _) ?_); (repeat (first | refine RunD.oneA (hp := by simp (maxSteps := 2000000) (disch := first | decide | omega | (simp only [List.length_append, List.length_cons, List.length_nil, List.length_take, List.length_drop]; omega)) only [z31, z32, z33, z34, z35, z36, z37, es, go_sem]; rfl) (h := ?_) | refine RunD.notA (h := ?_))); refine RunD.nil ?_; refine ⟨by kernel_rfl, ?_⟩; try simp only [InBlock, Then]) | refine Tri.cF (by first | (simp only [go_sem]; done) | fail) ?_ | refine Tri.cT (by first | (simp only [go_sem]; done) | fail) ?_ | (refine Tri.skip ?_; try simp only [InBlock, Then]) | (refine Tri.exit ?_; simp only [Then, InBlock, if_true, if_false, ↓reduceIte, Nat.reduceEqDiff]) | refine Tri.seq (Tri.block ?_) | refine Tri.block ?_ | refine Tri.seq ?_ | (refine Tri.ret ?_; refine Con.fin (.inl rfl) (by simp only [Tryd.f73, cfgKD1, resA, resA1, go_sem]; rfl) (by simp only [Obs, and_true, true_and]) (by first | (simp only [kSet, Con.of, Con.ofO, resV, z31, z32, z33, z34, z35, z36, z37, es, go_sem]; done) | fail) trivial rfl rfl))
    refine Con.fin (.inr rfl) (by simp only [Tryd.f73, cfgKD1, resA, go_sem]; rfl) (by simp only [Obs]) rfl ?_ rfl rfl
    exact ⟨rfl, trivial⟩
  by_cases k38 : tag = 38
  · subst k38
    have z31 : decide ((38 : Int) = 31) = false := rfl
    have z32 : decide ((38 : Int) = 32) = false := rfl
    have z33 : decide ((38 : Int) = 33) = false := rfl
    have z34 : decide ((38 : Int) = 34) = false := rfl
    have z35 : decide ((38 : Int) = 35) = false := rfl
    have z36 : decide ((38 : Int) = 36) = false := rfl
    have z37 : decide ((38 : Int) = 37) = false := rfl
    have z38 : decide ((38 : Int) = 38) = true := rfl
    refine Tri.at (by first | (simp only [Con.start, go_sem]; rfl) | rfl) ?_
    repeat (first | ((first | refine Tri.seq (Tri.regT (cfgKD1_ok.pins _) ?_) | refine Tri.rgnT (cfgKD1_ok.pins _) ?_); (repeat (first | refine RunT.oneA (hp := by simp (maxSteps := 2000000) (disch := first | decide | omega | (simp only [List.length_append, List.length_cons, List.length_nil, List.length_take, List.length_drop]; omega)) only [es, go_sem]; rfl) (h := ?_) | refine RunT.notA (h := ?_))); refine RunT.nil ?_; try simp only [InBlock]) | ((first | refine Tri.seq (Tri.drwT (mixed) (cfgKD1_ok.pins _) ?_) | refine Tri.drnT (mixed) (cfgKD1_ok.pins _) ?_); (repeat (first | refine RunD.oneA (hp := by simp (maxSteps := 2000000) (disch := first | decide | omega | (simp only [List.length_append, List.length_cons, List.length_nil, List.length_take, List.length_drop]; omega)) only [z31, z32, z33, z34, z35, z36, z37, z38, es, go_sem]; rfl) (h := ?_) | refine RunD.notA (h := ?_))); refine RunD.nil ?_; refine ⟨by kernel_rfl, ?_⟩; try simp only [InBlock, Then]) | refine Tri.cF (by first | (simp only [go_sem]; done) | fail) ?_ | refine Tri.cT (by first | (simp only [go_sem]; done) | fail) ?_ | (refine Tri.skip ?_; try simp only [InBlock, Then]) | (refine Tri.exit ?_; simp only [Then, InBlock, if_true, if_false, ↓reduceIte, Nat.reduceEqDiff]) | refine Tri.seq (Tri.block ?_) | refine Tri.block ?_ | refine Tri.seq ?_ | (refine Tri.ret ?_; refine Con.fin (.inl rfl) (by simp only [Tryd.f73, cfgKD1, resA, resA1, go_sem]; rfl) (by simp only [Obs, and_true, true_and]) (by first | (simp only [kSet, Con.of, Con.ofO, resV, z31, z32, z33, z34, z35, z36, z37, z38, es, go_sem]; done) | fail) trivial rfl rfl))
    refine Con.fin (.inr rfl) (by simp only [Tryd.f73, cfgKD1, resA, go_sem]; rfl) (by simp only [Obs]) rfl ?_ rfl rfl
    exact ⟨rfl, trivial⟩
  by_cases k39 : tag = 39
  · subst k39
    have z31 : decide ((39 : Int) = 31) = false := rfl
    have z32 : decide ((39 : Int) = 32) = false := rfl
    have z33 : decide ((39 : Int) = 33) = false := rfl
    have z34 : decide ((39 : Int) = 34) = false := rfl
    have z35 : decide ((39 : Int) = 35) = false := rfl
    have z36 : decide ((39 : Int) = 36) = false := rfl
    have z37 : decide ((39 : Int) = 37) = false := rfl
    have z38 : decide ((39 : Int) = 38) = false := rfl
    have z39 : decide ((39 : Int) = 39) = true := rfl
    refine Tri.at (by first | (simp only [Con.start, go_sem]; rfl) | rfl) ?_
    repeat (first | ((first | refine Tri.seq (Tri.regT (cfgKD1_ok.pins _) ?_) | refine Tri.rgnT (cfgKD1_ok.pins _) ?_); (repeat (first | refine RunT.oneA (hp := by simp (maxSteps := 2000000) (disch := first | decide | omega | (simp only [List.length_append, List.length_cons, List.length_nil, List.length_take, List.length_drop]; omega)) only [es, go_sem]; rfl) (h := ?_) | refine RunT.notA (h := ?_))); refine RunT.nil ?_; try simp only [InBlock]) | ((first | refine Tri.seq (Tri.drwT (mixed) (cfgKD1_ok.pins _) ?_) | refine Tri.drnT (mixed) (cfgKD1_ok.pins _) ?_); (repeat (first | refine RunD.oneA (hp := by simp (maxSteps := 2000000) (disch := first | decide | omega | (simp only [List.length_append, List.length_cons, List.length_nil, List.length_take, List.length_drop]; omega)) only [z31, z32, z33, z34, z35, z36, z37, z38, z39, es, go_sem]; rfl) (h := ?_) | refine RunD.notA (h := ?_))); refine RunD.nil ?_; refine ⟨by kernel_rfl, ?_⟩; try simp only [InBlock, Then]) | refine Tri.cF (by first | (simp only [go_sem]; done) | fail) ?_ | refine Tri.cT (by first | (simp only [go_sem]; done) | fail) ?_ | (refine Tri.skip ?_; try simp only [InBlock, Then]) | (refine Tri.exit ?_; simp only [Then, InBlock, if_true, if_false, ↓reduceIte, Nat.reduceEqDiff]) | refine Tri.seq (Tri.block ?_) | refine Tri.block ?_ | refine Tri.seq ?_ | (refine Tri.ret ?_; refine Con.fin (.inl rfl) (by simp only [Tryd.f73, cfgKD1, resA, resA1, go_sem]; rfl) (by simp only [Obs, and_true, true_and]) (by first | (simp only [kSet, Con.of, Con.ofO, resV, z31, z32, z33, z34, z35, z36, z37, z38, z39, es, go_sem]; done) | fail) trivial rfl rfl))
    refine Con.fin (.inr rfl) (by simp only [Tryd.f73, cfgKD1, resA, go_sem]; rfl) (by simp only [Obs]) rfl ?_ rfl rfl
    exact ⟨rfl, trivial⟩
  have z31 : decide (tag = 31) = false := decide_eq_false k31
  have z32 : decide (tag = 32) = false := decide_eq_false k32
  have z33 : decide (tag = 33) = false := decide_eq_false k33
  have z34 : decide (tag = 34) = false := decide_eq_false k34
  have z35 : decide (tag = 35) = false := decide_eq_false k35
  have z36 : decide (tag = 36) = false := decide_eq_false k36
  have z37 : decide (tag = 37) = false := decide_eq_false k37
  have z38 : decide (tag = 38) = false := decide_eq_false k38
  have z39 : decide (tag = 39) = false := decide_eq_false k39
  have e1 : stM (kd, cl, sv, no, en, fl, ti, se, co, u1) tag b = (kd, cl, sv, no, en, fl, ti, se, co, u1) := by simp only [stM, k31, k32, k33, k34, k35, k36, k37, k38, k39, if_false]
  refine Tri.at (by first | (simp only [Con.start, go_sem]; rfl) | rfl) ?_
  repeat (first | ((first | refine Tri.seq (Tri.regT (cfgKD1_ok.pins _) ?_) | refine Tri.rgnT (cfgKD1_ok.pins _) ?_); (repeat (first | refine RunT.oneA (hp := by simp (maxSteps := 2000000) (disch := first | decide | omega | (simp only [List.length_append, List.length_cons, List.length_nil, List.length_take, List.length_drop]; omega)) only [z31, z32, z33, z34, z35, z36, z37, z38, z39, es, go_sem]; rfl) (h := ?_) | refine RunT.notA (h := ?_))); refine RunT.nil ?_; try simp only [InBlock, Then]) | ((first | refine Tri.seq (Tri.drwT (mixed) (cfgKD1_ok.pins _) ?_) | refine Tri.drnT (mixed) (cfgKD1_ok.pins _) ?_); (repeat (first | refine RunD.oneA (hp := by simp (maxSteps := 2000000) (disch := first | decide | omega | (simp only [List.length_append, List.length_cons, List.length_nil, List.length_take, List.length_drop]; omega)) only [z31, z32, z33, z34, z35, z36, z37, z38, z39, es, go_sem]; rfl) (h := ?_) | refine RunD.notA (h := ?_))); refine RunD.nil ?_; refine ⟨by kernel_rfl, ?_⟩; try simp only [InBlock, Then]) | refine Tri.cF (by first | (simp only [go_sem]; done) | fail) ?_ | refine Tri.cT (by first | (simp only [go_sem]; done) | fail) ?_ | (refine Tri.skip ?_; try simp only [InBlock]) | (refine Tri.exit ?_; simp only [Then, InBlock, if_true, if_false, ↓reduceIte, Nat.reduceEqDiff]) | refine Tri.seq (Tri.block ?_) | refine Tri.block ?_ | refine Tri.seq ?_ | (refine Tri.ret ?_; refine Con.fin (.inl rfl) (by simp only [Tryd.f73, cfgKD1, resA, resA1, go_sem]; rfl) (by simp only [Obs, and_true, true_and]) (by first | (simp only [kSet, Con.of, Con.ofO, resV, z31, z32, z33, z34, z35, z36, z37, z38, z39, es, go_sem]; done) | fail) trivial rfl rfl))
  refine Con.fin (.inr rfl) (by simp only [Tryd.f73, cfgKD1, resA, go_sem]; rfl) (by simp only [Obs]) rfl ?_ rfl rfl
  exact ⟨congrArg (fun z : krK.T => Slot.live (.pure krK z)) e1.symm, trivial⟩
theorem set_sum : FSumOK Tryd.prog cfgKD1.G 73 kSet.sum := Con.sumOK cfgKD1_ok kSet Tryd.func73 rfl rfl (Con.ofO_inv _ _ _ _) set_body
end
end Go.Proofs.YtjdeaphfamenaaaDoor

namespace Go.Proofs.YtjdeaphfamenaaaDoor
open Go.Vc Go.Proofs
set_option maxRecDepth 10000
set_option maxHeartbeats 4000000
def flBK (f : flK.T) : List UInt8 := [UInt8.ofInt (f.1 : Int), UInt8.ofInt (shrT .i64 ((List.length (α := UInt8) f.2.1 : Nat) : Int) 8), UInt8.ofInt ((List.length (α := UInt8) f.2.1 : Nat) : Int)] ++ f.2.1
def jnK (fs : List flK.T) : List UInt8 := (fs.map flBK).flatten
def fkOK (f : flK.T) : Prop := 1 ≤ (f.1 : Int) ∧ (f.1 : Int) ≤ 255 ∧ List.length (α := UInt8) f.2.1 ≤ 65535
theorem jnKx_nil : jnK [] = [] := rfl
theorem flBK_len (f : flK.T) : (flBK f).length = List.length (α := UInt8) f.2.1 + 3 := by rw [flBK, List.length_append]; show 3 + _ = _; omega
theorem jnKx_len : ∀ fs : List flK.T, (∀ f ∈ fs, fkOK f) → (jnK fs).length ≤ fs.length * 65538
  | [], _ => Nat.zero_le _
  | f :: r, h => by
    have h1 := jnKx_len r fun x hx => h x (List.mem_cons_of_mem _ hx)
    have h2 := (h f (List.mem_cons_self ..)).2.2
    have h3 := flBK_len f
    show (flBK f ++ jnK r).length ≤ (r.length + 1) * 65538
    rw [List.length_append, Nat.add_mul]
    omega
theorem jnKx_take (fs : List flK.T) (i : Nat) (d : flK.T) (h : i < fs.length) : jnK (fs.take (i + 1)) = jnK (fs.take i) ++ flBK (fs.getD i d) := by
  rw [List.take_add_one, List.getElem?_eq_getElem h, Option.toList_some, jnK, List.map_append, List.flatten_append, List.getD_eq_getElem?_getD, List.getElem?_eq_getElem h]
  simp [jnK]
def kJnK : Con := Con.of [.v (.slice false flK)] (fun x => [List.length (α := flK.T) x.1 ≤ 1000, ∀ f ∈ x.1, fkOK f]) (fun x => ⟨.tuple [.pure (.slice true (.int .u8)) (jnK x.1), .int .i64 (0 : Int)], []⟩)
def cfgKE1 : Cfg2 := { ty := tyTabM, fn := fun  | _ => none, G := gNone, pin := [], eq := fun _ => none }
theorem cfgKE1_ok : CfgOK Tryd.prog cfgKE1 := ⟨tyTabM_ok, (fun f s h => by cases h), (fun t d h => by cases h)⟩
section
attribute [local go_sem] Tryd.f56 kJnK cfgKE1 tyTabM tyTabK tyTab
theorem tjk_body (p : kJnK.Par) (hp : ∀ q ∈ kJnK.pre p, q) : BodyOK Tryd.prog cfgKE1 Tryd.f56 (Tryd.f56.body.get rfl) kJnK p := by
  obtain ⟨(fs : List flK.T), u⟩ := p
  obtain ⟨h0, h1, _⟩ := Obs.of hp
  replace h0 : fs.length ≤ 1000 := h0
  replace h1 : ∀ f ∈ fs, fkOK f := h1
  refine ⟨?_, Nat.zero_le _, rfl, rfl⟩
  show Tri _ _ _ (Code.seq _ (Code.seq (Code.seq _ (Code.block _ (Code.loop (Code.seq _ (Code.seq (Code.cond _ _ _) (Code.seq (Code.block _ (Code.seq _ (Code.seq _ (Code.block _ (Code.seq _ (Code.cond _ (Code.seq _ _) (Code.seq _ (Code.cond _ (Code.seq _ _) _)))))))) _)))))) (Code.seq _ _))) _
  refine Tri.at (by first | (simp only [go_sem, Con.start, go_sem]; rfl) | rfl) ?_
  repeat (first | ((first | refine Tri.seq (Tri.regT (cfgKE1_ok.pins _) ?_) | refine Tri.rgnT (cfgKE1_ok.pins _) ?_); (repeat (first | refine RunT.oneA (hp := by simp (maxSteps := 2000000) (disch := first | decide | omega | (simp only [List.length_append, List.length_cons, List.length_nil, List.length_take, List.length_drop]; omega)) only [go_sem, go_sem]; rfl) (h := ?_) | refine RunT.notA (h := ?_))); refine RunT.nil ?_; try simp only [InBlock, Then]) | refine Tri.cF (by first | (simp only [go_sem, go_sem]; done) | fail) ?_ | refine Tri.cT (by first | (simp only [go_sem, go_sem]; done) | fail) ?_ | (refine Tri.skip ?_; try simp only [InBlock, Then]) | (refine Tri.exit ?_; simp only [Then, InBlock, if_true, if_false, ↓reduceIte, Nat.reduceEqDiff]) | refine Tri.seq (Tri.block ?_) | refine Tri.block ?_ | refine Tri.seq ?_ | (refine Tri.ret ?_; refine Con.fin (.inl rfl) (by simp only [Tryd.f56, cfgKE1, resA, resA1, go_sem]; rfl) (by simp only [Obs, and_true, true_and]) (by first | (simp only [kJnK, Con.of, Con.ofO, resV, go_sem, go_sem]; done) | fail) trivial rfl rfl))
  have hj0 : jnK (fs.take 0) = [] := rfl
  refine Tri.phT 2 (.int .u8) 1 rfl rfl ?_
  refine Tri.loop (fun i : Nat => (⟨[some (.pure (.slice false flK) fs), none, some (.tsl 0 [] 0 0 1 (jnK (fs.take i)).length), some (.int .i64 (0 : Int)), none, none, none, some (.pure (.slice false flK) fs), some (.int .i64 (fs.length : Int)), some (.int .i64 (i : Int))] ++ List.replicate 34 none, [.live (.pure (.arr (jnK (fs.take i)).length (.int .u8)) (jnK (fs.take i)))]⟩ : AS)) (fun i => i ≤ fs.length) (fun i => fs.length - i) 0 ?_ (Nat.zero_le _) ?_
  · refine Wk.of ?_ ?_ rfl rfl
    · simp only [lessTs, List.reduceReplicate, List.cons_append, List.nil_append, hj0, List.length_nil] <;> ((repeat' apply And.intro) <;> first | with_reducible rfl | exact True.intro | exact congrArg (fun z : Int => some (AV.int IntKind.i64 z)) (show (_ : Int) = _ by omega) | exact congrArg (fun z : Nat => some (AV.tsl _ _ _ _ _ z)) (show (_ : Nat) = _ by omega) | exact arrEq (by omega) (by with_reducible rfl))
    exact ⟨arrEq (by rw [hj0]; rfl) hj0.symm, trivial⟩
  · intro i hi
    by_cases h3 : i < fs.length
    · have h3' : decide ((i : Int) < (fs.length : Int)) = true := decide_eq_true (by omega)
      have hf : fs.getD i (0, [], ()) ∈ fs := by
        rw [List.getD_eq_getElem?_getD, List.getElem?_eq_getElem h3]; exact List.getElem_mem h3
      obtain ⟨k1, k2, k3⟩ := h1 _ hf
      generalize hfd : fs.getD i (0, [], ()) = f at *
      obtain ⟨(tg : Int), (vl : List UInt8), u1⟩ := f
      replace k1 : 1 ≤ tg := k1
      replace k2 : tg ≤ 255 := k2
      replace k3 : vl.length ≤ 65535 := k3
      have k1' : decide (tg < 1) = false := decide_eq_false (by omega)
      have k2' : decide ((255 : Int) < tg) = false := decide_eq_false (by omega)
      have k3' : decide ((65535 : Int) < (vl.length : Int)) = false := decide_eq_false (by omega)
      have hjt := jnKx_take fs i (0, [], ()) h3
      have hjl : (jnK (fs.take i)).length ≤ 65538000 := by
        have h4 := jnKx_len (fs.take i) fun x hx => h1 x (List.mem_of_mem_take hx)
        have h5 : (fs.take i).length ≤ 1000 := by rw [List.length_take]; omega
        exact Nat.le_trans h4 (Nat.le_trans (Nat.mul_le_mul_right 65538 h5) (by decide))
      rw [hfd] at hjt
      generalize hJ : jnK (fs.take i) = J at *
      have htk : List.take J.length J = J := List.take_length
      have tk3 : List.take 3 [UInt8.ofInt tg, UInt8.ofInt (shrT .i64 ((vl.length : Nat) : Int) 8), UInt8.ofInt ((vl.length : Nat) : Int)] = [UInt8.ofInt tg, UInt8.ofInt (shrT .i64 ((vl.length : Nat) : Int) 8), UInt8.ofInt ((vl.length : Nat) : Int)] := rfl
      have tkJ : List.take (J.length + 3) (J ++ [UInt8.ofInt tg, UInt8.ofInt (shrT .i64 ((vl.length : Nat) : Int) 8), UInt8.ofInt ((vl.length : Nat) : Int)]) = J ++ [UInt8.ofInt tg, UInt8.ofInt (shrT .i64 ((vl.length : Nat) : Int) 8), UInt8.ofInt ((vl.length : Nat) : Int)] := List.take_of_length_le (by rw [List.length_append]; exact Nat.le_refl _)
      have hjt2 : jnK (fs.take (i + 1)) = J ++ [UInt8.ofInt tg, UInt8.ofInt (shrT .i64 ((vl.length : Nat) : Int) 8), UInt8.ofInt ((vl.length : Nat) : Int)] ++ vl := by rw [hjt, List.append_assoc]; rfl
      have hjl2 : (jnK (fs.take (i + 1))).length = J.length + 3 + vl.length := by rw [hjt2, List.length_append, List.length_append]; rfl
      refine Tri.at (by first | (simp only [h3', k1', k2', k3', hfd, htk, tk3, tkJ, Con.start, go_sem]; rfl) | rfl) ?_
      repeat (first | ((first | refine Tri.seq (Tri.regT (cfgKE1_ok.pins _) ?_) | refine Tri.rgnT (cfgKE1_ok.pins _) ?_); (repeat (first | refine RunT.oneA (hp := by simp (maxSteps := 2000000) (disch := first | decide | omega | (simp only [List.length_append, List.length_cons, List.length_nil, List.length_take, List.length_drop]; omega)) only [h3', k1', k2', k3', hfd, htk, tk3, tkJ, go_sem]; rfl) (h := ?_) | refine RunT.notA (h := ?_))); refine RunT.nil ?_; try simp only [InBlock, Then]) | ((first | refine Tri.seq (Tri.drwT (mixed) (cfgKE1_ok.pins _) ?_) | refine Tri.drnT (mixed) (cfgKE1_ok.pins _) ?_); (repeat (first | refine RunD.oneA (hp := by simp (maxSteps := 2000000) (disch := first | decide | omega | (simp only [List.length_append, List.length_cons, List.length_nil, List.length_take, List.length_drop]; omega)) only [h3', k1', k2', k3', hfd, htk, tk3, tkJ, go_sem]; rfl) (h := ?_) | refine RunD.notA (h := ?_))); refine RunD.nil ?_; refine ⟨by kernel_rfl, ?_⟩; try simp only [InBlock, Then]) | refine Tri.cF (by first | (simp only [h3', k1', k2', k3', hfd, htk, tk3, tkJ, go_sem]; done) | fail) ?_ | refine Tri.cT (by first | (simp only [h3', k1', k2', k3', hfd, htk, tk3, tkJ, go_sem]; done) | fail) ?_ | (refine Tri.skip ?_; try simp only [InBlock, Then]) | (refine Tri.exit ?_; simp only [Then, InBlock, if_true, if_false, ↓reduceIte, Nat.reduceEqDiff]) | refine Tri.seq (Tri.block ?_) | refine Tri.block ?_ | refine Tri.seq ?_ | (refine Tri.ret ?_; refine Con.fin (.inl rfl) (by simp only [Tryd.f56, cfgKE1, resA, resA1, go_sem]; rfl) (by simp only [Obs, and_true, true_and]) (by first | (simp only [kJnK, Con.of, Con.ofO, resV, h3', k1', k2', k3', hfd, htk, tk3, tkJ, go_sem]; done) | fail) trivial rfl rfl))
      refine ⟨i + 1, (by omega), (by omega), Wk.of ?_ ?_ rfl rfl⟩
      · simp only [lessTs, List.reduceReplicate, List.cons_append, List.nil_append, hjl2] <;> ((repeat' apply And.intro) <;> first | with_reducible rfl | exact True.intro | exact congrArg (fun z : Int => some (AV.int IntKind.i64 z)) (show (_ : Int) = _ by omega) | exact congrArg (fun z : Nat => some (AV.tsl _ _ _ _ _ z)) (show (_ : Nat) = _ by omega) | exact arrEq (by omega) (by with_reducible rfl))
      · exact ⟨arrEq hjl2.symm hjt2.symm, trivial⟩
    · have h3' : decide ((i : Int) < (fs.length : Int)) = false := decide_eq_false (by omega)
      rw [List.take_of_length_le (by omega)]
      have htk : List.take (jnK fs).length (jnK fs) = jnK fs := List.take_length
      refine Tri.at (by first | (simp only [h3', htk, Con.start, go_sem]; rfl) | rfl) ?_
      repeat (first | ((first | refine Tri.seq (Tri.regT (cfgKE1_ok.pins _) ?_) | refine Tri.rgnT (cfgKE1_ok.pins _) ?_); (repeat (first | refine RunT.oneA (hp := by simp (maxSteps := 2000000) (disch := first | decide | omega | (simp only [List.length_append, List.length_cons, List.length_nil, List.length_take, List.length_drop]; omega)) only [h3', htk, go_sem]; rfl) (h := ?_) | refine RunT.notA (h := ?_))); refine RunT.nil ?_; try simp only [InBlock, Then]) | refine Tri.cF (by first | (simp only [h3', htk, go_sem]; done) | fail) ?_ | refine Tri.cT (by first | (simp only [h3', htk, go_sem]; done) | fail) ?_ | (refine Tri.skip ?_; try simp only [InBlock, Then]) | (refine Tri.exit ?_; simp only [Then, InBlock, if_true, if_false, ↓reduceIte, Nat.reduceEqDiff]) | refine Tri.seq (Tri.block ?_) | refine Tri.block ?_ | refine Tri.seq ?_ | (refine Tri.ret ?_; refine Con.fin (.inl rfl) (by simp only [Tryd.f56, cfgKE1, resA, resA1, go_sem]; rfl) (by simp only [Obs, and_true, true_and]) (by first | (simp only [kJnK, Con.of, Con.ofO, resV, h3', htk, go_sem]; done) | fail) trivial rfl rfl))
      refine Tri.rel true 0 rfl ?_ rfl rfl ?_
      · simp only [AS.blk, go_sem]
        repeat' constructor
      refine Tri.at (by first | (simp only [h3', htk, Con.start, go_sem]; rfl) | rfl) ?_
      refine Tri.ret ?_
      refine Con.fin (.inl rfl) (by simp only [Tryd.f56, cfgKE1, resA, resA1, go_sem]; rfl) (by simp only [Obs, and_true, true_and]) ?_ ?_ rfl rfl
      · rfl
      · exact True.intro
theorem tjk_sum : FSumOK Tryd.prog cfgKE1.G 56 kJnK.sum := Con.sumOK cfgKE1_ok kJnK Tryd.func56 rfl rfl (Con.of_inv _ _ _) tjk_body
end
end Go.Proofs.YtjdeaphfamenaaaDoor

namespace Go.Proofs.YtjdeaphfamenaaaDoor
open Go.Vc Go.Proofs
set_option maxRecDepth 10000
set_option maxHeartbeats 4000000
def fdS (m : krK.T) : krK.T → List flK.T → List Int → Option (List flK.T × krK.T)
  | bare, fs, [] => some (fs, bare)
  | bare, fs, t :: r => if vaO m t = true then fdS m (stM bare t (vaB m t)) (fs ++ [((t, vaB m t, ()) : flK.T)]) r else none
def fd0 (k : Int) : krK.T := (k, [], [], (0 : UInt64), (0 : Int), (0 : Int), [], [], (0 : Int), ())
def fdV (m : krK.T) : AV := match fdS m (fd0 m.1) [(((31 : Int), numS (UInt64.ofInt m.1), ()) : flK.T)] (hasK m.1) with
  | none => .tuple [.nilsl, .bool false]
  | some q => .tuple [.pure (.slice true flK) q.1, .bool (decide ((0 : Int) < (((hasK m.1).length : Nat) : Int)) && smM q.2 m)]
theorem hasK_len (k : Int) : (hasK k).length ≤ 6 := by
  unfold hasK
  repeat' (split; · decide)
  decide
def krOK (m : krK.T) : List Prop := [List.length (α := UInt8) m.2.1 ≤ 1000000000, List.length (α := UInt8) m.2.2.1 ≤ 1000000000, List.length (α := UInt8) m.2.2.2.2.2.2.1 ≤ 1000000000, List.length (α := UInt8) m.2.2.2.2.2.2.2.1 ≤ 1000000000]
theorem vaB_len {kd : Int} {cl sv : List UInt8} {no : UInt64} {en fl : Int} {ti se : List UInt8} {co : Int} {u1 : Unit} (h1 : cl.length ≤ 1000000000) (h2 : sv.length ≤ 1000000000) (h3 : ti.length ≤ 1000000000) (h4 : se.length ≤ 1000000000) (t : Int) : (vaB (kd, cl, sv, no, en, fl, ti, se, co, u1) t).length ≤ 1000000000 := by
  have hn : ∀ n, (numS n).length ≤ 1000000000 := fun n => Nat.le_trans (numS_len n) (by decide)
  unfold vaB
  split
  · exact h1
  · split
    · exact h2
    · split
      · exact hn _
      · split
        · exact hn _
        · split
          · exact hn _
          · split
            · exact h3
            · split
              · exact h4
              · exact hn _
def kFd : Con := Con.of [.v krK] (fun x => [List.length (α := UInt8) x.1.2.1 ≤ 1000000000, List.length (α := UInt8) x.1.2.2.1 ≤ 1000000000, List.length (α := UInt8) x.1.2.2.2.2.2.2.1 ≤ 1000000000, List.length (α := UInt8) x.1.2.2.2.2.2.2.2.1 ≤ 1000000000]) (fun x => ⟨fdV x.1, []⟩)
def cfgKF1 : Cfg2 := { ty := tyTabM, fn := fun | 87 => some kHas.sum | 60 => some kNumP.sum | 88 => some kVal.sum | 73 => some kSet.sum | 89 => some kSmM.sum | _ => none, G := gNone, pin := [], eq := fun _ => none }
theorem cfgKF1_ok : CfgOK Tryd.prog cfgKF1 := ⟨tyTabM_ok, (fun f s h => by
  simp only [cfgKF1] at h
  split at h
  · injection h with h; subst h; exact .inl has_sum
  · injection h with h; subst h; exact .inl numP_sum
  · injection h with h; subst h; exact .inl val_sum
  · injection h with h; subst h; exact .inl set_sum
  · injection h with h; subst h; exact .inl smm_sum
  · cases h), (fun t d h => by cases h)⟩
section
attribute [local go_sem] Tryd.f55 kFd kHas kNumP kVal kSet kSmM cfgKF1 tyTabM tyTabK tyTab
theorem fds_body (p : kFd.Par) (hp : ∀ q ∈ kFd.pre p, q) : BodyOK Tryd.prog cfgKF1 Tryd.f55 (Tryd.f55.body.get rfl) kFd p := by
  obtain ⟨⟨(kd : Int), (cl : List UInt8), (sv : List UInt8), (no : UInt64), (en : Int), (fl : Int), (ti : List UInt8), (se : List UInt8), (co : Int), u1⟩, u⟩ := p
  obtain ⟨h0, h1, h2, h3, _⟩ := Obs.of hp
  replace h0 : cl.length ≤ 1000000000 := h0
  replace h1 : sv.length ≤ 1000000000 := h1
  replace h2 : ti.length ≤ 1000000000 := h2
  replace h3 : se.length ≤ 1000000000 := h3
  have hvl := vaB_len (kd := kd) (no := no) (en := en) (fl := fl) (co := co) (u1 := u1) h0 h1 h2 h3
  have htl := hasK_len kd
  have hV : fdV (kd, cl, sv, no, en, fl, ti, se, co, u1) = (match fdS (kd, cl, sv, no, en, fl, ti, se, co, u1) (fd0 kd) [(((31 : Int), numS (UInt64.ofInt kd), ()) : flK.T)] (hasK kd) with
    | none => .tuple [.nilsl, .bool false]
    | some q => .tuple [.pure (.slice true flK) q.1, .bool (decide ((0 : Int) < (((hasK kd).length : Nat) : Int)) && smM q.2 (kd, cl, sv, no, en, fl, ti, se, co, u1))]) := rfl
  refine ⟨?_, Nat.zero_le _, (by show (fdV (kd, cl, sv, no, en, fl, ti, se, co, u1)).strict = true; rw [hV]; split <;> rfl), rfl⟩
  show Tri _ _ _ (Code.seq _ (Code.seq _ (Code.seq _ (Code.seq (Code.seq _ (Code.block _ (Code.loop (Code.seq _ (Code.seq (Code.cond _ _ _) (Code.seq (Code.block _ (Code.seq _ (Code.seq _ (Code.seq (Code.seq _ (Code.cond _ (Code.seq _ _) _)) (Code.seq _ _))))) _)))))) (Code.seq _ _))))) _
  generalize hT : hasK kd = tags at htl hV
  have t31 : List.take 1 [(((31 : Int), numS (UInt64.ofInt kd), ()) : flK.T)] = [((31 : Int), numS (UInt64.ofInt kd), ())] := rfl
  refine Tri.at (by first | (simp only [Con.start, go_sem]; rfl) | rfl) ?_
  repeat (first | ((first | refine Tri.seq (Tri.regT (cfgKF1_ok.pins _) ?_) | refine Tri.rgnT (cfgKF1_ok.pins _) ?_); (repeat (first | refine RunT.oneA (hp := by simp (maxSteps := 2000000) (disch := first | decide | omega | (simp only [List.length_append, List.length_cons, List.length_nil, List.length_take, List.length_drop]; omega)) only [t31, go_sem]; rfl) (h := ?_) | refine RunT.notA (h := ?_))); refine RunT.nil ?_; try simp only [InBlock, Then]) | ((first | refine Tri.seq (Tri.drwT (mixed) (cfgKF1_ok.pins _) ?_) | refine Tri.drnT (mixed) (cfgKF1_ok.pins _) ?_); (repeat (first | refine RunD.oneA (hp := by simp (maxSteps := 2000000) (disch := first | decide | omega | (simp only [List.length_append, List.length_cons, List.length_nil, List.length_take, List.length_drop]; omega)) only [hT, go_sem]; rfl) (h := ?_) | refine RunD.notA (h := ?_))); refine RunD.nil ?_; refine ⟨by kernel_rfl, ?_⟩; try simp only [InBlock, Then]) | refine Tri.cF (by first | (simp only [go_sem]; done) | fail) ?_ | refine Tri.cT (by first | (simp only [go_sem]; done) | fail) ?_ | (refine Tri.skip ?_; try simp only [InBlock, Then]) | (refine Tri.exit ?_; simp only [Then, InBlock, if_true, if_false, ↓reduceIte, Nat.reduceEqDiff]) | refine Tri.seq (Tri.block ?_) | refine Tri.block ?_ | refine Tri.seq ?_ | (refine Tri.ret ?_; refine Con.fin (.inl rfl) (by simp only [Tryd.f55, cfgKF1, resA, resA1, go_sem]; rfl) (by simp only [Obs, and_true, true_and]) (by first | (simp only [kFd, Con.of, Con.ofO, resV, hT, t31, go_sem]; done) | fail) trivial rfl rfl))
  refine Tri.loop (fun v : Nat × krK.T × List flK.T => (⟨[none, some (.ptr 0 [] 0), some (.tsl 3 [] 0 0 2 v.2.2.length), some (.bool false), some (.pure (.slice true (.int .i64)) tags), some (.ptr 1 [] 0), none, none, none, none, none, none, none, none, none, none, none, none, none, none, none, none, none, none, some (.pure (.slice true (.int .i64)) tags), some (.int .i64 (tags.length : Int)), some (.int .i64 (v.1 : Int))] ++ List.replicate 29 none, [.live (.pure krK (kd, cl, sv, no, en, fl, ti, se, co, u1)), .live (.pure krK v.2.1), .live (.pure (.arr 1 flK) [((31 : Int), numS (UInt64.ofInt kd), ())]), .live (.pure (.arr v.2.2.length flK) v.2.2)]⟩ : AS))
    (fun v => v.1 ≤ tags.length ∧ v.2.2.length ≤ v.1 + 1 ∧ fdS (kd, cl, sv, no, en, fl, ti, se, co, u1) (fd0 kd) [(((31 : Int), numS (UInt64.ofInt kd), ()) : flK.T)] tags = fdS (kd, cl, sv, no, en, fl, ti, se, co, u1) v.2.1 v.2.2 (tags.drop v.1)) (fun v => tags.length - v.1) (0, fd0 kd, [((31 : Int), numS (UInt64.ofInt kd), ())]) ?_ ⟨Nat.zero_le _, Nat.le_refl _, rfl⟩ ?_
  · refine Wk.of ?_ ?_ rfl rfl
    · simp only [lessTs, List.reduceReplicate, List.cons_append, List.nil_append, List.length_cons, List.length_nil] <;> ((repeat' apply And.intro) <;> first | with_reducible rfl | exact True.intro | exact congrArg (fun z : Int => some (AV.int IntKind.i64 z)) (show (_ : Int) = _ by omega) | exact congrArg (fun z : Nat => some (AV.tsl _ _ _ _ _ z)) (show (_ : Nat) = _ by omega) | exact arrEq (by omega) (by with_reducible rfl))
    exact ⟨rfl, rfl, rfl, rfl, trivial⟩
  · intro ⟨i, bare, fs⟩ ⟨hi, hfl, hfd⟩
    replace hi : i ≤ tags.length := hi
    replace hfl : fs.length ≤ i + 1 := hfl
    replace hfd : fdS (kd, cl, sv, no, en, fl, ti, se, co, u1) (fd0 kd) [(((31 : Int), numS (UInt64.ofInt kd), ()) : flK.T)] tags = fdS (kd, cl, sv, no, en, fl, ti, se, co, u1) bare fs (tags.drop i) := hfd
    have htq : List.take fs.length fs = fs := List.take_length
    by_cases hc : i < tags.length
    · have hc' : decide ((i : Int) < (tags.length : Int)) = true := decide_eq_true (by omega)
      have hdr : tags.drop i = tags.getD i 0 :: tags.drop (i + 1) := by
        rw [List.drop_eq_getElem_cons hc, List.getD_eq_getElem?_getD, List.getElem?_eq_getElem hc]; rfl
      have hbl := hvl (tags.getD i 0)
      rw [hdr, fdS] at hfd
      generalize hg : tags.getD i 0 = t at *
      have hbl2 : (vaB (kd, cl, sv, no, en, fl, ti, se, co, u1) t).length ≤ 140737488355328 := by omega
      cases ho : vaO (kd, cl, sv, no, en, fl, ti, se, co, u1) t with
      | false =>
        rw [ho] at hfd
        replace hfd : fdS (kd, cl, sv, no, en, fl, ti, se, co, u1) (fd0 kd) [(((31 : Int), numS (UInt64.ofInt kd), ()) : flK.T)] tags = none := hfd
        rw [hfd] at hV
        replace hV : fdV (kd, cl, sv, no, en, fl, ti, se, co, u1) = .tuple [.nilsl, .bool false] := hV
        refine Tri.at (by first | (simp only [go_sem]; rfl) | rfl) ?_
        repeat (first | ((first | refine Tri.seq (Tri.regT (cfgKF1_ok.pins _) ?_) | refine Tri.rgnT (cfgKF1_ok.pins _) ?_); (repeat (first | refine RunT.oneA (hp := by simp (maxSteps := 2000000) (disch := first | decide | omega | (simp only [List.length_append, List.length_cons, List.length_nil, List.length_take, List.length_drop]; omega)) only [hc', ho, hg, go_sem]; rfl) (h := ?_) | refine RunT.notA (h := ?_))); refine RunT.nil ?_; try simp only []) | refine Tri.cF (by first | (simp only [go_sem]; done) | fail) ?_ | refine Tri.cT (by first | (simp only [go_sem]; done) | fail) ?_ | (refine Tri.skip ?_; try simp only [Then]) | (refine Tri.exit ?_; simp only [Then, InBlock, if_true, if_false, ↓reduceIte, Nat.reduceEqDiff]) | refine Tri.seq (Tri.block ?_) | refine Tri.block ?_ | refine Tri.seq ?_ | (refine Tri.ret ?_; refine Con.fin (.inl rfl) (by simp only [Tryd.f55, cfgKF1, resA, resA1, go_sem]; rfl) (by simp only [Obs]) (by first | (simp only [kFd, Con.of, resV, go_sem]; done) | fail) trivial rfl rfl))
        refine Tri.ret ?_
        refine Con.fin (.inl rfl) (by simp only [Tryd.f55, cfgKF1, resA, resA1, go_sem]; rfl) (by simp only [Obs]) ?_ ?_ ?_ rfl
        · exact hV.symm
        · exact True.intro
        · show (AS.mk [some (fdV (kd, cl, sv, no, en, fl, ti, se, co, u1))] []).closed = true
          rw [hV]; rfl
      | true =>
        rw [ho, if_pos rfl] at hfd
        refine Tri.at (by first | (simp only [go_sem]; rfl) | rfl) ?_
        repeat (first | ((first | refine Tri.seq (Tri.regT (cfgKF1_ok.pins _) ?_) | refine Tri.rgnT (cfgKF1_ok.pins _) ?_); (repeat (first | refine RunT.oneA (hp := by simp (maxSteps := 2000000) (disch := first | decide | omega | (simp only [List.length_append, List.length_cons, List.length_nil, List.length_take, List.length_drop]; omega)) only [hc', ho, htq, hg, go_sem]; rfl) (h := ?_) | refine RunT.notA (h := ?_))); refine RunT.nil ?_; try simp only [InBlock, Then]) | ((first | refine Tri.seq (Tri.drwT (mixed) (cfgKF1_ok.pins _) ?_) | refine Tri.drnT (mixed) (cfgKF1_ok.pins _) ?_); (repeat (first | refine RunD.oneA (hp := by simp (maxSteps := 2000000) (disch := first | decide | omega | (simp only [List.length_append, List.length_cons, List.length_nil, List.length_take, List.length_drop]; omega)) only [hc', ho, htq, hg, go_sem]; rfl) (h := ?_) | refine RunD.notA (h := ?_))); refine RunD.nil ?_; refine ⟨by kernel_rfl, ?_⟩; try simp only [InBlock, Then]) | refine Tri.cF (by first | (simp only [go_sem]; done) | fail) ?_ | refine Tri.cT (by first | (simp only [go_sem]; done) | fail) ?_ | (refine Tri.skip ?_; try simp only [Then]) | (refine Tri.exit ?_; simp only [Then, InBlock, if_true, if_false, ↓reduceIte, Nat.reduceEqDiff]) | refine Tri.seq (Tri.block ?_) | refine Tri.block ?_ | refine Tri.seq ?_ | (refine Tri.ret ?_; refine Con.fin (.inl rfl) (by simp only [Tryd.f55, cfgKF1, resA, resA1, go_sem]; rfl) (by simp only [Obs, and_true, true_and]) (by first | (simp only [kFd, Con.of, Con.ofO, resV, hc', ho, htq, hg, go_sem]; done) | fail) trivial rfl rfl))
        refine ⟨(i + 1, stM bare t (vaB (kd, cl, sv, no, en, fl, ti, se, co, u1) t), fs ++ [(t, vaB (kd, cl, sv, no, en, fl, ti, se, co, u1) t, ())]), ⟨(by show i + 1 ≤ tags.length; omega), (by show (fs ++ [((t, vaB (kd, cl, sv, no, en, fl, ti, se, co, u1) t, ()) : flK.T)]).length ≤ i + 1 + 1; rw [List.length_append]; exact Nat.add_le_add_right hfl 1), hfd⟩, (by show tags.length - (i + 1) < tags.length - i; omega), Wk.of ?_ ?_ rfl rfl⟩
        · simp only [lessTs, List.reduceReplicate, List.cons_append, List.nil_append, List.length_append, List.length_cons, List.length_nil] <;> ((repeat' apply And.intro) <;> first | with_reducible rfl | exact True.intro | exact congrArg (fun z : Int => some (AV.int IntKind.i64 z)) (show (_ : Int) = _ by omega) | exact congrArg (fun z : Nat => some (AV.tsl _ _ _ _ _ z)) (show (_ : Nat) = _ by omega) | exact arrEq (by omega) (by with_reducible rfl))
        · exact ⟨rfl, rfl, rfl, arrEq (by show fs.length + 1 = (fs ++ [((t, vaB (kd, cl, sv, no, en, fl, ti, se, co, u1) t, ()) : flK.T)]).length; rw [List.length_append]; rfl) rfl, trivial⟩
    · have hc' : decide ((i : Int) < (tags.length : Int)) = false := decide_eq_false (by omega)
      rw [List.drop_eq_nil_of_le (by omega), fdS] at hfd
      rw [hfd] at hV
      replace hV : fdV (kd, cl, sv, no, en, fl, ti, se, co, u1) = .tuple [.pure (.slice true flK) fs, .bool (decide ((0 : Int) < ((tags.length : Nat) : Int)) && smM bare (kd, cl, sv, no, en, fl, ti, se, co, u1))] := hV
      cases hz : decide ((0 : Int) < ((tags.length : Nat) : Int))
      all_goals
        rw [hz] at hV
        simp only [Bool.true_and, Bool.false_and] at hV
        refine Tri.at (by first | (simp only [go_sem]; rfl) | rfl) ?_
        repeat (first | ((first | refine Tri.seq (Tri.regT (cfgKF1_ok.pins _) ?_) | refine Tri.rgnT (cfgKF1_ok.pins _) ?_); (repeat (first | refine RunT.oneA (hp := by simp (maxSteps := 2000000) (disch := first | decide | omega | (simp only [List.length_append, List.length_cons, List.length_nil, List.length_take, List.length_drop]; omega)) only [hc', hz, go_sem]; rfl) (h := ?_) | refine RunT.notA (h := ?_))); refine RunT.nil ?_; try simp only []) | refine Tri.cF (by first | (simp only [go_sem]; done) | fail) ?_ | refine Tri.cT (by first | (simp only [go_sem]; done) | fail) ?_ | (refine Tri.skip ?_; try simp only [InBlock, Then]) | (refine Tri.exit ?_; simp only [Then, InBlock, ↓reduceIte]) | refine Tri.seq (Tri.block ?_) | refine Tri.block ?_ | refine Tri.seq ?_ | (refine Tri.ret ?_; refine Con.fin (.inl rfl) (by simp only [Tryd.f55, cfgKF1, resA, resA1, go_sem]; rfl) (by simp only [Obs]) (by first | (simp only [kFd, Con.of, resV, go_sem]; done) | fail) trivial rfl rfl))
        refine Tri.rel true 3 rfl ?_ rfl rfl ?_
        · simp only [go_sem]
          repeat' constructor
        refine Tri.at (by first | (simp only [htq, go_sem]; rfl) | rfl) ?_
        refine Tri.ret ?_
        refine Con.fin (.inl rfl) (by simp only [Tryd.f55, cfgKF1, resA, resA1, go_sem]; rfl) (by simp only [Obs]) ?_ ?_ ?_ rfl
        · exact hV.symm
        · exact True.intro
        · show (AS.mk [some (fdV (kd, cl, sv, no, en, fl, ti, se, co, u1))] []).closed = true
          rw [hV]; rfl
theorem fds_sum : FSumOK Tryd.prog cfgKF1.G 55 kFd.sum := Con.sumOK cfgKF1_ok kFd Tryd.func55 rfl rfl (Con.of_inv _ _ _) fds_body
end
end Go.Proofs.YtjdeaphfamenaaaDoor

namespace Go.Proofs.YtjdeaphfamenaaaDoor
open Go.Vc Go.Proofs
set_option maxRecDepth 10000
set_option maxHeartbeats 4000000
theorem krw_len {s : List UInt8} (h : rgS (pwS s) = true) : s.length ≤ 70 := by
  rw [← tx_pw h]; exact tx_length h
theorem vaO_len {m : krK.T} {t : Int} (h : vaO m t = true) : (vaB m t).length ≤ 65535 := by
  have hn : ∀ n, (numS n).length ≤ 65535 := fun n => Nat.le_trans (numS_len n) (by decide)
  unfold vaO at h
  unfold vaB
  split
  · rename_i e; rw [if_pos e] at h; exact Nat.le_trans (krw_len h) (by decide)
  · rename_i e
    rw [if_neg e] at h
    split
    · rename_i e; rw [if_pos e] at h; exact Nat.le_trans (krw_len h) (by decide)
    · rename_i e
      rw [if_neg e] at h
      split
      · exact hn _
      · rename_i e
        rw [if_neg e] at h
        split
        · exact hn _
        · rename_i e
          rw [if_neg e] at h
          split
          · exact hn _
          · rename_i e
            rw [if_neg e] at h
            split
            · rename_i e; rw [if_pos e] at h
              rw [Bool.not_eq_true', decide_eq_false_iff_not] at h
              omega
            · rename_i e
              rw [if_neg e] at h
              split
              · rename_i e; rw [if_pos e] at h
                rw [Bool.not_eq_true', decide_eq_false_iff_not] at h
                omega
              · exact hn _
theorem fdS_ok (m : krK.T) : ∀ (tags : List Int) (bare : krK.T) (fs : List flK.T) (q : List flK.T × krK.T), fdS m bare fs tags = some q → (∀ t ∈ tags, 1 ≤ t ∧ t ≤ 255) → (∀ f ∈ fs, fkOK f) → q.1.length = fs.length + tags.length ∧ ∀ f ∈ q.1, fkOK f
  | [], bare, fs, q, h, _, hf => by
    simp only [fdS, Option.some.injEq] at h
    subst h
    exact ⟨rfl, hf⟩
  | t :: r, bare, fs, q, h, ht, hf => by
    rw [fdS] at h
    split at h
    · rename_i ho
      obtain ⟨h1, h2⟩ := fdS_ok m r _ _ q h (fun x hx => ht x (List.mem_cons_of_mem _ hx)) (fun f hff => by
        rcases List.mem_append.1 hff with hff | hff
        · exact hf f hff
        · rw [List.mem_singleton.1 hff]
          exact ⟨(ht t (List.mem_cons_self ..)).1, (ht t (List.mem_cons_self ..)).2, vaO_len ho⟩)
      refine ⟨?_, h2⟩
      rw [h1]
      simp only [List.length_append, List.length_cons, List.length_nil]
      omega
    · cases h
theorem hasK_mem (k : Int) : ∀ t ∈ hasK k, (32 : Int) ≤ t ∧ t ≤ 39 := by
  unfold hasK
  repeat' (split; · decide)
  decide
def fdR (m : krK.T) : Option (List flK.T) := match fdS m (fd0 m.1) [(((31 : Int), numS (UInt64.ofInt m.1), ()) : flK.T)] (hasK m.1) with
  | none => none
  | some q => if (decide ((0 : Int) < (((hasK m.1).length : Nat) : Int)) && smM q.2 m) = true then some q.1 else none
theorem fdR_ok {m : krK.T} {fs : List flK.T} (h : fdR m = some fs) : fs.length ≤ 7 ∧ ∀ f ∈ fs, fkOK f := by
  unfold fdR at h
  split at h
  · cases h
  · rename_i q hq
    split at h
    · injection h with h
      subst h
      have hk := hasK_mem m.1
      obtain ⟨h1, h2⟩ := fdS_ok m _ _ _ q hq (fun t ht => by have := hk t ht; omega) (fun f hf => by
        rw [List.mem_singleton.1 hf]
        exact ⟨(by show (1 : Int) ≤ 31; decide), (by show (31 : Int) ≤ 255; decide), Nat.le_trans (numS_len _) (by decide)⟩)
      refine ⟨?_, h2⟩
      have := hasK_len m.1
      rw [h1]
      show 1 + (hasK m.1).length ≤ 7
      omega
    · cases h
def wrV (m : krK.T) : AV := match fdR m with
  | some fs => .tuple [.pure (.slice true (.int .u8)) (jnK fs), .int .i64 (0 : Int)]
  | none => .tuple [.nilsl, .int .i64 (1 : Int)]
def chV (m : krK.T) : Int := match fdR m with | some _ => 0 | none => 1
def kWr : Con := Con.of [.v krK] (fun x => [List.length (α := UInt8) x.1.2.1 ≤ 1000000000, List.length (α := UInt8) x.1.2.2.1 ≤ 1000000000, List.length (α := UInt8) x.1.2.2.2.2.2.2.1 ≤ 1000000000, List.length (α := UInt8) x.1.2.2.2.2.2.2.2.1 ≤ 1000000000]) (fun x => ⟨wrV x.1, []⟩)
def kCh : Con := Con.of [.v krK] (fun x => [List.length (α := UInt8) x.1.2.1 ≤ 1000000000, List.length (α := UInt8) x.1.2.2.1 ≤ 1000000000, List.length (α := UInt8) x.1.2.2.2.2.2.2.1 ≤ 1000000000, List.length (α := UInt8) x.1.2.2.2.2.2.2.2.1 ≤ 1000000000]) (fun x => ⟨.int .i64 (chV x.1), []⟩)
def cfgKG1 : Cfg2 := { ty := tyTabM, fn := fun | 55 => some kFd.sum | 56 => some kJnK.sum | _ => none, G := gNone, pin := [], eq := fun _ => none }
theorem cfgKG1_ok : CfgOK Tryd.prog cfgKG1 := ⟨tyTabM_ok, (fun f s h => by
  simp only [cfgKG1] at h
  split at h
  · injection h with h; subst h; exact .inl fds_sum
  · injection h with h; subst h; exact .inl tjk_sum
  · cases h), (fun t d h => by cases h)⟩
section
attribute [local go_sem] Tryd.f32 kWr kFd kJnK cfgKG1 tyTabM tyTabK tyTab
theorem wr_body (p : kWr.Par) (hp : ∀ q ∈ kWr.pre p, q) : BodyOK Tryd.prog cfgKG1 Tryd.f32 (Tryd.f32.body.get rfl) kWr p := by
  obtain ⟨(m : krK.T), u⟩ := p
  obtain ⟨h0, h1, h2, h3, _⟩ := Obs.of hp
  replace h0 : List.length (α := UInt8) m.2.1 ≤ 1000000000 := h0
  replace h1 : List.length (α := UInt8) m.2.2.1 ≤ 1000000000 := h1
  replace h2 : List.length (α := UInt8) m.2.2.2.2.2.2.1 ≤ 1000000000 := h2
  replace h3 : List.length (α := UInt8) m.2.2.2.2.2.2.2.1 ≤ 1000000000 := h3
  refine ⟨?_, Nat.zero_le _, (by show (wrV m).strict = true; unfold wrV; split <;> rfl), rfl⟩
  show Tri _ _ _ (Code.seq _ (Code.seq _ (Code.seq (Code.seq _ (Code.cond _ (Code.seq _ _) _)) (Code.seq _ _)))) _
  cases hq : fdS m (fd0 m.1) [(((31 : Int), numS (UInt64.ofInt m.1), ()) : flK.T)] (hasK m.1) with
  | none =>
    have e1 : fdV m = .tuple [.nilsl, .bool false] := by rw [fdV, hq]
    have e2 : fdR m = none := by rw [fdR, hq]
    have e3 : wrV m = .tuple [.nilsl, .int .i64 (1 : Int)] := by rw [wrV, e2]
    refine Tri.at (by first | (simp only [Con.start, go_sem]; rfl) | rfl) ?_
    repeat (first | ((first | refine Tri.seq (Tri.regT (cfgKG1_ok.pins _) ?_) | refine Tri.rgnT (cfgKG1_ok.pins _) ?_); (repeat (first | refine RunT.oneA (hp := by simp (maxSteps := 2000000) (disch := first | decide | omega | (simp only [List.length_append, List.length_cons, List.length_nil, List.length_take, List.length_drop]; omega)) only [e1, go_sem]; rfl) (h := ?_) | refine RunT.notA (h := ?_))); refine RunT.nil ?_; try simp only [InBlock, Then]) | refine Tri.cF (by first | (simp only [go_sem]; done) | fail) ?_ | refine Tri.cT (by first | (simp only [go_sem]; done) | fail) ?_ | (refine Tri.skip ?_; try simp only [InBlock, Then]) | (refine Tri.exit ?_; simp only [Then, InBlock, if_true, if_false, ↓reduceIte, Nat.reduceEqDiff]) | refine Tri.seq (Tri.block ?_) | refine Tri.block ?_ | refine Tri.seq ?_ | (refine Tri.ret ?_; refine Con.fin (.inl rfl) (by simp only [Tryd.f32, cfgKG1, resA, resA1, go_sem]; rfl) (by simp only [Obs]) (by first | (simp only [kWr, Con.of, resV, go_sem]; done) | fail) trivial rfl rfl))
    refine Tri.ret ?_
    refine Con.fin (.inl rfl) (by simp only [Tryd.f32, cfgKG1, resA, resA1, go_sem]; rfl) (by simp only [Obs]) ?_ ?_ ?_ rfl
    · exact e3.symm
    · exact True.intro
    · show (AS.mk [some (wrV m)] []).closed = true
      rw [e3]; rfl
  | some q =>
    have e1 : fdV m = .tuple [.pure (.slice true flK) q.1, .bool (decide ((0 : Int) < (((hasK m.1).length : Nat) : Int)) && smM q.2 m)] := by rw [fdV, hq]
    cases hb : (decide ((0 : Int) < (((hasK m.1).length : Nat) : Int)) && smM q.2 m) with
    | false =>
      have e2 : fdR m = none := by
        rw [fdR, hq]
        show (if (decide ((0 : Int) < (((hasK m.1).length : Nat) : Int)) && smM q.2 m) = true then some q.1 else none) = none
        rw [hb]; rfl
      have e3 : wrV m = .tuple [.nilsl, .int .i64 (1 : Int)] := by rw [wrV, e2]
      rw [hb] at e1
      refine Tri.at (by first | (simp only [Con.start, go_sem]; rfl) | rfl) ?_
      repeat (first | ((first | refine Tri.seq (Tri.regT (cfgKG1_ok.pins _) ?_) | refine Tri.rgnT (cfgKG1_ok.pins _) ?_); (repeat (first | refine RunT.oneA (hp := by simp (maxSteps := 2000000) (disch := first | decide | omega | (simp only [List.length_append, List.length_cons, List.length_nil, List.length_take, List.length_drop]; omega)) only [e1, go_sem]; rfl) (h := ?_) | refine RunT.notA (h := ?_))); refine RunT.nil ?_; try simp only [InBlock, Then]) | refine Tri.cF (by first | (simp only [go_sem]; done) | fail) ?_ | refine Tri.cT (by first | (simp only [go_sem]; done) | fail) ?_ | (refine Tri.skip ?_; try simp only [InBlock, Then]) | (refine Tri.exit ?_; simp only [Then, InBlock, if_true, if_false, ↓reduceIte, Nat.reduceEqDiff]) | refine Tri.seq (Tri.block ?_) | refine Tri.block ?_ | refine Tri.seq ?_ | (refine Tri.ret ?_; refine Con.fin (.inl rfl) (by simp only [Tryd.f32, cfgKG1, resA, resA1, go_sem]; rfl) (by simp only [Obs]) (by first | (simp only [kWr, Con.of, resV, go_sem]; done) | fail) trivial rfl rfl))
      refine Tri.ret ?_
      refine Con.fin (.inl rfl) (by simp only [Tryd.f32, cfgKG1, resA, resA1, go_sem]; rfl) (by simp only [Obs]) ?_ ?_ ?_ rfl
      · exact e3.symm
      · exact True.intro
      · show (AS.mk [some (wrV m)] []).closed = true
        rw [e3]; rfl
    | true =>
      have e2 : fdR m = some q.1 := by
        rw [fdR, hq]
        show (if (decide ((0 : Int) < (((hasK m.1).length : Nat) : Int)) && smM q.2 m) = true then some q.1 else none) = some q.1
        rw [hb]; rfl
      have e3 : wrV m = .tuple [.pure (.slice true (.int .u8)) (jnK q.1), .int .i64 (0 : Int)] := by rw [wrV, e2]
      obtain ⟨g1, g2⟩ := fdR_ok e2
      rw [hb] at e1
      generalize q.1 = fs at *
      have g3 : fs.length ≤ 1000 := by omega
      refine Tri.at (by first | (simp only [Con.start, go_sem]; rfl) | rfl) ?_
      repeat (first | ((first | refine Tri.seq (Tri.regT (cfgKG1_ok.pins _) ?_) | refine Tri.rgnT (cfgKG1_ok.pins _) ?_); (repeat (first | refine RunT.oneA (hp := by simp (maxSteps := 2000000) (disch := first | decide | omega | (simp only [List.length_append, List.length_cons, List.length_nil, List.length_take, List.length_drop]; omega)) only [e1, go_sem]; rfl) (h := ?_) | refine RunT.notA (h := ?_))); refine RunT.nil ?_; try simp only [InBlock, Then]) | refine Tri.cF (by first | (simp only [go_sem]; done) | fail) ?_ | refine Tri.cT (by first | (simp only [go_sem]; done) | fail) ?_ | (refine Tri.skip ?_; try simp only [Then]) | (refine Tri.exit ?_; simp only [Then, InBlock, if_true, if_false, ↓reduceIte, Nat.reduceEqDiff]) | refine Tri.seq (Tri.block ?_) | refine Tri.block ?_ | refine Tri.seq ?_ | (refine Tri.ret ?_; refine Con.fin (.inl rfl) (by simp only [Tryd.f32, cfgKG1, resA, resA1, go_sem]; rfl) (by simp only [Obs]) (by first | (simp only [kWr, Con.of, resV, go_sem]; done) | fail) trivial rfl rfl))
      refine Tri.ret ?_
      refine Con.fin (.inl rfl) (by simp only [Tryd.f32, cfgKG1, resA, resA1, go_sem]; rfl) (by simp only [Obs]) ?_ ?_ ?_ rfl
      · exact e3.symm
      · exact True.intro
      · show (AS.mk [some (wrV m)] []).closed = true
        rw [e3]; rfl
theorem wr_sum : FSumOK Tryd.prog cfgKG1.G 32 kWr.sum := Con.sumOK cfgKG1_ok kWr Tryd.func32 rfl rfl (Con.of_inv _ _ _) wr_body
end
section
attribute [local go_sem] Tryd.f34 kCh kFd kJnK cfgKG1 tyTabM tyTabK tyTab
theorem chk_body (p : kCh.Par) (hp : ∀ q ∈ kCh.pre p, q) : BodyOK Tryd.prog cfgKG1 Tryd.f34 (Tryd.f34.body.get rfl) kCh p := by
  obtain ⟨(m : krK.T), u⟩ := p
  obtain ⟨h0, h1, h2, h3, _⟩ := Obs.of hp
  replace h0 : List.length (α := UInt8) m.2.1 ≤ 1000000000 := h0
  replace h1 : List.length (α := UInt8) m.2.2.1 ≤ 1000000000 := h1
  replace h2 : List.length (α := UInt8) m.2.2.2.2.2.2.1 ≤ 1000000000 := h2
  replace h3 : List.length (α := UInt8) m.2.2.2.2.2.2.2.1 ≤ 1000000000 := h3
  refine ⟨?_, Nat.zero_le _, rfl, rfl⟩
  show Tri _ _ _ (Code.seq _ (Code.seq (Code.seq _ (Code.seq _ (Code.cond _ (Code.seq _ _) _))) (Code.seq _ _))) _
  cases hq : fdS m (fd0 m.1) [(((31 : Int), numS (UInt64.ofInt m.1), ()) : flK.T)] (hasK m.1) with
  | none =>
    have e1 : fdV m = .tuple [.nilsl, .bool false] := by rw [fdV, hq]
    have e2 : fdR m = none := by rw [fdR, hq]
    have e3 : chV m = 1 := by rw [chV, e2]
    refine Tri.at (by first | (simp only [Con.start, go_sem]; rfl) | rfl) ?_
    repeat (first | ((first | refine Tri.seq (Tri.regT (cfgKG1_ok.pins _) ?_) | refine Tri.rgnT (cfgKG1_ok.pins _) ?_); (repeat (first | refine RunT.oneA (hp := by simp (maxSteps := 2000000) (disch := first | decide | omega | (simp only [List.length_append, List.length_cons, List.length_nil, List.length_take, List.length_drop]; omega)) only [e1, go_sem]; rfl) (h := ?_) | refine RunT.notA (h := ?_))); refine RunT.nil ?_; try simp only [InBlock, Then]) | refine Tri.cF (by first | (simp only [go_sem]; done) | fail) ?_ | refine Tri.cT (by first | (simp only [go_sem]; done) | fail) ?_ | (refine Tri.skip ?_; try simp only [InBlock, Then]) | (refine Tri.exit ?_; simp only [Then, InBlock, if_true, if_false, ↓reduceIte, Nat.reduceEqDiff]) | refine Tri.seq (Tri.block ?_) | refine Tri.block ?_ | refine Tri.seq ?_ | (refine Tri.ret ?_; refine Con.fin (.inl rfl) (by simp only [Tryd.f34, cfgKG1, resA, resA1, go_sem]; rfl) (by simp only [Obs]) (by first | (simp only [kCh, Con.of, resV, e3, go_sem]; done) | fail) trivial rfl rfl))
  | some q =>
    have e1 : fdV m = .tuple [.pure (.slice true flK) q.1, .bool (decide ((0 : Int) < (((hasK m.1).length : Nat) : Int)) && smM q.2 m)] := by rw [fdV, hq]
    cases hb : (decide ((0 : Int) < (((hasK m.1).length : Nat) : Int)) && smM q.2 m) with
    | false =>
      have e2 : fdR m = none := by
        rw [fdR, hq]
        show (if (decide ((0 : Int) < (((hasK m.1).length : Nat) : Int)) && smM q.2 m) = true then some q.1 else none) = none
        rw [hb]; rfl
      have e3 : chV m = 1 := by rw [chV, e2]
      rw [hb] at e1
      refine Tri.at (by first | (simp only [Con.start, go_sem]; rfl) | rfl) ?_
      repeat (first | ((first | refine Tri.seq (Tri.regT (cfgKG1_ok.pins _) ?_) | refine Tri.rgnT (cfgKG1_ok.pins _) ?_); (repeat (first | refine RunT.oneA (hp := by simp (maxSteps := 2000000) (disch := first | decide | omega | (simp only [List.length_append, List.length_cons, List.length_nil, List.length_take, List.length_drop]; omega)) only [e1, go_sem]; rfl) (h := ?_) | refine RunT.notA (h := ?_))); refine RunT.nil ?_; try simp only [InBlock, Then]) | refine Tri.cF (by first | (simp only [go_sem]; done) | fail) ?_ | refine Tri.cT (by first | (simp only [go_sem]; done) | fail) ?_ | (refine Tri.skip ?_; try simp only [InBlock, Then]) | (refine Tri.exit ?_; simp only [Then, InBlock, if_true, if_false, ↓reduceIte, Nat.reduceEqDiff]) | refine Tri.seq (Tri.block ?_) | refine Tri.block ?_ | refine Tri.seq ?_ | (refine Tri.ret ?_; refine Con.fin (.inl rfl) (by simp only [Tryd.f34, cfgKG1, resA, resA1, go_sem]; rfl) (by simp only [Obs]) (by first | (simp only [kCh, Con.of, resV, e3, go_sem]; done) | fail) trivial rfl rfl))
    | true =>
      have e2 : fdR m = some q.1 := by
        rw [fdR, hq]
        show (if (decide ((0 : Int) < (((hasK m.1).length : Nat) : Int)) && smM q.2 m) = true then some q.1 else none) = some q.1
        rw [hb]; rfl
      have e3 : chV m = 0 := by rw [chV, e2]
      rw [hb] at e1
      refine Tri.at (by first | (simp only [Con.start, go_sem]; rfl) | rfl) ?_
      repeat (first | ((first | refine Tri.seq (Tri.regT (cfgKG1_ok.pins _) ?_) | refine Tri.rgnT (cfgKG1_ok.pins _) ?_); (repeat (first | refine RunT.oneA (hp := by simp (maxSteps := 2000000) (disch := first | decide | omega | (simp only [List.length_append, List.length_cons, List.length_nil, List.length_take, List.length_drop]; omega)) only [e1, go_sem]; rfl) (h := ?_) | refine RunT.notA (h := ?_))); refine RunT.nil ?_; try simp only [InBlock, Then]) | refine Tri.cF (by first | (simp only [go_sem]; done) | fail) ?_ | refine Tri.cT (by first | (simp only [go_sem]; done) | fail) ?_ | (refine Tri.skip ?_; try simp only [Then]) | (refine Tri.exit ?_; simp only [Then, InBlock, if_true, if_false, ↓reduceIte, Nat.reduceEqDiff]) | refine Tri.seq (Tri.block ?_) | refine Tri.block ?_ | refine Tri.seq ?_ | (refine Tri.ret ?_; refine Con.fin (.inl rfl) (by simp only [Tryd.f34, cfgKG1, resA, resA1, go_sem]; rfl) (by simp only [Obs]) (by first | (simp only [kCh, Con.of, resV, e3, go_sem]; done) | fail) trivial rfl rfl))
theorem chk_sum : FSumOK Tryd.prog cfgKG1.G 34 kCh.sum := Con.sumOK cfgKG1_ok kCh Tryd.func34 rfl rfl (Con.of_inv _ _ _) chk_body
end
def kKs : Con := Con.of [] (fun _ => []) (fun _ => ⟨.bool true, []⟩)
theorem ks_1 : fdR ((7 : Int), [], [], (5 : UInt64), (0 : Int), (0 : Int), [], [], (66 : Int), ()) = some [((31 : Int), [7], ()), ((34 : Int), [5], ()), ((39 : Int), [66], ())] := by decide +kernel
theorem ks_2 : jnK [((31 : Int), [7], ()), ((34 : Int), [5], ()), ((39 : Int), [66], ())] = [31, 0, 1, 7, 34, 0, 1, 5, 39, 0, 1, 66] := by decide +kernel
theorem ks_3 : wrV ((7 : Int), [], [], (5 : UInt64), (0 : Int), (0 : Int), [], [], (66 : Int), ()) = .tuple [.pure (.slice true (.int .u8)) [31, 0, 1, 7, 34, 0, 1, 5, 39, 0, 1, 66], .int .i64 (0 : Int)] := by
  rw [wrV, ks_1]
  show AV.tuple [.pure (.slice true (.int .u8)) (jnK [((31 : Int), [7], ()), ((34 : Int), [5], ()), ((39 : Int), [66], ())]), .int .i64 (0 : Int)] = _
  rw [ks_2]
def km0 : krK.T := ((7 : Int), [], [], (5 : UInt64), (0 : Int), (0 : Int), [], [], (66 : Int), ())
theorem ks_4 : wrV km0 = .tuple [.pure (.slice true (.int .u8)) [31, 0, 1, 7, 34, 0, 1, 5, 39, 0, 1, 66], .int .i64 (0 : Int)] := ks_3
theorem ks_5 : List.length (α := UInt8) km0.2.1 = 0 ∧ List.length (α := UInt8) km0.2.2.1 = 0 ∧ List.length (α := UInt8) km0.2.2.2.2.2.2.1 = 0 ∧ List.length (α := UInt8) km0.2.2.2.2.2.2.2.1 = 0 := ⟨rfl, rfl, rfl, rfl⟩
def cfgKG2 : Cfg2 := { ty := tyTabM, fn := fun | 32 => some kWr.sum | _ => none, G := gNone, pin := [], eq := fun _ => none }
theorem cfgKG2_ok : CfgOK Tryd.prog cfgKG2 := ⟨tyTabM_ok, (fun f s h => by
  simp only [cfgKG2] at h
  split at h
  · injection h with h; subst h; exact .inl wr_sum
  · cases h), (fun t d h => by cases h)⟩
section
attribute [local go_sem] Tryd.f30 kKs kWr cfgKG2 tyTabM tyTabK tyTab
theorem ksp_body (p : kKs.Par) (hp : ∀ q ∈ kKs.pre p, q) : BodyOK Tryd.prog cfgKG2 Tryd.f30 (Tryd.f30.body.get rfl) kKs p := by
  obtain ⟨⟩ := p
  refine ⟨?_, Nat.zero_le _, rfl, rfl⟩
  show Tri _ _ _ (Code.seq _ (Code.seq _ (Code.seq _ _))) _
  have z1 : decide ((0 : Int) = 0) = true := rfl
  have z2 : strEq [31, 0, 1, 7, 34, 0, 1, 5, 39, 0, 1, 66] [31, 0, 1, 7, 34, 0, 1, 5, 39, 0, 1, 66] = true := rfl
  obtain ⟨l1, l2, l3, l4⟩ := ks_5
  refine Tri.at (by first | (simp only [go_sem, Con.start, go_sem]; rfl) | rfl) ?_
  refine Tri.seq (Tri.regT (cfgKG2_ok.pins _) ?_)
  repeat (first | refine RunT.oneA (hp := by simp (maxSteps := 2000000) (disch := first | decide | omega | (simp only [List.length_append, List.length_cons, List.length_nil, List.length_take, List.length_drop]; omega)) only [go_sem, go_sem]; rfl) (h := ?_) | refine RunT.notA (h := ?_))
  refine RunT.nil ?_
  refine Tri.seq (Tri.regT (cfgKG2_ok.pins _) ?_)
  refine RunT.one (by exact wantedA_none rfl) (by simp (maxSteps := 2000000) (disch := first | decide | omega | (simp only [List.length_append, List.length_cons, List.length_nil, List.length_take, List.length_drop]; omega)) only [go_sem]; rfl) (by simp only [go_sem]; rfl) (by first | exact True.intro | (simp only [Obs, and_true, true_and]; omega)) ?_
  change RunT _ _ _ ⟨[some (.bool false), none, none, none, some (.pure krK km0), none, none, none, none, none, none, none, none, none, none], []⟩ _
  repeat (first | refine RunT.one (by first | exact wantedA_none rfl | (simp only [go_sem]; done) | (simp only [go_sem]; with_reducible rfl)) (by simp (maxSteps := 2000000) (disch := first | decide | omega | (simp only [List.length_append, List.length_cons, List.length_nil, List.length_take, List.length_drop]; omega)) only [ks_4, go_sem]; rfl) (by simp only [go_sem]; rfl) (by first | exact True.intro | (simp only [Obs, and_true]; omega)) ?_)
  refine RunT.nil ?_
  try simp only [InBlock, Then]
  refine Tri.at (by first | (simp only [z1, z2, Con.start, go_sem]; rfl) | rfl) ?_
  repeat (first | ((first | refine Tri.seq (Tri.regT (cfgKG2_ok.pins _) ?_) | refine Tri.rgnT (cfgKG2_ok.pins _) ?_); (repeat (first | refine RunT.oneA (hp := by simp (maxSteps := 2000000) (disch := first | decide | omega | (simp only [List.length_append, List.length_cons, List.length_nil, List.length_take, List.length_drop]; omega)) only [z2, go_sem]; rfl) (h := ?_) | refine RunT.notA (h := ?_))); refine RunT.nil ?_; try simp only [InBlock, Then]) | refine Tri.cF (by first | (simp only [go_sem]; done) | fail) ?_ | refine Tri.cT (by first | (simp only [go_sem]; done) | fail) ?_ | (refine Tri.skip ?_; try simp only [InBlock, Then]) | (refine Tri.exit ?_; simp only [Then, InBlock, if_true, if_false, ↓reduceIte, Nat.reduceEqDiff]) | refine Tri.seq (Tri.block ?_) | refine Tri.block ?_ | refine Tri.seq ?_ | (refine Tri.ret ?_; refine Con.fin (.inl rfl) (by simp only [Tryd.f30, cfgKG2, resA, resA1, go_sem]; rfl) (by simp only [Obs]) (by first | (simp only [kKs, Con.of, resV, go_sem]; done) | fail) trivial rfl rfl))
theorem ksp_sum : FSumOK Tryd.prog cfgKG2.G 30 kKs.sum := Con.sumOK cfgKG2_ok kKs Tryd.func30 rfl rfl (Con.of_inv _ _ _) ksp_body
end
def cfgKG3 : Cfg2 := { ty := tyTabM, fn := fun | 30 => some kKs.sum | _ => none, G := gNone, pin := [], eq := fun _ => none }
theorem cfgKG3_ok : CfgOK Tryd.prog cfgKG3 := ⟨tyTabM_ok, (fun f s h => by
  simp only [cfgKG3] at h
  split at h
  · injection h with h; subst h; exact .inl ksp_sum
  · cases h), (fun t d h => by cases h)⟩
section
attribute [local go_sem] Tryd.f10 kKs cfgKG3 tyTabM tyTabK tyTab
theorem kns_body (p : kKs.Par) (hp : ∀ q ∈ kKs.pre p, q) : BodyOK Tryd.prog cfgKG3 Tryd.f10 (Tryd.f10.body.get rfl) kKs p := by
  obtain ⟨⟩ := p
  refine ⟨?_, Nat.zero_le _, rfl, rfl⟩
  show Tri _ _ _ (Code.seq _ (Code.seq (Code.seq _ (Code.cond _ (Code.seq _ _) _)) (Code.seq _ (Code.seq _ (Code.seq _ _))))) _
  refine Tri.at (by first | (simp only [go_sem, Con.start, go_sem]; rfl) | rfl) ?_
  repeat (first | ((first | refine Tri.seq (Tri.regT (cfgKG3_ok.pins _) ?_) | refine Tri.rgnT (cfgKG3_ok.pins _) ?_); (repeat (first | refine RunT.oneA (hp := by simp (maxSteps := 2000000) (disch := first | decide | omega | (simp only [List.length_append, List.length_cons, List.length_nil, List.length_take, List.length_drop]; omega)) only [go_sem, go_sem]; rfl) (h := ?_) | refine RunT.notA (h := ?_))); refine RunT.nil ?_; try simp only [InBlock, Then]) | refine Tri.cF (by first | (simp only [go_sem, go_sem]; done) | fail) ?_ | refine Tri.cT (by first | (simp only [go_sem, go_sem]; done) | fail) ?_ | (refine Tri.skip ?_; try simp only [Then]) | (refine Tri.exit ?_; simp only [Then, InBlock, if_true, if_false, ↓reduceIte, Nat.reduceEqDiff]) | refine Tri.seq (Tri.block ?_) | refine Tri.block ?_ | refine Tri.seq ?_ | (refine Tri.ret ?_; refine Con.fin (.inl rfl) (by simp only [Tryd.f10, cfgKG3, resA, resA1, go_sem]; rfl) (by simp only [Obs]) (by first | (simp only [kKs, Con.of, resV, go_sem, go_sem]; done) | fail) trivial rfl rfl))
theorem kns_sum : FSumOK Tryd.prog cfgKG3.G 10 kKs.sum := Con.sumOK cfgKG3_ok kKs Tryd.func10 rfl rfl (Con.of_inv _ _ _) kns_body
end
end Go.Proofs.YtjdeaphfamenaaaDoor

namespace Go.Proofs.YtjdeaphfamenaaaDoor
open Go.Vc Go.Proofs
set_option maxRecDepth 10000
set_option maxHeartbeats 4000000
theorem u8_ne (a b : List UInt8) (i : Nat) (h1 : i < a.length) (h2 : i < b.length) (h : decide (a.getD i 0 = b.getD i 0) = false) : strEq a b = false := by
  refine decide_eq_false fun e => ?_
  rw [e] at h
  exact absurd (of_decide_eq_false h) (by simp)
theorem u8_eq (a b : List UInt8) (hl : a.length = b.length) (h : ∀ j, j < a.length → decide (a.getD j 0 = b.getD j 0) = true) : strEq a b = true := by
  refine decide_eq_true (List.ext_getElem hl fun j h1 h2 => ?_)
  have := of_decide_eq_true (h j h1)
  rw [List.getD_eq_getElem?_getD, List.getD_eq_getElem?_getD, List.getElem?_eq_getElem h1, List.getElem?_eq_getElem h2] at this
  exact this
def kEqB : Con := Con.of [.v (.slice false (.int .u8)), .v (.slice false (.int .u8))] (fun x => [List.length (α := UInt8) x.1 ≤ 9223372036854775807]) (fun x => ⟨.bool (strEq x.1 x.2.1), []⟩)
def cfgKQ1 : Cfg2 := { ty := tyTab, fn := fun  | _ => none, G := gNone, pin := [], eq := fun _ => none }
theorem cfgKQ1_ok : CfgOK Tryd.prog cfgKQ1 := ⟨tysOK, (fun f s h => by cases h), (fun t d h => by cases h)⟩
section
attribute [local go_sem] Tryd.f74 kEqB cfgKQ1 tyTab
theorem eqb_body (p : kEqB.Par) (hp : ∀ q ∈ kEqB.pre p, q) : BodyOK Tryd.prog cfgKQ1 Tryd.f74 (Tryd.f74.body.get rfl) kEqB p := by
  obtain ⟨(a : List UInt8), (b : List UInt8), u⟩ := p
  obtain ⟨h0, _⟩ := Obs.of hp
  replace h0 : a.length ≤ 9223372036854775807 := h0
  refine ⟨?_, Nat.zero_le _, rfl, rfl⟩
  show Tri _ _ _ (Code.seq _ (Code.seq (Code.seq _ (Code.cond _ (Code.seq _ _) _)) (Code.seq (Code.seq _ (Code.block _ (Code.loop (Code.seq _ (Code.seq (Code.cond _ _ _) (Code.seq (Code.block _ (Code.seq _ (Code.seq _ (Code.cond _ (Code.seq _ _) _)))) _)))))) (Code.seq _ _)))) _
  by_cases hl : a.length = b.length
  · have hl' : decide ((a.length : Int) = (b.length : Int)) = true := decide_eq_true (by omega)
    refine Tri.at (by first | (simp only [Con.start, go_sem]; rfl) | rfl) ?_
    repeat (first | ((first | refine Tri.seq (Tri.regT (cfgKQ1_ok.pins _) ?_) | refine Tri.rgnT (cfgKQ1_ok.pins _) ?_); (repeat (first | refine RunT.oneA (hp := by simp (maxSteps := 2000000) (disch := first | decide | omega | (simp only [List.length_append, List.length_cons, List.length_nil, List.length_take, List.length_drop]; omega)) only [hl', go_sem]; rfl) (h := ?_) | refine RunT.notA (h := ?_))); refine RunT.nil ?_; try simp only [InBlock, Then]) | refine Tri.cF (by first | (simp only [go_sem]; done) | fail) ?_ | refine Tri.cT (by first | (simp only [go_sem]; done) | fail) ?_ | (refine Tri.skip ?_; try simp only [Then]) | (refine Tri.exit ?_; simp only [Then, InBlock, if_true, if_false, ↓reduceIte, Nat.reduceEqDiff]) | refine Tri.seq (Tri.block ?_) | refine Tri.block ?_ | refine Tri.seq ?_ | (refine Tri.ret ?_; refine Con.fin (.inl rfl) (by simp only [Tryd.f74, cfgKQ1, resA, resA1, go_sem]; rfl) (by simp only [Obs, and_true, true_and]) (by first | (simp only [kEqB, Con.of, Con.ofO, resV, hl', go_sem]; done) | fail) trivial rfl rfl))
    refine Tri.loop (fun i : Nat => (⟨[some (.pure (.slice false (.int .u8)) a), some (.pure (.slice false (.int .u8)) b), none, none, none, none, none, none, none, none, none, none, some (.int .i64 (a.length : Int)), some (.int .i64 (i : Int))] ++ List.replicate 12 none, []⟩ : AS)) (fun i => i ≤ a.length ∧ ∀ j, j < i → decide (a.getD j 0 = b.getD j 0) = true) (fun i => a.length - i) 0 ?_ ⟨Nat.zero_le _, fun j hj => by omega⟩ ?_
    · refine Wk.of ?_ ?_ rfl rfl
      · simp only [lessTs, List.reduceReplicate, List.cons_append, List.nil_append] <;> ((repeat' apply And.intro) <;> first | with_reducible rfl | exact True.intro | exact congrArg (fun z : Int => some (AV.int IntKind.i64 z)) (show (_ : Int) = _ by omega) | exact congrArg (fun z : Nat => some (AV.tsl _ _ _ _ _ z)) (show (_ : Nat) = _ by omega) | exact arrEq (by omega) (by with_reducible rfl))
      · simp only [lessHs] <;> ((repeat' apply And.intro) <;> first | with_reducible rfl | exact True.intro | exact congrArg (fun z : Int => some (AV.int IntKind.i64 z)) (show (_ : Int) = _ by omega) | exact congrArg (fun z : Nat => some (AV.tsl _ _ _ _ _ z)) (show (_ : Nat) = _ by omega) | exact arrEq (by omega) (by with_reducible rfl))
    · intro i ⟨hi, hh⟩
      by_cases h1 : i < a.length
      · have h1' : decide ((i : Int) < (a.length : Int)) = true := decide_eq_true (by omega)
        cases hc : decide (a.getD i 0 = b.getD i 0) with
        | true =>
          refine Tri.at (by first | (simp only [go_sem]; rfl) | rfl) ?_
          repeat (first | ((first | refine Tri.seq (Tri.regT (cfgKQ1_ok.pins _) ?_) | refine Tri.rgnT (cfgKQ1_ok.pins _) ?_); (repeat (first | refine RunT.oneA (hp := by simp (maxSteps := 2000000) (disch := first | decide | omega | (simp only [List.length_append, List.length_cons, List.length_nil, List.length_take, List.length_drop]; omega)) only [h1', go_sem]; rfl) (h := ?_) | refine RunT.notA (h := ?_))); refine RunT.nil ?_; try simp only [Then]) | ((first | refine Tri.seq (Tri.drwT (mixed) (cfgKQ1_ok.pins _) ?_) | refine Tri.drnT (mixed) (cfgKQ1_ok.pins _) ?_); (repeat (first | refine RunD.oneA (hp := by simp (maxSteps := 2000000) (disch := first | decide | omega | (simp only [List.length_append, List.length_cons, List.length_nil, List.length_take, List.length_drop]; omega)) only [hc, go_sem]; rfl) (h := ?_) | refine RunD.notA (h := ?_))); refine RunD.nil ?_; refine ⟨by kernel_rfl, ?_⟩; try simp only [InBlock, Then]) | refine Tri.cF (by first | (simp only [go_sem]; done) | fail) ?_ | refine Tri.cT (by first | (simp only [go_sem]; done) | fail) ?_ | (refine Tri.skip ?_; try simp only [InBlock, Then]) | (refine Tri.exit ?_; simp only [Then, InBlock, if_true, if_false, ↓reduceIte, Nat.reduceEqDiff]) | refine Tri.seq (Tri.block ?_) | refine Tri.block ?_ | refine Tri.seq ?_ | (refine Tri.ret ?_; refine Con.fin (.inl rfl) (by simp only [Tryd.f74, cfgKQ1, resA, resA1, go_sem]; rfl) (by simp only [Obs, and_true, true_and]) (by first | (simp only [kEqB, Con.of, Con.ofO, resV, h1', hc, go_sem]; done) | fail) trivial rfl rfl))
          refine ⟨i + 1, ⟨(by omega), fun j hj => ?_⟩, (by omega), Wk.of ?_ ?_ rfl rfl⟩
          · by_cases e : j = i
            · rw [e]; exact hc
            · exact hh j (by omega)
          · simp only [lessTs, List.reduceReplicate, List.cons_append, List.nil_append] <;> ((repeat' apply And.intro) <;> first | with_reducible rfl | exact True.intro | exact congrArg (fun z : Int => some (AV.int IntKind.i64 z)) (show (_ : Int) = _ by omega) | exact congrArg (fun z : Nat => some (AV.tsl _ _ _ _ _ z)) (show (_ : Nat) = _ by omega) | exact arrEq (by omega) (by with_reducible rfl))
          · trivial
        | false =>
          have hp0 : strEq a b = false := u8_ne a b i h1 (by omega) hc
          refine Tri.at (by first | (simp only [go_sem]; rfl) | rfl) ?_
          repeat (first | ((first | refine Tri.seq (Tri.regT (cfgKQ1_ok.pins _) ?_) | refine Tri.rgnT (cfgKQ1_ok.pins _) ?_); (repeat (first | refine RunT.oneA (hp := by simp (maxSteps := 2000000) (disch := first | decide | omega | (simp only [List.length_append, List.length_cons, List.length_nil, List.length_take, List.length_drop]; omega)) only [h1', go_sem]; rfl) (h := ?_) | refine RunT.notA (h := ?_))); refine RunT.nil ?_; try simp only [InBlock, Then]) | ((first | refine Tri.seq (Tri.drwT (mixed) (cfgKQ1_ok.pins _) ?_) | refine Tri.drnT (mixed) (cfgKQ1_ok.pins _) ?_); (repeat (first | refine RunD.oneA (hp := by simp (maxSteps := 2000000) (disch := first | decide | omega | (simp only [List.length_append, List.length_cons, List.length_nil, List.length_take, List.length_drop]; omega)) only [hc, go_sem]; rfl) (h := ?_) | refine RunD.notA (h := ?_))); refine RunD.nil ?_; refine ⟨by kernel_rfl, ?_⟩; try simp only [InBlock, Then]) | refine Tri.cF (by first | (simp only [go_sem]; done) | fail) ?_ | refine Tri.cT (by first | (simp only [go_sem]; done) | fail) ?_ | (refine Tri.skip ?_; try simp only [Then]) | (refine Tri.exit ?_; simp only [Then, InBlock, if_true, if_false, ↓reduceIte, Nat.reduceEqDiff]) | refine Tri.seq (Tri.block ?_) | refine Tri.block ?_ | refine Tri.seq ?_ | (refine Tri.ret ?_; refine Con.fin (.inl rfl) (by simp only [Tryd.f74, cfgKQ1, resA, resA1, go_sem]; rfl) (by simp only [Obs]) (by first | (simp only [kEqB, Con.of, resV, hp0, go_sem]; done) | fail) trivial rfl rfl))
      · have h1' : decide ((i : Int) < (a.length : Int)) = false := decide_eq_false (by omega)
        have hp0 : strEq a b = true := u8_eq a b hl fun j hj => hh j (by omega)
        refine Tri.at (by first | (simp only [go_sem]; rfl) | rfl) ?_
        repeat (first | ((first | refine Tri.seq (Tri.regT (cfgKQ1_ok.pins _) ?_) | refine Tri.rgnT (cfgKQ1_ok.pins _) ?_); (repeat (first | refine RunT.oneA (hp := by simp (maxSteps := 2000000) (disch := first | decide | omega | (simp only [List.length_append, List.length_cons, List.length_nil, List.length_take, List.length_drop]; omega)) only [h1', go_sem]; rfl) (h := ?_) | refine RunT.notA (h := ?_))); refine RunT.nil ?_; try simp only [InBlock, Then]) | refine Tri.cF (by first | (simp only [go_sem]; done) | fail) ?_ | refine Tri.cT (by first | (simp only [go_sem]; done) | fail) ?_ | (refine Tri.skip ?_; try simp only [InBlock, Then]) | (refine Tri.exit ?_; simp only [Then, InBlock, ↓reduceIte]) | refine Tri.seq (Tri.block ?_) | refine Tri.block ?_ | refine Tri.seq ?_ | (refine Tri.ret ?_; refine Con.fin (.inl rfl) (by simp only [Tryd.f74, cfgKQ1, resA, resA1, go_sem]; rfl) (by simp only [Obs]) (by first | (simp only [kEqB, Con.of, resV, hp0, go_sem]; done) | fail) trivial rfl rfl))
  · have hl' : decide ((a.length : Int) = (b.length : Int)) = false := decide_eq_false (by omega)
    have hp0 : strEq a b = false := decide_eq_false fun e => hl (by rw [e])
    refine Tri.at (by first | (simp only [Con.start, go_sem]; rfl) | rfl) ?_
    repeat (first | ((first | refine Tri.seq (Tri.regT (cfgKQ1_ok.pins _) ?_) | refine Tri.rgnT (cfgKQ1_ok.pins _) ?_); (repeat (first | refine RunT.oneA (hp := by simp (maxSteps := 2000000) (disch := first | decide | omega | (simp only [List.length_append, List.length_cons, List.length_nil, List.length_take, List.length_drop]; omega)) only [hl', go_sem]; rfl) (h := ?_) | refine RunT.notA (h := ?_))); refine RunT.nil ?_; try simp only [InBlock, Then]) | refine Tri.cF (by first | (simp only [go_sem]; done) | fail) ?_ | refine Tri.cT (by first | (simp only [go_sem]; done) | fail) ?_ | (refine Tri.skip ?_; try simp only [InBlock, Then]) | (refine Tri.exit ?_; simp only [Then, InBlock, if_true, if_false, ↓reduceIte, Nat.reduceEqDiff]) | refine Tri.seq (Tri.block ?_) | refine Tri.block ?_ | refine Tri.seq ?_ | (refine Tri.ret ?_; refine Con.fin (.inl rfl) (by simp only [Tryd.f74, cfgKQ1, resA, resA1, go_sem]; rfl) (by simp only [Obs]) (by first | (simp only [kEqB, Con.of, resV, hp0, go_sem]; done) | fail) trivial rfl rfl))
theorem eqb_sum : FSumOK Tryd.prog cfgKQ1.G 74 kEqB.sum := Con.sumOK cfgKQ1_ok kEqB Tryd.func74 rfl rfl (Con.of_inv _ _ _) eqb_body
end
end Go.Proofs.YtjdeaphfamenaaaDoor

namespace Go.Proofs.YtjdeaphfamenaaaDoor
open Go.Vc Go.Proofs
def spL (n : Nat) (fs : List flK.T) : Prop := ∀ f ∈ fs, List.length (α := UInt8) f.2.1 ≤ n
theorem spF_len (n : Nat) : ∀ (k : Nat) (d : List UInt8) (acc : List flK.T), d.length ≤ n → spL n acc → ∀ fs e, spF k d acc = (some fs, e) → spL n fs
  | 0, d, acc, _, ha, fs, e, h => by
    simp only [spF, Prod.mk.injEq, Option.some.injEq] at h
    rw [← h.1]; exact ha
  | k + 1, d, acc, hd, ha, fs, e, h => by
    rw [spF] at h
    split at h
    · simp only [Prod.mk.injEq, Option.some.injEq] at h
      rw [← h.1]; exact ha
    · split at h
      · cases h
      · split at h
        · cases h
        · split at h
          · cases h
          · refine spF_len n k _ _ (by rw [List.length_drop, List.length_drop]; omega) ?_ fs e h
            intro f hf
            rcases List.mem_append.1 hf with hf | hf
            · exact ha f hf
            · rw [List.mem_singleton.1 hf]
              show (List.take (spN d) (List.drop 3 d)).length ≤ n
              rw [List.length_take, List.length_drop]
              omega
def mlN (n : Nat) (m : krK.T) : Prop := List.length (α := UInt8) m.2.1 ≤ n ∧ List.length (α := UInt8) m.2.2.1 ≤ n ∧ List.length (α := UInt8) m.2.2.2.2.2.2.1 ≤ n ∧ List.length (α := UInt8) m.2.2.2.2.2.2.2.1 ≤ n
theorem stM_len {n : Nat} {m : krK.T} {b : List UInt8} (t : Int) (h : mlN n m) (hb : b.length ≤ n) : mlN n (stM m t b) := by
  obtain ⟨h1, h2, h3, h4⟩ := h
  unfold stM
  repeat' (split; · exact ⟨by first | exact h1 | exact hb, by first | exact h2 | exact hb, by first | exact h3 | exact hb, by first | exact h4 | exact hb⟩)
  exact ⟨h1, h2, h3, h4⟩
theorem fold_len {n : Nat} : ∀ (fs : List flK.T) (m : krK.T), mlN n m → spL n fs → mlN n (fs.foldl (fun b f => stM b f.1 f.2.1) m)
  | [], m, h, _ => h
  | f :: r, m, h, hf => by
    rw [List.foldl_cons]
    exact fold_len r _ (stM_len _ h (hf f (List.mem_cons_self ..))) fun x hx => hf x (List.mem_cons_of_mem _ hx)
end Go.Proofs.YtjdeaphfamenaaaDoor
