/- Part of a proof: any block under any key is encrypted as the standard has it, as the document's answer tells (the law AesBlocks answers true at every input and leaves its arguments as they were). No further condition. -/
import Derived.Test.YticgfjalikmniaaVc3
/- Vc, part Zf: what is known less of, slot by slot. -/
namespace Go.Vc
set_option linter.unusedVariables false
set_option linter.unusedSimpArgs false
set_option linter.unusedSectionVars false

def lessTs : List (Option AV) → List (Option AV) → Prop
  | [], [] => True
  | _ :: l, none :: m => lessTs l m
  | x :: l, some y :: m => x = some y ∧ lessTs l m
  | _, _ => False
def lessHs : List Slot → List Slot → Prop
  | _, [] => True
  | _ :: l, .unborn :: m => lessHs l m
  | x :: l, y :: m => x = y ∧ lessHs l m
  | _, _ => False
theorem lessTs.less : ∀ {l m : List (Option AV)}, lessTs l m → Less lessT l m
  | [], [], _ => .nil
  | x :: l, none :: m, h => .cons _ _ _ _ trivial (lessTs.less (l := l) (m := m) h)
  | x :: l, some y :: m, h => .cons _ _ _ _ h.1 (lessTs.less (l := l) (m := m) h.2)
  | [], _ :: _, h => h.elim
  | _ :: _, [], h => h.elim
theorem lessHs.less : ∀ {l m : List Slot}, lessHs l m → LessH l m
  | _, [], _ => .nil _
  | x :: l, .unborn :: m, h => .cons _ _ _ _ trivial (lessHs.less (l := l) (m := m) h)
  | x :: l, .dead :: m, h => .cons _ _ _ _ (by rw [show x = .dead from h.1]; rfl) (lessHs.less (l := l) (m := m) h.2)
  | x :: l, .live b :: m, h => .cons _ _ _ _ (by rw [show x = .live b from h.1]; rfl) (lessHs.less (l := l) (m := m) h.2)
  | [], .unborn :: _, h => h.elim
  | [], .dead :: _, h => h.elim
  | [], .live _ :: _, h => h.elim
theorem Wk.of {C : Cfg2} {S S' : AS} (ht : lessTs S.tmps S'.tmps) (hh : lessHs S.heap S'.heap) (hc : S'.closed = true) (hp : (C.pin.all fun id => (S'.blk id).born) = true) : Wk C S S' :=
  Wk.less ht.less hh.less hc fun id h => List.all_eq_true.1 hp id h
theorem Con.fin {K : Con} {C : Cfg2} {fn : Func} {p : K.Par} {e : Exit} {S : AS} {vs : List AV} {obs : List Prop} {l : List Nat} (he : e = .ret ∨ e = .normal)
    (h : (resA C.toCfg S fn.results.toList).run S.blk = some ((vs, obs), l)) (ho : Obs obs) (hv : resV vs = (K.out p).v) (hh : lessHs S.heap ((K.out p).fin.map .live))
    (hc : (⟨[some (K.out p).v], (K.out p).fin.map .live⟩ : AS).closed = true) (hp : (K.pins.all fun id => ((⟨[some (K.out p).v], (K.out p).fin.map .live⟩ : AS).blk id).born) = true) : K.post C fn p e S :=
  Con.done he h ho hv hh.less hc fun id h => List.all_eq_true.1 hp id h
section
variable {P : Program} {C : Cfg2} {S : AS} {c : Code} {Q : Exit → AS → Prop}
theorem Tri.lp {σ : Type} (I : σ → AS) (K : σ → Prop) (μ : σ → Nat) (s0 : σ) {K' : AS → Prop} (h0 : Wk C S (I s0)) (hk : K s0)
    (round : ∀ s, K s → Tri P C (I s) c (Then (fun S' => ∃ s', K s' ∧ μ s' < μ s ∧ Wk C S' (I s')) (Then K' Q))) : Tri P C S (.loop c) (Then K' Q) := Tri.loop I K μ s0 h0 hk round
theorem Tri.rgn (hC : CfgOK P C) {id : Nat} {l : List Oper} {S' : AS} {obs : List Prop} (h : runOps C l.toArray l S = some (S', obs)) (ho : Obs obs) (hq : Q .normal S') : Tri P C S (.region id l.toArray false) Q :=
  Tri.region hC h ho.all hq
theorem Tri.drn (hm : P.follows .mixedOrders = true) (hC : CfgOK P C) {id : Nat} {l : List Oper} {S' : AS} {obs : List Prop} {fps : List FP} (h : runRc C l.toArray l S = some (S', obs, fps)) (ho : Obs obs) (hd : drawOK l fps = true) (hq : Q .normal S') : Tri P C S (.region id l.toArray true) Q :=
  Tri.draw hm hC h ho.all hd hq
theorem Tri.cF {o : Operand} {x y : Code} (hc : S.ev C.G o = some (.bool false)) (h : Tri P C S y Q) : Tri P C S (.cond o x y) Q := Tri.cond (b := false) hc h
theorem Tri.cT {o : Operand} {x y : Code} (hc : S.ev C.G o = some (.bool true)) (h : Tri P C S x Q) : Tri P C S (.cond o x y) Q := Tri.cond (b := true) hc h
/-- Two pieces of code, with what is known between them. -/
theorem Tri.seqWk {x y : Code} {σ : Type} (I : σ → AS) (K : σ → Prop) (hx : Tri P C S x (Then (fun S' => ∃ s, K s ∧ Wk C S' (I s)) Q)) (hy : ∀ s, K s → Tri P C (I s) y Q) : Tri P C S (.seq x y) Q :=
  Tri.seq (hx.mono fun e S' h => by
    cases e with
    | normal =>
      obtain ⟨s, h1, h2⟩ := h
      exact (hy s h1).weak h2
    | _ => exact h)
/-- A loop in a block that is left by an exit. -/
theorem Tri.blk {id : Nat} (h : Tri P C S c (InBlock id Q)) : Tri P C S (.block id c) Q := Tri.block h
end
end Go.Vc
