/- Part of a proof: authenticators are written and read as the document says -/
import Derived.Test.YtjdeaphfamenaaaDoorVc3
import Derived.Laws.AppendOwn
set_option linter.unusedVariables false
set_option linter.unusedSimpArgs false
set_option linter.unusedSectionVars false
namespace Go.Vc
open Go.RowKit (Below)
section
variable {P : Program}
theorem Con.sumOKn {f : FuncId} {fn : Func} {c : Code} (K : Con) (hf : P.funcs[f]? = some fn) (hb : fn.body = some c) (hname : (fn.name == "runtime.NumGoroutine") = false)
    (hInv : InvOK K) (hm : K.m = 0)
    (hcalls : ∀ p, (∀ q ∈ K.pre p, q) → (K.out p).fin = [] ∧ (K.out p).v.strict = true ∧ ∀ (x : Ctx) (w : World) (V : List Value), x.hp = (fun b => w.heap[b]?) → RVs x (K.args p) V →
      Calls P f V.toArray w fun e w' => ∃ X, e = .returned X ∧ Below w.heap.size w w' ∧ ∀ x' : Ctx, x'.hp = (fun b => w'.heap[b]?) → (∀ own b, w.heap.size ≤ b → x'.ok own b) → RV x' (K.out p).v X) : FSumOK P (fun _ => none) f K.sum := by
  refine ⟨fun args w => by
    have h1 : fn.name ≠ "runtime.NumGoroutine" := by simpa using hname
    simp [callFunc, hf, h1, hb], ?_⟩
  intro S args nb r l hrun hobs hnew E ρ a w hG hpin hR V hV
  obtain ⟨q, l1, l2, h1, h2, h3⟩ := HP.run_bind hrun
  obtain ⟨p, ids, obs⟩ := q
  have := HP.run_ret h2
  subst this
  have ho1 : ∀ q ∈ obs, q := fun q hq => hobs q (List.mem_append_left _ hq)
  have ho2 : ∀ q ∈ K.pre p, q := fun q hq => hobs q (List.mem_append_right _ hq)
  have I := hInv _ _ _ _ _ _ h1 ho1
  obtain ⟨hfin, hst, hc⟩ := hcalls p ho2
  have hs := call_start hR I hV 0
  have e0 : V.toArray ++ Array.replicate (0 - V.toArray.size) undef = V.toArray := by simp
  rw [e0] at hs
  have hlen : (K.args p).length = V.length := by
    have := hs.len
    simpa [Con.start] using this
  have hargs := RVs.of_get hlen fun i v hv => by
    obtain ⟨X, h4, h5⟩ := hs.tm i v (by
      simp only [Con.start, Nat.zero_sub, List.replicate_zero, List.append_nil, List.getElem?_map, hv, Option.map_some])
    exact ⟨X, by simpa using h4, h5⟩
  refine (hc _ w V rfl hargs).mono fun e w' ⟨X, he, hB, hx⟩ => ⟨X, _, he, call_end (ρ2 := fun _ => none) (obs := obs) (nb := nb) hR I hnew hpin (by rw [hm]; exact Nat.zero_le _) hst (by rw [hfin]; rfl) ?_⟩
  rw [hfin]
  have hno : ∀ (ts : List (Option AV)) (id : Nat) (b : AV), ¬ AS.blk ⟨ts, List.map Slot.live []⟩ id = .live b := fun ts id b h => by cases id <;> cases h
  refine ⟨rfl, rfl, fun i v hv => ?_, fun id b h => (hno _ _ _ h).elim, fun id id' b b' g o o' h => (hno _ _ _ h).elim, fun id b g o h => (hno _ _ _ h).elim, ?_, fun i hi => ?_, fun g pd h => ?_⟩
  · cases i with
    | zero =>
      simp only [List.getElem?_cons_zero, Option.some.injEq] at hv
      subst hv
      refine ⟨X, rfl, hx _ rfl fun own b hb' => ⟨fun id bl o h => (hno _ _ _ h).elim, fun _ hF => ?_⟩⟩
      have := callEnv_hF hR (sg0 ids) K.m b hF
      omega
    | succ i => simp at hv
  · exact ⟨hB.os, hB.tape, hB.output, hB.size, fun k hk _ => hB.block k hk, fun k rc el fr h => ⟨rc, el, fr, (hB.block k (Array.getElem?_eq_some_iff.1 h).1).trans h, Nat.le_refl _⟩⟩
  · exfalso
    have : i ∈ K.pins := hi
    simp [Con.pins, hm] at this
  · have : E.glob g = some pd := h
    rw [hG] at this
    cases this
theorem Reads.u8s {ok : Bool → Nat → Prop} {hp : Nat → Option Obj} : ∀ {x : List UInt8} {flat : List Value}, RL (Reads ok hp (.int .u8)) x flat → flat = x.map fun b => .int .u8 (UInt8.toNat b : Int)
  | [], _, h => h
  | l :: r, _, ⟨c1, c2, e, h1, h2⟩ => by
    rw [e, Reads.u8s h2, show c1 = [.int .u8 (UInt8.toNat l : Int)] from h1]; rfl
theorem RL.u8s {ok : Bool → Nat → Prop} {hp : Nat → Option Obj} : ∀ (x : List UInt8), RL (Reads ok hp (.int .u8)) x (x.map fun b => .int .u8 (UInt8.toNat b : Int))
  | [] => rfl
  | b :: r => ⟨[.int .u8 (UInt8.toNat b : Int)], _, rfl, rfl, RL.u8s r⟩
end
end Go.Vc
