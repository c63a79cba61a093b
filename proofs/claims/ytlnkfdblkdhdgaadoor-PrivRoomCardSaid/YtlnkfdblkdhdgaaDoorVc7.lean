/- Part of a proof: No more boxes are open than there is room for; what is acknowledged makes room for as many -/
import Derived.Test.YtlnkfdblkdhdgaaDoorVc3
import Derived.OpenShut
import Derived.LaidMore
import Derived.LaidLaws
import Derived.MakeChecks
set_option linter.unusedVariables false
set_option linter.unusedSimpArgs false
set_option linter.unusedSectionVars false
namespace Go.Vc
open Go.ChangeShapes Go.WideShapes Go.ChangeAt Go.RowKit
section
variable {H : Type} {enc : TypeId × Value → H} {P : Program} {W : World}
theorem trod_ints {w : World} {base : Nat} {sp : Nat → Bool} {hd : Bool} {m : Nat} {t e : TypeId} {n : Nat} {k : IntKind} {cs : List Value} {p : List MemPlace} (ht : P.underlying t = some (.array n e)) (he : P.underlying e = some (.int k)) (hce : P.cellsOf e = 1) (hct : P.cellsOf t = n)
    {zs : List Int} (h : DataW.trod enc P w base sp hd m t cs = some (.agg (zs.map fun z => .lit (.int k z)), p)) : cs = zs.map (.int k) := by
  obtain ⟨xs, m', _, e2, hlen, hn, hel⟩ := DataW.trod_array ht h
  injection e2 with e3 _
  injection e3 with e3
  rw [hct] at hlen
  have hzl : zs.length = n := by rw [← hn, ← List.length_map (as := xs) (fun x : DataW H × List MemPlace => x.1), ← e3, List.length_map]
  apply List.ext_getElem?
  intro i
  by_cases hi : i < n
  · have h1 := hel i hi
    rw [hce, Nat.mul_one] at h1
    have hxi : xs[i]? = some xs[i] := List.getElem?_eq_getElem (by omega)
    rw [hxi] at h1
    obtain ⟨z, e4, e5, _⟩ := DataW.trod_int he h1
    have h2 : (zs.map fun z => (DataW.lit (H := H) (.int k z)))[i]? = some (.lit (.int k z)) := by
      rw [e3, List.getElem?_map, hxi, e5]; rfl
    rw [List.getElem?_map] at h2
    have hz : zs[i]? = some zs[i] := List.getElem?_eq_getElem (by omega)
    rw [hz] at h2
    simp only [Option.map_some, Option.some.injEq, DataW.lit.injEq, Lit.int.injEq, true_and] at h2
    have h3 : (cs.drop i)[0]? = some (.int k z) := by
      have := congrArg (fun l : List Value => l[0]?) e4
      simp only [List.getElem?_take] at this
      simpa using this
    rw [List.getElem?_drop, Nat.add_zero] at h3
    rw [h3, List.getElem?_map, hz, h2]; rfl
  · rw [List.getElem?_eq_none (by omega), List.getElem?_eq_none (by rw [List.length_map]; omega)]
theorem RL_ints {ok : Bool → Nat → Prop} {hp : Nat → Option Obj} {k : IntKind} : ∀ x : List (IntT k), RL (Reads ok hp (.int k)) x (x.map fun y => .int k (toI k y))
  | [] => rfl
  | y :: r => ⟨[.int k (toI k y)], _, rfl, rfl, RL_ints r⟩
def GL (W : World) (G : Nat → Option PD) : Prop := ∀ g pd, G g = some pd → ∃ rc el fr flat, W.heap[g]? = some (.cells rc el fr) ∧ (∀ ok hp, Reads ok hp pd.d pd.x flat) ∧ (rc.toList.drop 0).take flat.length = flat
theorem gl_ints {name : String} {g : Nat} {t e : TypeId} {n : Nat} {k : IntKind} {cs : Array Value} {m : Nat} {base : Nat} {sp : Nat → Bool} {hd : Bool} {p : List MemPlace} (hg : P.globalNamed name = some g) (hv : W.var? P name = some cs)
    (ht : P.underlying t = some (.array n e)) (he : P.underlying e = some (.int k)) (hce : P.cellsOf e = 1) (hct : P.cellsOf t = n) (x : List (IntT k)) (hx : x.length = n)
    (h : DataW.trod enc P W base sp hd m t cs.toList = some (.agg (x.map fun y => .lit (.int k (toI k y))), p)) :
    ∃ rc el fr flat, W.heap[g]? = some (.cells rc el fr) ∧ (∀ ok hp, Reads ok hp (.arr n (.int k)) x flat) ∧ (rc.toList.drop 0).take flat.length = flat := by
  have hm : (x.map fun y => (DataW.lit (H := H) (.int k (toI k y)))) = (x.map (toI k)).map fun z => .lit (.int k z) := by rw [List.map_map]; rfl
  rw [hm] at h
  have hcs := trod_ints ht he hce hct h
  simp only [World.var?, hg, Option.bind_some] at hv
  split at hv
  · rename_i c t fr hb
    injection hv with hv
    subst hv
    refine ⟨_, _, _, c.toList, hb, fun ok hp => ⟨hx, ?_⟩, by rw [List.drop_zero, List.take_length]⟩
    rw [hcs, List.map_map]
    exact RL_ints x
  · cases hv
theorem arg_len {c : Ctx} {own : Bool} {d : Kd} {x : List d.T} {t e : TypeId} {b0 : Nat} {sp : Nat → Bool} {held : Bool} {v : Value} {D : DataW H} {ps : List MemPlace} (ht : P.underlying t = some (.slice e)) (h : DataW.Trod enc P W b0 sp held t v D ps)
    (hx : RV c (.pure (.slice own d) x) v) : x.length ≤ 9223372036854775807 := by
  obtain ⟨A, cap, e1, e2, _⟩ := hx.slice_inv
  injection e1 with e1 _
  subst e1
  obtain ⟨n, hn⟩ := h
  rcases DataW.trod_slice ht hn with ⟨h1, _⟩ | ⟨a, len, cap', _, _, _, _, h1, _, _, h2, h3, _⟩
  · have : Value.slice A x.length cap = .slice none 0 0 := by simpa [Value.cells] using h1
    injection this with _ h4 _
    omega
  · have : Value.slice A x.length cap = .slice (some a) len cap' := by simpa [Value.cells] using h1
    injection this with _ h4 h5
    have : maxLen = 9223372036854775807 := by decide
    omega
def env1 (W : World) (G : Nat → Option PD) : Env where
  F := fun _ => False
  w0 := W
  T := fun _ => False
  ρ0 := fun _ => none
  pin := fun _ => False
  glob := G
  hF := fun _ h => h.elim
theorem rel1 (W : World) {G : Nat → Option PD} (hg : GL W G) : Rel (env1 W G) (fun _ => none) S0 ⟨#[undef], []⟩ W := by
  have h0 := rel0 W
  refine ⟨h0.len, h0.df, h0.tm, h0.hb, h0.inj, h0.nf, h0.fr, fun id h => h.elim, fun g pd hpd => ?_⟩
  obtain ⟨rc, el, fr, flat, h1, h2, h3⟩ := hg g pd hpd
  exact .one _ _ rfl (.ept true pd.d pd.x g 0 rc el fr flat (ctx0_ok W true g) h1 (h2 _ _) h3)
theorem law_callsG {f : FuncId} {G : Nat → Option PD} {sum : List AV → Nat → HP Res} (hF : FSumOK P G f sum) (hg : GL W G) {avs : List AV} {V : List Value} (hV : RVs (ctx0 W) avs V) {r : Res} {l : List Nat}
    (hrun : (sum avs 0).run S0.blk = some (r, l)) (hob : ∀ q ∈ r.obs, q) (hv : r.v = some (.bool true)) : Calls P f V.toArray W fun e W' => e = .returned (.bool true) ∧ Below W.heap.size W W' := by
  have := hF.calls S0 avs 0 r l hrun hob (fun j _ => S0_blk _) (env1 W G) (fun _ => none) ⟨#[undef], []⟩ W rfl (fun k _ h => h) (rel1 W hg) V hV
  refine this.mono fun e W' ⟨v, ρ', he, hrel⟩ => ?_
  have hR := hrel (some 0)
  have ht : (S0.app (some 0) r).tmps[0]? = some (some (.bool true)) := by
    have h1 := app_tmp S0 (some 0) r 0
    rw [if_pos ⟨rfl, by simp [S0]⟩, hv] at h1
    have h2 : 0 < (S0.app (some 0) r).tmps.length := by rw [app_len]; simp [S0]
    rw [List.getD_eq_getElem?_getD, List.getElem?_eq_getElem h2] at h1
    rw [List.getElem?_eq_getElem h2]
    simpa using h1
  obtain ⟨X, h1, h2⟩ := hR.tm 0 _ ht
  have hX : X = v := by simpa [Act.put] using h1.symm
  have hb := h2.bool_inv
  rw [hX] at hb
  refine ⟨by rw [he, hb], hR.fr.os, hR.fr.tape, hR.fr.output, hR.fr.size, fun k hk => hR.fr.block k hk (fun h => h)⟩
end
end Go.Vc
