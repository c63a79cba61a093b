/- Part of a proof: whether two names are one is told exactly, and right ones are one just if their texts are -/
import Derived.Test.YtjdeaphfamenaaaDoorVc3
import Derived.Lib.Bytealg
/- Vc, part Zs: functions of the library that the model carries out at once. -/
namespace Go.Vc
set_option linter.unusedVariables false
set_option linter.unusedSimpArgs false
set_option linter.unusedSectionVars false
section
variable {P : Program} {G : Nat → Option PD}
/-- One that leaves memory as it is. -/
theorem ESumOK.val {f : FuncId} {fn : Func} {e : Array Value → Sem Value} (hf : P.funcs[f]? = some fn) (hname : (fn.name == "runtime.NumGoroutine") = false) (hb : fn.body.isNone = true) (hn : Extern.findNext fn = none) (he : Extern.find fn = some e)
    {sum : List AV → Nat → HP Res} (hrun : ∀ args nb mem r l, (sum args nb).run mem = some (r, l) → ∃ v obs, r = { v := some v, obs := obs } ∧ ∀ c V w, RVs c args V → ∃ X, (e V.toArray).run P w = .ok X w ∧ RV c v X) : ESumOK P G f sum :=
  ⟨fun S args nb r l h ho hnew E ρ a w hG hk hR V hV => by
    obtain ⟨v, obs, rfl, hx⟩ := hrun args nb _ r l h
    obtain ⟨X, h1, h2⟩ := hx _ V w hV
    refine ⟨X, w, ρ, ?_, fun dst => ?_⟩
    · rw [run_callFunc_extern hf hname hb hn he, h1]; rfl
    · exact hR.put dst (some v) X (fun u hu => by injection hu with hu; subst hu; exact h2)⟩
def sIdxB : List AV → Nat → HP Res := fun args _ => match args with
  | [.str s, .int .u8 c] => .ret { v := some (.int .i64 (Lib.indexByte s c)) }
  | _ => .fail
def sCntB : List AV → Nat → HP Res := fun args _ => match args with
  | [.str s, .int .u8 c] => .ret { v := some (.int .i64 ((Lib.countByte s c : Nat) : Int)) }
  | _ => .fail
theorem u8_back (c : UInt8) : ((toI .u8 c).toNat).toUInt8 = c := by
  show (((UInt8.toNat c : Nat) : Int).toNat).toUInt8 = c
  rw [Int.toNat_natCast]
  exact UInt8.ofNat_toNat
theorem idxB_ok {f : FuncId} {fn : Func} (hf : P.funcs[f]? = some fn) (hname : (fn.name == "runtime.NumGoroutine") = false) (hb : fn.body.isNone = true) (hn : Extern.findNext fn = none) (he : Extern.find fn = some Extern.BytealgIndexByte.indexByte) : ESumOK P G f sIdxB := by
  refine ESumOK.val hf hname hb hn he fun args nb mem r l h => ?_
  unfold sIdxB at h
  split at h
  · rename_i s c
    have := HP.run_ret h
    subst this
    refine ⟨_, [], rfl, fun ctx V w hV => ?_⟩
    cases hV with
    | cons _ _ X1 _ h1 hr =>
      cases hr with
      | cons _ _ X2 _ h2 hr =>
        cases hr
        have e1 := h1.str_inv
        have e2 := h2.int_inv
        subst e1 e2
        refine ⟨_, Lib.run_indexByteString (P := P) ⟨⟨s⟩⟩ _ w, ?_⟩
        rw [u8_back]
        exact .one _ _ rfl (.int .i64 (Lib.indexByte s c))
  · cases h
theorem cntB_ok {f : FuncId} {fn : Func} (hf : P.funcs[f]? = some fn) (hname : (fn.name == "runtime.NumGoroutine") = false) (hb : fn.body.isNone = true) (hn : Extern.findNext fn = none) (he : Extern.find fn = some Extern.BytealgCount.count) : ESumOK P G f sCntB := by
  refine ESumOK.val hf hname hb hn he fun args nb mem r l h => ?_
  unfold sCntB at h
  split at h
  · rename_i s c
    have := HP.run_ret h
    subst this
    refine ⟨_, [], rfl, fun ctx V w hV => ?_⟩
    cases hV with
    | cons _ _ X1 _ h1 hr =>
      cases hr with
      | cons _ _ X2 _ h2 hr =>
        cases hr
        have e1 := h1.str_inv
        have e2 := h2.int_inv
        subst e1 e2
        refine ⟨_, Lib.run_countString (P := P) ⟨⟨s⟩⟩ _ w, ?_⟩
        rw [u8_back]
        exact .one _ _ rfl (.int .i64 ((Lib.countByte s c : Nat) : Int))
  · cases h
end
structure ExtC where
  sum : List AV → Nat → HP Res
def xIdxB : ExtC := ⟨sIdxB⟩
def xCntB : ExtC := ⟨sCntB⟩
attribute [go_sem] sIdxB sCntB xIdxB xCntB
end Go.Vc
