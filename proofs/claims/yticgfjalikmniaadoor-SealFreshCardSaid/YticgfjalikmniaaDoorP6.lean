/- Part of a proof: Keys that are drawn by symbols are all unlike -/
import Derived.Test.YticgfjalikmniaaDoorP1
import Derived.Test.YticgfjalikmniaaDoorVc6
import Derived.Test.YticgfjalikmniaaDoorRows
import Derived.ProofKit
import Derived.LaidMore
import Derived.OpenShut
import Derived.Stop.Joined
import Derived.Test.YticgfjalikmniaaDoorP2
import Derived.Test.YticgfjalikmniaaDoorP5
import Derived.Test.YticgfjalikmniaaDoorTie
import Derived.Test.YticgfjalikmniaaDoorCards
set_option linter.unusedVariables false
set_option linter.unusedSimpArgs false
set_option linter.unusedSectionVars false
namespace Go.Proofs.YticgfjalikmniaaDoor
open Go Go.Vc Go.Proofs Go.ChangeShapes Go.WideShapes Go.ChangeAt Go.RowKit
theorem laidOut : laidOutB Tryd.prog = true := by kernel_rfl
theorem own : ownKnob Tryd.prog.godebug = none := by kernel_rfl
def laidL : List (String × DataW Unit) := [("gangway/sha.rounds", Rows.laid_gangway_sha_rounds), ("gangway/sha.start", Rows.laid_gangway_sha_start)]
theorem gRounds : Tryd.prog.globalNamed "gangway/sha.rounds" = some 1 := by kernel_rfl
theorem gStart : Tryd.prog.globalNamed "gangway/sha.start" = some 0 := by kernel_rfl
theorem tRounds : (Tryd.prog.globals[1]?).map (·.type) = some 64 := by kernel_rfl
theorem tStart : (Tryd.prog.globals[0]?).map (·.type) = some 66 := by kernel_rfl
theorem door_met (os : Os) (args : Array Value) : laidMetH Tryd.prog laidL ((World.doorLaid Tryd.prog 400 os).forCall (fun _ _ => 0) ⟨#[], args, []⟩).memory :=
  laidMetH_of_parts3 (fuel := 8) (laidMet_of_run' 8 (by kernel_rfl) (by kernel_rfl)) (by kernel_rfl) (by kernel_rfl)
theorem door_shaped {os : Os} {args : Array Value} : ((World.doorLaid Tryd.prog 400 os).forCall (fun _ _ => 0) ⟨#[], args, []⟩).Shaped Tryd.prog := World.shaped_of_RefB (by kernel_rfl) (by kernel_rfl)
theorem door_GL {W : World} (h : laidMetH Tryd.prog laidL W) : GL W shaG := by
  rw [MakeChecks.laidMetH_plain _ _ _ (by kernel_rfl)] at h
  obtain ⟨ps, ⟨g0, t0, cs0, f0, p0, q0, hg0, ht0, hv0, hd0, ⟨g1, t1, cs1, f1, p1, q1, hg1, ht1, hv1, hd1, _, _⟩, _⟩, _, _⟩ := h
  obtain rfl := Option.some.inj (gRounds.symm.trans hg0)
  obtain rfl := Option.some.inj (gStart.symm.trans hg1)
  obtain rfl := Option.some.inj (tRounds.symm.trans ht0)
  obtain rfl := Option.some.inj (tStart.symm.trans ht1)
  intro g pd hg
  unfold shaG at hg
  split at hg
  · injection hg with hg
    subst hg
    exact gl_ints gStart hv1 Tryd.underlying66 Tryd.underlying63 (by kernel_rfl) (by kernel_rfl) (k := .u32) stt0 rfl hd1
  · injection hg with hg
    subst hg
    exact gl_ints gRounds hv0 Tryd.underlying64 Tryd.underlying63 (by kernel_rfl) (by kernel_rfl) (k := .u32) rnds rfl hd0
  · cases hg
theorem k3 : TyK Tryd.prog (.int .i64) 3 := Tryd.underlying3
theorem k5 : TyK Tryd.prog (.int .u8) 5 := Tryd.underlying5
theorem k9 : TyK Tryd.prog .str 9 := Tryd.underlying9
theorem k22 : TyK Tryd.prog (.slice true (.int .u8)) 22 := ⟨5, Tryd.underlying22, k5, by kernel_rfl, by decide⟩
theorem k28 : TyK Tryd.prog (.slice true (.slice true (.int .u8))) 28 := ⟨22, Tryd.underlying28, k22, by kernel_rfl, by decide⟩
theorem k38 : TyK Tryd.prog k16 38 := ⟨5, Tryd.underlying38, k5, by kernel_rfl, by kernel_rfl⟩
def z16 : Value := .agg (Array.replicate 16 (.int .u8 0))
theorem len16 {c : Ctx} {x : k16.T} {v : Value} (h : RV c (.pure k16 x) v) : List.length (α := UInt8) x = 16 := by
  obtain ⟨a, _, hr⟩ := h.pure_inv rfl
  exact hr.1
theorem k40 : TyK Tryd.prog (.int .u64) 40 := Tryd.underlying40
end Go.Proofs.YticgfjalikmniaaDoor

namespace Go.Proofs.YticgfjalikmniaaDoor
open Go Go.Vc Go.Proofs Go.ChangeShapes Go.WideShapes Go.ChangeAt Go.RowKit
theorem k4 : TyK Tryd.prog .bool 4 := Tryd.underlying4
theorem k45 : TyK Tryd.prog opL 45 := ⟨_, Tryd.underlying45, ⟨rfl, k3, by kernel_rfl, rfl, k3, by kernel_rfl, rfl, k3, by kernel_rfl, rfl, k38, by kernel_rfl, rfl, k22, by kernel_rfl, trivial⟩, by kernel_rfl⟩
theorem k52 : TyK Tryd.prog (.slice true opL) 52 := ⟨45, Tryd.underlying52, k45, by kernel_rfl, by decide⟩
theorem lenOr {ok : Bool → Nat → Prop} {hp : Nat → Option Obj} {x : opL.T} {cs : List Value} (hr : Reads ok hp opL x cs) : List.length (α := UInt8) x.2.2.2.1 = 16 := by
  obtain ⟨_, _, _, _, _, _, _, _, _, _, _, _, _, _, _, hr4, _⟩ := hr
  exact hr4.1
theorem lenOp {c : Ctx} {x : opL.T} {v : Value} (h : RV c (.pure opL x) v) : List.length (α := UInt8) x.2.2.2.1 = 16 := by
  obtain ⟨a, _, hr⟩ := h.pure_inv rfl
  exact lenOr hr
theorem lenRL {ok : Bool → Nat → Prop} {hp : Nat → Option Obj} : ∀ {xs : List opL.T} {cs : List Value}, RL (Reads ok hp opL) xs cs → ∀ o ∈ xs, List.length (α := UInt8) o.2.2.2.1 = 16
  | [], _, _, o, ho => by cases ho
  | x :: r, _, ⟨c1, c2, e, h1, h2⟩, o, ho => by
    rcases List.mem_cons.1 ho with rfl | ho
    · exact lenOr h1
    · exact lenRL h2 o ho
theorem lenOps {c : Ctx} {own : Bool} {x : List opL.T} {v : Value} (h : RV c (.pure (.slice own opL) x) v) : ∀ o ∈ x, List.length (α := UInt8) o.2.2.2.1 = 16 := by
  obtain ⟨A, cap, e1, h4, h5⟩ := h.slice_inv
  rcases h5 with h5 | ⟨b, o, rc, el, fr, flat, h6, _, h7, h8, h9⟩
  · subst h5; intro o ho; cases ho
  · exact lenRL h8
end Go.Proofs.YticgfjalikmniaaDoor

namespace Go.Proofs.YticgfjalikmniaaDoor
open Go Go.Vc Go.Proofs Go.ChangeShapes Go.WideShapes Go.ChangeAt Go.RowKit
set_option maxRecDepth 100000 in
theorem lfs_lifted (os : Os) (started : os.Started) (H : Type) (enc : TypeId × Value → H) :
    ReturnsInHanded {} Tryd.checked os 16 .any (fun w args => (Rows.sealFreshSpec.pre enc Tryd.prog Tryd.f16 Rows.sealFreshRow.domain false w args ∧ laidMetH Tryd.prog laidL w) ∧ sizedMet enc Tryd.prog Tryd.f16 (OpenSpec.ofChange Rows.sealFreshSpec) false w args) (Rows.sealFreshSpec.post enc Tryd.prog Tryd.f16 false true false false) := by
  refine returnsInHanded_of_change_and (C := Tryd.checked) (X := fun w _ => laidMetH Tryd.prog laidL w) (fun _ _ _ hh h => h.of_heap hh) own started (by kernel_rfl) Tryd.func16
    (ChangeSpec.witness_shaped (enc := enc) (C := Tryd.checked) (os := os) (X := fun w _ => laidMetH Tryd.prog laidL w) false (World.doorLaid Tryd.prog 400 os) #[.int .i64 0, z16] 8 rfl door_shaped (by kernel_rfl) (by kernel_rfl) (by kernel_rfl) (door_met os _)) ?_
  intro W base args ds gs before hval0 hW _ _ hL _
  have hval : ∀ (j : Nat) t v, Tryd.f16.params[j]? = some t → args[j]? = some v → Value.okWide Tryd.prog W .any base t v := hval0
  have hW' := hW
  obtain ⟨p, q, hA0, hV, hpq, hfz, hnd⟩ := hW
  have hA : DataW.TrodAll enc Tryd.prog W 0 (fun _ => true) true Tryd.f16.params.toList args.toList ds p := hA0
  have hpar : Tryd.f16.params = #[3, 38] := rfl
  rw [hpar] at hA hval
  obtain ⟨v0, v1, d0, d1, p0, p1, hargs, hds, hp, h0, h1⟩ := trodAll_two hA
  obtain ⟨hgs, hqs⟩ := trodVars_none hV
  subst hgs
  subst hargs hds
  obtain ⟨x0, hx0⟩ := arg_RV (c := ctx0 W) k3 (hval 0 3 v0 rfl rfl) h0 (ctx0_ok W) rfl
  obtain ⟨x1, hx1⟩ := arg_RV (c := ctx0 W) k38 (hval 1 38 v1 rfl rfl) h1 (ctx0_ok W) rfl
  have hRV : RVs (ctx0 W) [.int .i64 x0, .pure k16 x1] [v0, v1] := .cons _ _ _ _ hx0 (.cons _ _ _ _ hx1 .nil)
  refine (law_callsG lfr_sum (door_GL hL) hRV (r := kFresh.res (x0, x1, ()) [] [] 0) (l := []) (by simp only [kFresh, go_sem]) (Obs.all (l := [List.length (α := UInt8) x1 = 16]) ⟨len16 hx1, trivial⟩) rfl).mono fun e W' ⟨he, hb⟩ => ?_
  exact ⟨_, he, law_post hW' hb laidOut (by kernel_rfl) rfl rfl Tryd.underlying4 rfl rfl rfl⟩
theorem lfs_row : Rows.SealFreshSaid :=
  OpenClaim.holds_of_wide 16 Tryd.f16 rfl rfl rfl rfl rfl rfl rfl ⟨rfl, rfl, rfl, rfl, rfl⟩ rfl rfl rfl rfl rfl (by kernel_rfl) Tryd.func16 (by kernel_rfl)
    (of_decide_eq_true (by kernel_rfl)) (by unfold Func.isWrapper; first | (rw [if_pos (by decide +kernel)]; kernel_rfl) | (rw [if_neg (by decide +kernel)]; exact ⟨rfl, rfl⟩))
    (fun os started H enc _ => lfs_lifted os started H enc)
theorem lfs_holds : Rows.SealFreshCardSaid :=
  Claim7.holds_tied_plain_at .later [] [.data, .data] true (true, "75e4adf9a455559aa1f642d6447609cf628c05023f0000c911b762677eb4b9c6") false
    lfs_row (fun _ h => by cases h) (by kernel_rfl) (fun _ h => by cases h) sealFresh_row_tie rfl ⟨rfl, rfl⟩ (by kernel_rfl) rfl
    (fun f fn hf hfn => by
      obtain rfl : f = 16 := Option.some.inj ((show Tryd.prog.funcNamed "gangway/gangwaylaw06.SealFresh" = some 16 by kernel_rfl).symm.trans hf) |>.symm
      obtain rfl : fn = Tryd.f16 := (Option.some.inj (Tryd.func16.symm.trans hfn)).symm
      exact ⟨by kernel_rfl, fun j t ht => by
        have ht' : (#[3, 38] : Array TypeId)[j]? = some t := ht
        have hm : t ∈ [3, 38] := by simpa using Array.mem_of_getElem? ht'
        have hall : ([3, 38].all fun u => !Tryd.prog.wantsStandIn u) = true := by kernel_rfl
        exact (show Tryd.prog.wantsStandIn t = false by simpa using List.all_eq_true.1 hall t hm)⟩)
    (by kernel_rfl)
end Go.Proofs.YticgfjalikmniaaDoor
