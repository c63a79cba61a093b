/- Part of a proof: No more boxes are open than there is room for; what is acknowledged makes room for as many -/
import Derived.Test.YtlnkfdblkdhdgaaDoorP2
import Derived.Test.YtlnkfdblkdhdgaaDoorVc7
import Derived.Test.YtlnkfdblkdhdgaaDoorRows
import Derived.ProofKit
import Derived.LaidMore
import Derived.OpenShut
import Derived.Stop.Joined
import Derived.Test.YtlnkfdblkdhdgaaDoorP5
import Derived.Test.YtlnkfdblkdhdgaaDoorTie
import Derived.Test.YtlnkfdblkdhdgaaDoorCards
set_option linter.unusedVariables false
set_option linter.unusedSimpArgs false
set_option linter.unusedSectionVars false
namespace Go.Proofs.YtlnkfdblkdhdgaaDoor
open Go Go.Vc Go.Proofs Go.ChangeShapes Go.WideShapes Go.ChangeAt Go.RowKit
theorem laidOut : laidOutB Tryd.prog = true := by kernel_rfl
theorem own : ownKnob Tryd.prog.godebug = none := by kernel_rfl
def laidL : List (String × DataW Unit) := [("gangway/sha.rounds", Rows.laid_gangway_sha_rounds), ("gangway/sha.start", Rows.laid_gangway_sha_start)]
theorem gRounds : Tryd.prog.globalNamed "gangway/sha.rounds" = some 2 := by kernel_rfl
theorem gStart : Tryd.prog.globalNamed "gangway/sha.start" = some 1 := by kernel_rfl
theorem tRounds : (Tryd.prog.globals[2]?).map (·.type) = some 161 := by kernel_rfl
theorem tStart : (Tryd.prog.globals[1]?).map (·.type) = some 163 := by kernel_rfl
theorem door_met (os : Os) (args : Array Value) : laidMetH Tryd.prog laidL ((World.doorLaid Tryd.prog 400 os).forCall (fun _ _ => 0) ⟨#[], args, []⟩).memory :=
  laidMetH_of_parts3 (fuel := 8) (laidMet_of_run' 8 (by kernel_rfl) (by kernel_rfl)) (by kernel_rfl) (by kernel_rfl)
theorem door_shaped {os : Os} {args : Array Value} : ((World.doorLaid Tryd.prog 400 os).forCall (fun _ _ => 0) ⟨#[], args, []⟩).Shaped Tryd.prog := World.shaped_of_RefB (by kernel_rfl) (by kernel_rfl)
theorem door_GL {W : World} (h : laidMetH Tryd.prog laidL W) : GL W shaG := by
  rw [MakeChecks.laidMetH_plain _ _ _ (by kernel_rfl)] at h
  obtain ⟨ps, ⟨g0, t0, cs0, f0, p0, q0, hg0, ht0, hv0, hd0, ⟨g1, t1, cs1, f1, p1, q1, hg1, ht1, hv1, hd1, _, _⟩, _⟩, _, _⟩ := h
  obtain rfl := Option.some.inj (gRounds.symm.trans hg0)
  obtain rfl := Option.some.inj (gStart.symm.trans hg1)
  obtain rfl := Option.some.inj (tRounds.symm.trans ht0)
  obtain rfl := Option.some.inj (tStart.symm.trans ht1)
  intro g pd hg
  unfold shaG at hg
  split at hg
  · injection hg with hg
    subst hg
    exact gl_ints gStart hv1 Tryd.underlying163 Tryd.underlying160 (by kernel_rfl) (by kernel_rfl) (k := .u32) stt0 rfl hd1
  · injection hg with hg
    subst hg
    exact gl_ints gRounds hv0 Tryd.underlying161 Tryd.underlying160 (by kernel_rfl) (by kernel_rfl) (k := .u32) rnds rfl hd0
  · cases hg
theorem k3 : TyK Tryd.prog (.int .i64) 3 := Tryd.underlying3
theorem k5 : TyK Tryd.prog (.int .u8) 5 := Tryd.underlying5
theorem k37 : TyK Tryd.prog (.slice true (.int .u8)) 37 := ⟨5, Tryd.underlying37, k5, by kernel_rfl, by decide⟩
theorem k33 : TyK Tryd.prog (.slice true (.slice true (.int .u8))) 33 := ⟨37, Tryd.underlying33, k37, by kernel_rfl, by decide⟩
theorem k28 : TyK Tryd.prog k16 28 := ⟨5, Tryd.underlying28, k5, by kernel_rfl, by kernel_rfl⟩
theorem k49 : TyK Tryd.prog (.slice true (.int .i64)) 49 := ⟨3, Tryd.underlying49, k3, by kernel_rfl, by decide⟩
def z16 : Value := .agg (Array.replicate 16 (.int .u8 0))
theorem len16 {c : Ctx} {x : k16.T} {v : Value} (h : RV c (.pure k16 x) v) : List.length (α := UInt8) x = 16 := by
  obtain ⟨a, _, hr⟩ := h.pure_inv rfl
  exact hr.1
end Go.Proofs.YtlnkfdblkdhdgaaDoor

namespace Go.Proofs.YtlnkfdblkdhdgaaDoor
open Go Go.Vc Go.Proofs Go.ChangeShapes Go.WideShapes Go.ChangeAt Go.RowKit
set_option maxRecDepth 100000 in
theorem lpr_lifted (os : Os) (started : os.Started) (H : Type) (enc : TypeId × Value → H) :
    ReturnsInHanded {} Tryd.checked os 5 .any (fun w args => (Rows.privRoomSpec.pre enc Tryd.prog Tryd.f5 Rows.privRoomRow.domain false w args ∧ laidMetH Tryd.prog laidL w) ∧ sizedMet enc Tryd.prog Tryd.f5 (OpenSpec.ofChange Rows.privRoomSpec) false w args) (Rows.privRoomSpec.post enc Tryd.prog Tryd.f5 false true false false) := by
  refine returnsInHanded_of_change_and (C := Tryd.checked) (X := fun w _ => laidMetH Tryd.prog laidL w) (fun _ _ _ hh h => h.of_heap hh) own started (by kernel_rfl) Tryd.func5
    (ChangeSpec.witness_shaped (enc := enc) (C := Tryd.checked) (os := os) (X := fun w _ => laidMetH Tryd.prog laidL w) false (World.doorLaid Tryd.prog 400 os) #[.slice none 0 0, .int .i64 0] 8 rfl door_shaped (by kernel_rfl) (by kernel_rfl) (by kernel_rfl) (door_met os _)) ?_
  intro W base args ds gs before hval0 hW _ _ hL _
  have hval : ∀ (j : Nat) t v, Tryd.f5.params[j]? = some t → args[j]? = some v → Value.okWide Tryd.prog W .any base t v := hval0
  have hW' := hW
  obtain ⟨p, q, hA0, hV, hpq, hfz, hnd⟩ := hW
  have hA : DataW.TrodAll enc Tryd.prog W 0 (fun _ => true) true Tryd.f5.params.toList args.toList ds p := hA0
  have hpar : Tryd.f5.params = #[49, 3] := rfl
  rw [hpar] at hA hval
  obtain ⟨v0, v1, d0, d1, p0, p1, hargs, hds, hp, h0, h1⟩ := trodAll_two hA
  obtain ⟨hgs, hqs⟩ := trodVars_none hV
  subst hgs
  subst hargs hds
  obtain ⟨x0, hx0⟩ := arg_RV (c := ctx0 W) k49 (hval 0 49 v0 rfl rfl) h0 (ctx0_ok W) rfl
  obtain ⟨x1, hx1⟩ := arg_RV (c := ctx0 W) k3 (hval 1 3 v1 rfl rfl) h1 (ctx0_ok W) rfl
  have hRV : RVs (ctx0 W) [.pure (.slice true (.int .i64)) x0, .int .i64 x1] [v0, v1] := .cons _ _ _ _ hx0 (.cons _ _ _ _ hx1 .nil)
  refine (law_callsG prm_sum (door_GL hL) hRV (r := kPR.res (x0, x1, ()) [] [] 0) (l := []) (by simp only [kPR, go_sem, true_or, or_true, if_true]) (Obs.all (l := [List.length (α := Int) x0 ≤ 9223372036854775807]) ⟨arg_len Tryd.underlying49 h0 hx0, trivial⟩) rfl).mono fun e W' ⟨he, hb⟩ => ?_
  exact ⟨_, he, law_post hW' hb laidOut (by kernel_rfl) rfl rfl Tryd.underlying4 rfl rfl rfl⟩
theorem lpr_row : Rows.PrivRoomSaid :=
  OpenClaim.holds_of_wide 5 Tryd.f5 rfl rfl rfl rfl rfl rfl rfl ⟨rfl, rfl, rfl, rfl, rfl⟩ rfl rfl rfl rfl rfl (by kernel_rfl) Tryd.func5 (by kernel_rfl)
    (of_decide_eq_true (by kernel_rfl)) (by unfold Func.isWrapper; first | (rw [if_pos (by decide +kernel)]; kernel_rfl) | (rw [if_neg (by decide +kernel)]; exact ⟨rfl, rfl⟩))
    (fun os started H enc _ => lpr_lifted os started H enc)
theorem lpr_holds : Rows.PrivRoomCardSaid :=
  Claim7.holds_tied_plain_at .later [] [.data, .data] true (true, "331aed12f48e2bd2d7cf905e27e5e17738ff641a0847dd180be67f7166aa6866") true
    lpr_row (fun _ h => by cases h) (by kernel_rfl) (fun _ h => by cases h) privRoom_row_tie rfl ⟨rfl, rfl⟩ (by kernel_rfl) rfl
    (fun f fn hf hfn => by
      obtain rfl : f = 5 := Option.some.inj ((show Tryd.prog.funcNamed "gangway/gangwaylaw14.PrivRoom" = some 5 by kernel_rfl).symm.trans hf) |>.symm
      obtain rfl : fn = Tryd.f5 := (Option.some.inj (Tryd.func5.symm.trans hfn)).symm
      exact ⟨by kernel_rfl, fun j t ht => by
        have ht' : (#[49, 3] : Array TypeId)[j]? = some t := ht
        have hm : t ∈ [49, 3] := by simpa using Array.mem_of_getElem? ht'
        have hall : ([49, 3].all fun u => !Tryd.prog.wantsStandIn u) = true := by kernel_rfl
        exact (show Tryd.prog.wantsStandIn t = false by simpa using List.all_eq_true.1 hall t hm)⟩)
    (by kernel_rfl)
end Go.Proofs.YtlnkfdblkdhdgaaDoor
