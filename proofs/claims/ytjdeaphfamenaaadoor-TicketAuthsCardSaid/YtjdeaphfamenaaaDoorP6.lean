/- Part of a proof: authenticators are written and read as the document says -/
import Derived.Test.YtjdeaphfamenaaaDoorP1
import Derived.Test.YtjdeaphfamenaaaDoorVc5
import Derived.Test.YtjdeaphfamenaaaDoorRows
import Derived.ProofKit
import Derived.LaidMore
import Derived.OpenShut
import Derived.Stop.Joined
import Derived.Lay
import Derived.Test.YtjdeaphfamenaaaDoorP3
import Derived.Test.YtjdeaphfamenaaaDoorP2
import Derived.Test.YtjdeaphfamenaaaDoorP5
import Derived.Test.YtjdeaphfamenaaaDoorTie
import Derived.Test.YtjdeaphfamenaaaDoorCards
set_option linter.unusedVariables false
set_option linter.unusedSimpArgs false
set_option linter.unusedSectionVars false
namespace Go.Proofs.YtjdeaphfamenaaaDoor
open Go Go.Vc Go.Proofs Go.ChangeShapes Go.WideShapes Go.ChangeAt Go.RowKit
theorem laidOut : laidOutB Tryd.prog = true := by kernel_rfl
theorem own : ownKnob Tryd.prog.godebug = none := by kernel_rfl
def laidL : List (String × DataW Unit) := [("unicode/utf8.acceptRanges", Rows.laid_unicode_utf8_acceptRanges), ("unicode/utf8.first", Rows.laid_unicode_utf8_first)]
theorem door_GL {W : World} (h : laidMetH Tryd.prog laidL W) : GL W gNone := fun g pd hg => by cases hg
theorem k3 : TyK Tryd.prog (.int .i64) 3 := Tryd.underlying3
theorem k2 : TyK Tryd.prog (.int .i64) 2 := Tryd.underlying2
theorem k5 : TyK Tryd.prog (.int .u8) 5 := Tryd.underlying5
theorem k9 : TyK Tryd.prog .str 9 := Tryd.underlying9
theorem k23 : TyK Tryd.prog (.slice true .str) 23 := ⟨9, Tryd.underlying23, k9, by kernel_rfl, by decide⟩
theorem k25 : TyK Tryd.prog nmK 25 := ⟨_, Tryd.underlying25, ⟨rfl, k23, by kernel_rfl, rfl, k9, by kernel_rfl, trivial⟩, by kernel_rfl⟩
theorem toL {c : Ctx} {x : nmK.T} {v : Value} (h : RV c (.pure nmK x) v) : RV c (.pure nmL x) v :=
  RV.ofKd1 (d := nmL) (x := x) (fun _ _ h _ => ⟨h, rfl⟩) h rfl rfl
end Go.Proofs.YtjdeaphfamenaaaDoor

namespace Go.Proofs.YtjdeaphfamenaaaDoor
open Go Go.Vc Go.Proofs Go.ChangeShapes Go.WideShapes Go.ChangeAt Go.RowKit
theorem k46 : TyK Tryd.prog (.int .u64) 46 := Tryd.underlying46
theorem k47 : TyK Tryd.prog (.slice true (.int .u8)) 47 := ⟨5, Tryd.underlying47, k5, by kernel_rfl, by decide⟩
theorem k49 : TyK Tryd.prog krK 49 := ⟨_, Tryd.underlying49, ⟨rfl, k3, by kernel_rfl, rfl, k9, by kernel_rfl, rfl, k9, by kernel_rfl, rfl, k46, by kernel_rfl, rfl, k2, by kernel_rfl, rfl, k3, by kernel_rfl, rfl, k47, by kernel_rfl, rfl, k47, by kernel_rfl, rfl, k3, by kernel_rfl, trivial⟩, by kernel_rfl⟩
end Go.Proofs.YtjdeaphfamenaaaDoor

namespace Go.Proofs.YtjdeaphfamenaaaDoor
open Go Go.Vc Go.Proofs Go.ChangeShapes Go.WideShapes Go.ChangeAt Go.RowKit
theorem k30 : TyK Tryd.prog k16 30 := ⟨5, Tryd.underlying30, k5, by kernel_rfl, by kernel_rfl⟩
theorem k57 : TyK Tryd.prog auK 57 := ⟨_, Tryd.underlying57, ⟨rfl, k9, by kernel_rfl, rfl, k2, by kernel_rfl, rfl, k46, by kernel_rfl, rfl, k30, by kernel_rfl, trivial⟩, by kernel_rfl⟩
theorem lenAu {c : Ctx} {x : auK.T} {v : Value} (h : RV c (.pure auK x) v) : List.length (α := UInt8) x.2.2.2.1 = 16 := by
  obtain ⟨a, _, hr⟩ := h.pure_inv rfl
  obtain ⟨_, _, _, _, _, _, _, _, _, _, _, _, _, _, _, hr4, _⟩ := hr
  exact hr4.1
end Go.Proofs.YtjdeaphfamenaaaDoor

namespace Go.Proofs.YtjdeaphfamenaaaDoor
open Go Go.Vc Go.Proofs Go.ChangeShapes Go.WideShapes Go.ChangeAt Go.RowKit
set_option maxRecDepth 100000 in
theorem lau_lifted (os : Os) (started : os.Started) (H : Type) (enc : TypeId × Value → H) :
    ReturnsInHanded {} Tryd.checked os 13 .any (fun w args => (Rows.ticketAuthsSpec.pre enc Tryd.prog Tryd.f13 Rows.ticketAuthsRow.domain false w args ∧ laidMetH Tryd.prog laidL w) ∧ sizedMet enc Tryd.prog Tryd.f13 (OpenSpec.ofChange Rows.ticketAuthsSpec) false w args) (Rows.ticketAuthsSpec.post enc Tryd.prog Tryd.f13 false true false false) := by
  refine returnsInHanded_of_change_and (C := Tryd.checked) (X := fun w _ => laidMetH Tryd.prog laidL w) (fun _ _ _ hh h => h.of_heap hh) own started (by kernel_rfl) Tryd.func13
    (ChangeSpec.witness_shaped (enc := enc) (C := Tryd.checked) (os := os) (X := fun w _ => laidMetH Tryd.prog laidL w) false (World.laidAll Tryd.prog os laidL) #[.agg #[.string ⟨#[]⟩, .int .i64 0, .int .u64 0, .int .u8 0, .int .u8 0, .int .u8 0, .int .u8 0, .int .u8 0, .int .u8 0, .int .u8 0, .int .u8 0, .int .u8 0, .int .u8 0, .int .u8 0, .int .u8 0, .int .u8 0, .int .u8 0, .int .u8 0, .int .u8 0], .slice none 0 0] 8 (World.laidAll_os _ _ _) (World.shaped_of_ZipB (by kernel_rfl) (by kernel_rfl)) (by kernel_rfl) (by kernel_rfl) (by kernel_rfl) (by rw [MakeChecks.laidMetH_plain _ _ _ (by kernel_rfl)]; exact laidMet_laidAll _ (by kernel_rfl) (by kernel_rfl))) ?_
  intro W base args ds gs before hval0 hW _ _ hL _
  have hval : ∀ (j : Nat) t v, Tryd.f13.params[j]? = some t → args[j]? = some v → Value.okWide Tryd.prog W .any base t v := hval0
  have hW' := hW
  obtain ⟨p, q, hA0, hV, hpq, hfz, hnd⟩ := hW
  have hA : DataW.TrodAll enc Tryd.prog W 0 (fun _ => true) true Tryd.f13.params.toList args.toList ds p := hA0
  have hpar : Tryd.f13.params = #[57, 47] := rfl
  rw [hpar] at hA hval
  obtain ⟨v0, v1, d0, d1, p0, p1, hargs, hds, hp, h0, h1⟩ := trodAll_two hA
  obtain ⟨hgs, hqs⟩ := trodVars_none hV
  subst hgs
  subst hargs hds
  obtain ⟨x0, hx0⟩ := arg_RV (c := ctx0 W) k57 (hval 0 57 v0 rfl rfl) h0 (ctx0_ok W) rfl
  obtain ⟨x1, hx1⟩ := arg_RV (c := ctx0 W) k47 (hval 1 47 v1 rfl rfl) h1 (ctx0_ok W) rfl
  have hRV : RVs (ctx0 W) [.pure auK x0, .pure (.slice true (.int .u8)) x1] [v0, v1] := .cons _ _ _ _ hx0 (.cons _ _ _ _ hx1 .nil)
  refine (law_callsG lau_sum (door_GL hL) hRV (r := kLAu.res (x0, x1, ()) [] [] 0) (l := []) (by simp only [kLAu, go_sem, true_or, or_true, if_true]) (Obs.all (l := [List.length (α := UInt8) x0.2.2.2.1 = 16]) ⟨lenAu hx0, trivial⟩) rfl).mono fun e W' ⟨he, hb⟩ => ?_
  exact ⟨_, he, law_post hW' hb laidOut (by kernel_rfl) rfl rfl Tryd.underlying4 rfl rfl rfl⟩
theorem lau_row : Rows.TicketAuthsSaid :=
  OpenClaim.holds_of_wide 13 Tryd.f13 rfl rfl rfl rfl rfl rfl rfl ⟨rfl, rfl, rfl, rfl, rfl⟩ rfl rfl rfl rfl rfl (by kernel_rfl) Tryd.func13 (by kernel_rfl)
    (of_decide_eq_true (by kernel_rfl)) (by unfold Func.isWrapper; first | (rw [if_pos (by decide +kernel)]; kernel_rfl) | (rw [if_neg (by decide +kernel)]; exact ⟨rfl, rfl⟩))
    (fun os started H enc _ => lau_lifted os started H enc)
theorem lau_holds : Rows.TicketAuthsCardSaid :=
  Claim7.holds_tied_plain_at .later [] [.data, .pinned] true (true, "93ed7c99e33df42c1d4ba1afb795606ffafa856779d763c6dae3fe3ec251acbe") false
    lau_row (fun _ h => by cases h) (by kernel_rfl) (fun _ h => by cases h) ticketAuths_row_tie rfl ⟨rfl, rfl⟩ (by kernel_rfl) rfl
    (fun f fn hf hfn => by
      obtain rfl : f = 13 := Option.some.inj ((show Tryd.prog.funcNamed "gangway/gangwaylaw07.TicketAuths" = some 13 by kernel_rfl).symm.trans hf) |>.symm
      obtain rfl : fn = Tryd.f13 := (Option.some.inj (Tryd.func13.symm.trans hfn)).symm
      exact ⟨by kernel_rfl, fun j t ht => by
        have ht' : (#[57, 47] : Array TypeId)[j]? = some t := ht
        have hm : t ∈ [57, 47] := by simpa using Array.mem_of_getElem? ht'
        have hall : ([57, 47].all fun u => !Tryd.prog.wantsStandIn u) = true := by kernel_rfl
        exact (show Tryd.prog.wantsStandIn t = false by simpa using List.all_eq_true.1 hall t hm)⟩)
    (by kernel_rfl)
end Go.Proofs.YtjdeaphfamenaaaDoor
