/- Part of a proof: two unlike blocks under one key are unlike when they are encrypted (the law AesApart answers true at every input and leaves its arguments as they were). No further condition. -/
import Derived.Test.YticgfjalikmniaaP5
import Derived.Test.YticgfjalikmniaaVc5
import Derived.Test.YticgfjalikmniaaRows
namespace Go.Proofs.Yticgfjalikmniaa
set_option linter.unusedVariables false
set_option linter.unusedSimpArgs false
open Go.Vc Go.Proofs Go.ChangeShapes Go.WideShapes Go.ChangeAt Go.RowKit
theorem own : ownKnob Try.prog.godebug = none := by kernel_rfl
theorem laidOut : laidOutB Try.prog = true := by kernel_rfl
theorem k16 : TyK Try.prog a16 22 := ⟨5, Try.underlying22, Try.underlying5, by kernel_rfl, by kernel_rfl⟩
theorem k16' : TyK Try.prog a16 23 := ⟨5, Try.underlying23, Try.underlying5, by kernel_rfl, by kernel_rfl⟩
def z16 : Value := .agg (Array.replicate 16 (.int .u8 0))
theorem len16 {c : Ctx} {x : a16.T} {v : Value} (h : RV c (.pure a16 x) v) : List.length (α := UInt8) x = 16 := by
  obtain ⟨a, _, hr⟩ := h.pure_inv rfl
  exact hr.1
set_option linter.unusedSimpArgs false
set_option maxRecDepth 100000 in
theorem apart_lifted (os : Os) (started : os.Started) (H : Type) (enc : TypeId × Value → H) :
    ReturnsInHanded {} Try.checked os 4 .any (Rows.aesApartSpec.pre6 enc Try.prog Try.f4 Rows.aesApartRow.domain false) (Rows.aesApartSpec.post enc Try.prog Try.f4 false true false false) := by
  refine returnsInHanded_of_change (C := Try.checked) own started (by kernel_rfl) Try.func4
    (ChangeSpec.witness6 (enc := enc) (C := Try.checked) false ⟨#[], #[z16, z16, z16], []⟩ 8 (by kernel_rfl) (by kernel_rfl) (by kernel_rfl) (by kernel_rfl)) ?_
  intro W base args ds gs before hval0 hW hcnd _
  have hval : ∀ (j : Nat) t v, Try.f4.params[j]? = some t → args[j]? = some v → Value.okWide Try.prog W .any base t v := hval0
  have hW' := hW
  obtain ⟨p, q, hA0, hV, hpq, hfz, hnd⟩ := hW
  have hA : DataW.TrodAll enc Try.prog W 0 (fun _ => true) true Try.f4.params.toList args.toList ds p := hA0
  have hpar : Try.f4.params = #[23, 22, 22] := rfl
  rw [hpar] at hA hval
  obtain ⟨v0, v1, v2, d0, d1, d2, p0, p1, p2, hargs, hds, hp, h0, h1, h2⟩ := trodAll_three hA
  obtain ⟨hgs, hqs⟩ := trodVars_none hV
  subst hgs
  subst hargs hds
  obtain ⟨x, hx⟩ := arg_RV (c := ctx0 W) k16' (hval 0 23 v0 rfl rfl) h0 (ctx0_ok W) rfl
  obtain ⟨y, hy⟩ := arg_RV (c := ctx0 W) k16 (hval 1 22 v1 rfl rfl) h1 (ctx0_ok W) rfl
  obtain ⟨z, hz⟩ := arg_RV (c := ctx0 W) k16 (hval 2 22 v2 rfl rfl) h2 (ctx0_ok W) rfl
  have hRV : RVs (ctx0 W) [.pure a16 x, .pure a16 y, .pure a16 z] [v0, v1, v2] := .cons _ _ _ _ hx (.cons _ _ _ _ hy (.cons _ _ _ _ hz .nil))
  have hlaw := apart_true (key := x) (len16 hy) (len16 hz)
  refine (law_calls apart_sum hRV (r := kApart.res (x, y, z, ()) [] [] 0) (l := []) (by simp only [kApart, runOps, runRc, wantedA, AS.gval, opProg, AS.ev, absC, HP.run, HP.bind, retV, pLoad, pNil, pPick, pUn, unAV, pIndexAddr, inb, pIndexS, pIndex, pField, fldP, Cfg.fld, PD.off, pFieldAddr, pSlice, loB, hiB, pArrPtr, pExtract, pLen, Cfg.intK, Cfg.isBytes, pConvert, pAlloc, pBox, AV.isTup, pStore, setAll, evParts, Cfg.places, pBuild, pBuildSlice, pMakeSlice, srcSl, pAppend, rdSl, ovw, pCopy, byteCells, pBytes, pEq, pEqP, pEqB, pEqA, eqOp, AV.ptrK, AV.boolK, pBin2, binAV, intOp, strOp, evL, pCall, pMakeFunc, pBuiltin, Cfg.isPtrT, Cfg.arr, Cfg.slc, Cfg.isStr, AV.isPtr, castI_self, castK_self, Kd.of, Kd.of.ofL, Kd.at, Kd.ob, Kd.off, Kd.set, AV.size, AV.sizeL, AV.size_ofKd, AV.at, AV.ob, AV.off, AV.set, AV.isAgg, Kd.isAgg, TD.agg, AV.ofKd, Kd.sz, Kd.dflt, AS.app, AS.put, AS.killed, AS.blk, wrs, setAt, AV.tr, AV.tr.trL, Slot.tr, killF, List.map, List.set_cons_zero, List.set_cons_succ, List.getD_cons_zero, List.getD_cons_succ, List.getD_nil, Option.map_some, Option.map_none, Con.sum, Con.res, Con.of, Con.start, Con.pins, rdA, rdV, rdS, rdP, rdPk_st, rdPk_arr, rdPk_agg, lentOf, nodupB, argA, heapA, sg, wrL, AK.cnt, AK.T, AT, TyI.kd1, TyI.ptr1, TyI.slice1, List.cons_append, List.nil_append, List.append_nil, List.length_cons, List.length_nil, List.length_append, List.append_eq, tdivN, tmodN, mulNl, mulNr, addNN, addNl, addNr, wrapN, IntT.zero, wrap_i64_id, constI_u8, constI_u32, constI_u64, constI_i64, and_self, and_true, true_and, if_true, if_false, ite_true, ite_false, ↓reduceIte, Nat.zero_add, Nat.add_zero, decide_true, decide_false, Bool.and_true, Bool.true_and, Bool.and_self, List.all_nil, List.all_cons, Bool.not_true, Bool.not_false, Bool.not_not, bne, beq_self_eq_true, Bool.false_eq_true, reduceCtorEq, Bool.false_or, Bool.or_false, Bool.true_or, Bool.or_true, Bool.false_and, Bool.and_false, Option.bind_some, Option.bind_none, Option.some.injEq, List.contains_cons, List.contains_nil, List.getElem?_toArray, List.getElem?_cons_zero, List.getElem?_cons_succ, List.drop_zero, List.toList_toArray, Option.getD_some, Option.getD_none, List.getElem?_nil, Nat.reduceLT, Nat.reduceSub, Nat.reduceAdd, Nat.reduceMul, Nat.reduceEqDiff, Nat.reduceBEq, Nat.reduceBNe, Nat.reduceLeDiff, Nat.reduceDiv, Nat.reduceMod, Nat.reducePow, List.reduceReplicate, UInt8.reduceOfNat, UInt32.reduceOfNat, UInt64.reduceOfNat, Int.reduceLE, Int.reduceLT, Int.reduceNeg, Int.reduceToNat, Int.reduceAdd, Int.reduceSub, Int.reduceMul, Int.reduceEq, UInt64.reduceToNat, UInt8.reduceToNat, UInt32.reduceToNat, Int.toNat_natCast]) (fun q hq => by cases hq) ?_).mono fun e W' ⟨he, hb⟩ => ?_
  · exact congrArg (fun b => some (AV.bool b)) hlaw
  · exact ⟨_, he, law_post hW' hb laidOut (by kernel_rfl) rfl rfl Try.underlying4 rfl rfl rfl⟩
theorem apart_holds : Rows.AesApartSaid :=
  OpenClaim.holds_of_wide 4 Try.f4 rfl rfl rfl rfl rfl rfl rfl ⟨rfl, rfl, rfl, rfl, rfl⟩ rfl rfl rfl rfl rfl (by kernel_rfl) Try.func4 (by kernel_rfl)
    (of_decide_eq_true (by kernel_rfl)) (by unfold Func.isWrapper; first | (rw [if_pos (by decide +kernel)]; kernel_rfl) | (rw [if_neg (by decide +kernel)]; exact ⟨rfl, rfl⟩))
    (fun os started H enc _ => apart_lifted os started H enc)
end Go.Proofs.Yticgfjalikmniaa
