/- Part of a proof: No more boxes are open than there is room for; what is acknowledged makes room for as many -/
import Derived.Test.YtlnkfdblkdhdgaaDoorVc4
import Derived.WideKeyArr2
set_option linter.unusedVariables false
set_option linter.unusedSimpArgs false
set_option linter.unusedSectionVars false
namespace Go.Vc
section
variable {P : Program} {t k e : TypeId}
def ctxN : Ctx := { ok := fun _ _ => False, weak := fun b h => h, born := fun _ => False, ρ := fun _ => none, hp := fun _ => none }
theorem keyR_str {x : List UInt8} {v : Value} : keyR .str x v ↔ v = .string ⟨⟨x⟩⟩ := by
  constructor
  · intro h
    have h1 : RV ctxN (.str x) v := h ctxN
    exact h1.str_inv
  · intro h c
    subst h
    exact .one _ _ rfl (.str x)
theorem MapLaw.str (hu : P.underlying t = some (.map k e)) (hk : P.underlying k = some .string) (he : ∀ w, (zeroValue e).run P w = .ok (.bool false) w) : MapLaw P t k e .str where
  hu := hu
  zero := he
  law := WideMaps.string_law hk
  key x v hx h := by
    rw [keyR_str.1 h]
    have hx' : List.length (α := UInt8) x ≤ 1000000000 := hx
    exact ⟨_, WideMaps.keyOf_string_mk hk (show (⟨⟨x⟩⟩ : ByteArray).size ≤ maxLen by show List.length (α := UInt8) x ≤ 2 ^ 63 - 1; omega)⟩
  inj x y v h1 h2 := by
    have := (keyR_str.1 h1).symm.trans (keyR_str.1 h2)
    injection this with this
    injection this with this
    injection this
  one x v w h1 h2 := (keyR_str.1 h1).trans (keyR_str.1 h2).symm
  val c x v h := by
    have h1 : RV c (.str x) v := h
    exact keyR_str.2 h1.str_inv
  eq x y := decide_eq_true_iff
theorem reads_u8 {c : Ctx} {n : Nat} {x : List UInt8} {v : Value} (h : RV c (.pure (.arr n (.int .u8)) x) v) : x.length = n ∧ v = .agg (x.map fun b => Value.int .u8 (UInt8.toNat b : Int)).toArray := by
  obtain ⟨a, h1, hr⟩ := h.pure_inv rfl
  have h2 := Reads.u8s hr.2
  refine ⟨hr.1, ?_⟩
  rw [h1, ← h2]
theorem keyR_arr {n : Nat} {x : List UInt8} {v : Value} : keyR (.arr n (.int .u8)) x v ↔ x.length = n ∧ v = .agg (x.map fun b => Value.int .u8 (UInt8.toNat b : Int)).toArray := by
  constructor
  · intro h
    exact reads_u8 (h ctxN)
  · rintro ⟨h1, h2⟩ c
    subst h2
    exact .agg _ _ rfl (.pure _ _ _ ⟨h1, RL.u8s x⟩)
theorem lits_u8 {D : Nat} (he : P.underlying k = some (.int .u8)) (x : List UInt8) : ∀ L : List Nat, (∀ i ∈ L, i < x.length) →
    ∃ ls, L.mapM (fun i => P.keyLits (D + 1) k (((x.map fun b => Value.int .u8 (UInt8.toNat b : Int)).drop (i * 1)).take 1)) = some ls
  | [], _ => ⟨[], rfl⟩
  | i :: L, h => by
    obtain ⟨ls, hl⟩ := lits_u8 (D := D) he x L fun j hj => h j (List.mem_cons_of_mem _ hj)
    have hi : i < x.length := h i (List.mem_cons_self ..)
    have e1 : ((x.map fun b => Value.int .u8 (UInt8.toNat b : Int)).drop (i * 1)).take 1 = [Value.int .u8 (UInt8.toNat x[i] : Int)] := by
      rw [Nat.mul_one, List.drop_eq_getElem_cons (by rw [List.length_map]; exact hi)]
      simp
    have hw : (Lit.int .u8 (UInt8.toNat x[i] : Int)).wf = true := by
      have := UInt8.toNat_lt x[i]
      have h1 : IntKind.u8.min = 0 := rfl
      have h2 : IntKind.u8.max = 255 := rfl
      simp only [Lit.wf, h1, h2, Bool.and_eq_true, decide_eq_true_eq]
      omega
    refine ⟨[.int .u8 (UInt8.toNat x[i] : Int)] :: ls, ?_⟩
    rw [List.mapM_cons, hl, e1]
    simp [Program.keyLits, he, hw]
theorem MapLaw.arr {b : TypeId} {n : Nat} (hu : P.underlying t = some (.map k e)) (A : WideMaps.ArrKey P k b n) (hb : P.underlying b = some (.int .u8)) (hsz : ∃ m, P.types.size = m + 1) (he : ∀ w, (zeroValue e).run P w = .ok (.bool false) w) : MapLaw P t k e (.arr n (.int .u8)) where
  hu := hu
  zero := he
  law := A.law
  key x v hx h := by
    obtain ⟨h1, h2⟩ := keyR_arr.1 h
    subst h2
    have hkt := A.keyType hsz
    obtain ⟨m0, hm0⟩ := hsz
    obtain ⟨ls, hl⟩ := lits_u8 (P := P) (D := m0) hb x (List.range n) (fun i hi => by rw [h1]; exact List.mem_range.1 hi)
    refine ⟨.string (keyBytes ls.flatten), ?_⟩
    unfold keyOf
    simp only [A.hu]
    rw [if_pos (by simp [hkt, Value.formed, A.hu, A.size, h1]), hm0]
    unfold Program.keyLits
    simp only [A.hu, Value.cells, A.one]
    rw [if_pos (by rw [A.size]; simpa using h1)]
    rw [hl]
    rfl
  inj x y v h1 h2 := by
    have := (keyR_arr.1 h1).2.symm.trans (keyR_arr.1 h2).2
    injection this with this
    have h3 := congrArg Array.toList this
    simp only [List.toList_toArray] at h3
    have hinj : Function.Injective (fun b : UInt8 => Value.int .u8 (UInt8.toNat b : Int)) := fun a c h => by
      simp only [Value.int.injEq, true_and] at h
      exact UInt8.toNat_inj.1 (Int.ofNat.inj h)
    exact (List.map_inj_right (fun a c h => hinj h)).1 h3
  one x v w h1 h2 := (keyR_arr.1 h1).2.trans (keyR_arr.1 h2).2.symm
  val c x v h := keyR_arr.2 (reads_u8 h)
  eq x y := decide_eq_true_iff
def TyI.mapT (k e : TypeId) (d : Kd) : TyI := ⟨.map k e d, 1, 8, .nmap, none, false⟩
theorem TyOK.mapT {d : Kd} (M : MapLaw P t k e d) (hi : tyInfo P t = Option.some (1, 8, Option.some (.map none))) : TyOK P t (TyI.mapT k e d) :=
  TyOK.of (td := .map k e d) M hi (fun c => .one _ _ rfl .nmap) fun d hd => by cases hd
theorem zero_bool (h : tyInfo P e = Option.some (1, 1, Option.some (.bool false))) (w : World) : (zeroValue e).run P w = .ok (.bool false) w := by
  unfold tyInfo at h
  cases hj : P.info? e with
  | none => rw [hj] at h; cases h
  | some j =>
    rw [hj] at h
    simp only [Option.map_some, Option.some.injEq, Prod.mk.injEq] at h
    simp [Go.zeroValue, typeInfo, hj, h.2.2]
attribute [go_sem] TyI.mapT keyOK rdQb rdQbk_agg rdObq rdObk_agg rdQ fldQ blkQ QK.cnt
end
end Go.Vc
