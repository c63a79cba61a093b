/- Part of a proof: any block under any key is encrypted as the standard has it, as the document's answer tells (the law AesBlocks answers true at every input and leaves its arguments as they were). No further condition. -/
import Derived.Test.YticgfjalikmniaaVc2
/- Vc, part Zd: how runs are reckoned. -/
namespace Go.Vc
set_option linter.unusedVariables false
set_option linter.unusedSimpArgs false
set_option linter.unusedSectionVars false

/-! ### Numbers -/
theorem constI_u8 (n : Nat) (h : n < 256) : constI .u8 (no_index (OfNat.ofNat n)) = some (.int .u8 (UInt8.ofNat n)) := by
  have h1 : wrapT .u8 (OfNat.ofNat n : Int) = UInt8.ofNat n := by
    apply toI_inj (k := .u8)
    rw [toI_wrapT, IntKind.wrap_u8]
    show (n : Int) % 256 = ((UInt8.ofNat n).toNat : Int)
    simp [UInt8.toNat_ofNat']
  unfold constI
  rw [if_pos]
  · rw [h1]
  · rw [toI_wrapT, IntKind.wrap_u8]
    show (n : Int) % 256 = n
    omega
theorem constI_u32 (n : Nat) (h : n < 4294967296) : constI .u32 (no_index (OfNat.ofNat n)) = some (.int .u32 (UInt32.ofNat n)) := by
  have h1 : wrapT .u32 (OfNat.ofNat n : Int) = UInt32.ofNat n := by
    apply toI_inj (k := .u32)
    rw [toI_wrapT, IntKind.wrap_u32]
    show (n : Int) % 4294967296 = ((UInt32.ofNat n).toNat : Int)
    simp [UInt32.toNat_ofNat']
  unfold constI
  rw [if_pos]
  · rw [h1]
  · rw [toI_wrapT, IntKind.wrap_u32]
    show (n : Int) % 4294967296 = n
    omega
theorem constI_u64 (n : Nat) (h : n < 18446744073709551616) : constI .u64 (no_index (OfNat.ofNat n)) = some (.int .u64 (UInt64.ofNat n)) := by
  have h1 : wrapT .u64 (OfNat.ofNat n : Int) = UInt64.ofNat n := by
    apply toI_inj (k := .u64)
    rw [toI_wrapT, IntKind.wrap_u64]
    show (n : Int) % 18446744073709551616 = ((UInt64.ofNat n).toNat : Int)
    simp [UInt64.toNat_ofNat']
  unfold constI
  rw [if_pos]
  · rw [h1]
  · rw [toI_wrapT, IntKind.wrap_u64]
    show (n : Int) % 18446744073709551616 = n
    omega
theorem wrap_i64_id (n : Int) (h1 : -9223372036854775808 ≤ n) (h2 : n ≤ 9223372036854775807) : IntKind.i64.wrap n = n := by
  rw [IntKind.wrap_i64]; omega
theorem constI_i64 (n : Int) (h1 : -9223372036854775808 ≤ n) (h2 : n ≤ 9223372036854775807) : constI .i64 n = some (.int .i64 n) := by
  have h : wrapT .i64 n = n := wrap_i64_id n h1 h2
  unfold constI
  rw [if_pos]
  · rw [h]
  · rw [h]; rfl
theorem addT_u8 (a b : UInt8) : addT .u8 a b = a + b := rfl
theorem subT_u8 (a b : UInt8) : subT .u8 a b = a - b := rfl
theorem mulT_u8 (a b : UInt8) : mulT .u8 a b = a * b := rfl
theorem quoT_u8 (a b : UInt8) : quoT .u8 a b = a / b := rfl
theorem remT_u8 (a b : UInt8) : remT .u8 a b = a % b := rfl
theorem andT_u8 (a b : UInt8) : andT .u8 a b = a &&& b := rfl
theorem orT_u8 (a b : UInt8) : orT .u8 a b = a ||| b := rfl
theorem xorT_u8 (a b : UInt8) : xorT .u8 a b = a ^^^ b := rfl
theorem notT_u8 (a : UInt8) : notT .u8 a = ~~~a := rfl
theorem ltT_u8 (a b : UInt8) : ltT .u8 a b = decide (a < b) := rfl
theorem eqI_u8 (a b : UInt8) : eqI .u8 a b = decide (a = b) := rfl
theorem toI_u8 (a : UInt8) : toI .u8 a = (a.toNat : Int) := rfl
theorem shlT_u8 (a : UInt8) (n : Nat) (h : n < 8) : shlT .u8 a n = a <<< UInt8.ofNat n := by show (if n < 8 then _ else _) = _; rw [if_pos h]; rfl
theorem shrT_u8 (a : UInt8) (n : Nat) (h : n < 8) : shrT .u8 a n = a >>> UInt8.ofNat n := by show (if n < 8 then _ else _) = _; rw [if_pos h]; rfl
theorem addT_u32 (a b : UInt32) : addT .u32 a b = a + b := rfl
theorem subT_u32 (a b : UInt32) : subT .u32 a b = a - b := rfl
theorem mulT_u32 (a b : UInt32) : mulT .u32 a b = a * b := rfl
theorem quoT_u32 (a b : UInt32) : quoT .u32 a b = a / b := rfl
theorem remT_u32 (a b : UInt32) : remT .u32 a b = a % b := rfl
theorem andT_u32 (a b : UInt32) : andT .u32 a b = a &&& b := rfl
theorem orT_u32 (a b : UInt32) : orT .u32 a b = a ||| b := rfl
theorem xorT_u32 (a b : UInt32) : xorT .u32 a b = a ^^^ b := rfl
theorem notT_u32 (a : UInt32) : notT .u32 a = ~~~a := rfl
theorem ltT_u32 (a b : UInt32) : ltT .u32 a b = decide (a < b) := rfl
theorem eqI_u32 (a b : UInt32) : eqI .u32 a b = decide (a = b) := rfl
theorem toI_u32 (a : UInt32) : toI .u32 a = (a.toNat : Int) := rfl
theorem shlT_u32 (a : UInt32) (n : Nat) (h : n < 32) : shlT .u32 a n = a <<< UInt32.ofNat n := by show (if n < 32 then _ else _) = _; rw [if_pos h]; rfl
theorem shrT_u32 (a : UInt32) (n : Nat) (h : n < 32) : shrT .u32 a n = a >>> UInt32.ofNat n := by show (if n < 32 then _ else _) = _; rw [if_pos h]; rfl
theorem addT_u64 (a b : UInt64) : addT .u64 a b = a + b := rfl
theorem subT_u64 (a b : UInt64) : subT .u64 a b = a - b := rfl
theorem mulT_u64 (a b : UInt64) : mulT .u64 a b = a * b := rfl
theorem quoT_u64 (a b : UInt64) : quoT .u64 a b = a / b := rfl
theorem remT_u64 (a b : UInt64) : remT .u64 a b = a % b := rfl
theorem andT_u64 (a b : UInt64) : andT .u64 a b = a &&& b := rfl
theorem orT_u64 (a b : UInt64) : orT .u64 a b = a ||| b := rfl
theorem xorT_u64 (a b : UInt64) : xorT .u64 a b = a ^^^ b := rfl
theorem notT_u64 (a : UInt64) : notT .u64 a = ~~~a := rfl
theorem ltT_u64 (a b : UInt64) : ltT .u64 a b = decide (a < b) := rfl
theorem eqI_u64 (a b : UInt64) : eqI .u64 a b = decide (a = b) := rfl
theorem toI_u64 (a : UInt64) : toI .u64 a = (a.toNat : Int) := rfl
theorem shlT_u64 (a : UInt64) (n : Nat) (h : n < 64) : shlT .u64 a n = a <<< UInt64.ofNat n := by show (if n < 64 then _ else _) = _; rw [if_pos h]; rfl
theorem shrT_u64 (a : UInt64) (n : Nat) (h : n < 64) : shrT .u64 a n = a >>> UInt64.ofNat n := by show (if n < 64 then _ else _) = _; rw [if_pos h]; rfl
theorem addT_i64 (a b : Int) : addT .i64 a b = IntKind.i64.wrap (a + b) := rfl
theorem subT_i64 (a b : Int) : subT .i64 a b = IntKind.i64.wrap (a - b) := rfl
theorem mulT_i64 (a b : Int) : mulT .i64 a b = IntKind.i64.wrap (a * b) := rfl
theorem quoT_i64 (a b : Int) : quoT .i64 a b = IntKind.i64.wrap (Int.tdiv a b) := rfl
theorem remT_i64 (a b : Int) : remT .i64 a b = Int.tmod a b := rfl
theorem ltT_i64 (a b : Int) : ltT .i64 a b = decide (a < b) := rfl
theorem eqI_i64 (a b : Int) : eqI .i64 a b = decide (a = b) := rfl
theorem toI_i64 (a : Int) : toI .i64 a = a := rfl
theorem conv_i64_u8 (x : UInt8) : convT .i64 .u8 x = (x.toNat : Int) := rfl
theorem conv_i64_u32 (x : UInt32) : convT .i64 .u32 x = (x.toNat : Int) := rfl
theorem conv_u32_u8 (x : UInt8) : convT .u32 .u8 x = x.toUInt32 := rfl
theorem conv_u64_u8 (x : UInt8) : convT .u64 .u8 x = x.toUInt64 := rfl
theorem conv_u8_u32 (x : UInt32) : convT .u8 .u32 x = x.toUInt8 := rfl
theorem conv_u8_u64 (x : UInt64) : convT .u8 .u64 x = x.toUInt8 := rfl
theorem conv_u32_u64 (x : UInt64) : convT .u32 .u64 x = x.toUInt32 := rfl
theorem conv_u64_u32 (x : UInt32) : convT .u64 .u32 x = x.toUInt64 := rfl
theorem conv_u64_u64 (x : UInt64) : convT .u64 .u64 x = x := rfl
theorem conv_u8_u8 (x : UInt8) : convT .u8 .u8 x = x := rfl
theorem conv_u32_u32 (x : UInt32) : convT .u32 .u32 x = x := rfl
theorem conv_i64_i64 (x : Int) : convT .i64 .i64 x = IntKind.i64.wrap x := rfl
theorem conv_u8_i64 (x : Int) : convT .u8 .i64 x = UInt8.ofInt x := rfl
theorem conv_u64_i64 (x : Int) : convT .u64 .i64 x = UInt64.ofInt x := rfl
theorem conv_u32_i64 (x : Int) : convT .u32 .i64 x = UInt32.ofInt x := rfl

/-! ### Numbers that are not below 0 -/
theorem tdivN (a b : Nat) : Int.tdiv (a : Int) (no_index (OfNat.ofNat b)) = ((a / b : Nat) : Int) := (Int.ofNat_tdiv a b).symm
theorem tmodN (a b : Nat) : Int.tmod (a : Int) (no_index (OfNat.ofNat b)) = ((a % b : Nat) : Int) := (Int.ofNat_tmod a b).symm
theorem mulNl (a b : Nat) : (no_index (OfNat.ofNat a) : Int) * (b : Int) = ((a * b : Nat) : Int) := (Int.natCast_mul a b).symm
theorem mulNr (a b : Nat) : (a : Int) * (no_index (OfNat.ofNat b) : Int) = ((a * b : Nat) : Int) := (Int.natCast_mul a b).symm
theorem addNN (a b : Nat) : (a : Int) + (b : Int) = ((a + b : Nat) : Int) := (Int.natCast_add a b).symm
theorem addNl (a b : Nat) : (no_index (OfNat.ofNat a) : Int) + (b : Int) = ((a + b : Nat) : Int) := (Int.natCast_add a b).symm
theorem addNr (a b : Nat) : (a : Int) + (no_index (OfNat.ofNat b) : Int) = ((a + b : Nat) : Int) := (Int.natCast_add a b).symm
theorem wrapN (a : Nat) (h : a ≤ 9223372036854775807) : IntKind.i64.wrap (a : Int) = (a : Int) := wrap_i64_id _ (by omega) (by omega)
end Go.Vc

/- Vc, part Ze: rules for code in the order in which it is written. -/
namespace Go.Vc
set_option linter.unusedVariables false
set_option linter.unusedSimpArgs false
set_option linter.unusedSectionVars false

def Obs : List Prop → Prop
  | [] => True
  | q :: r => q ∧ Obs r
theorem Obs.all : ∀ {l : List Prop}, Obs l → ∀ q ∈ l, q
  | [], _, q, hq => by cases hq
  | p :: r, h, q, hq => by
    cases hq with
    | head => exact h.1
    | tail _ hq => exact Obs.all h.2 q hq
theorem Obs.of : ∀ {l : List Prop}, (∀ q ∈ l, q) → Obs l
  | [], _ => trivial
  | p :: r, h => ⟨h p (List.mem_cons_self ..), Obs.of fun q hq => h q (List.mem_cons_of_mem _ hq)⟩

section
variable {P : Program} {C : Cfg2} {S S' : AS} {Q : Exit → AS → Prop} {K : AS → Prop} {x y z : Code}
theorem Tri.reg (hC : CfgOK P C) {id : Nat} {l : List Oper} {obs : List Prop} (h : runOps C l.toArray l S = some (S', obs)) (ho : Obs obs) (hq : K S') : Tri P C S (.region id l.toArray false) (Then K Q) :=
  Tri.region hC h ho.all hq
theorem Tri.drw (hm : P.follows .mixedOrders = true) (hC : CfgOK P C) {id : Nat} {l : List Oper} {obs : List Prop} {fps : List FP} (h : runRc C l.toArray l S = some (S', obs, fps)) (ho : Obs obs) (hd : drawOK l fps = true) (hq : K S') : Tri P C S (.region id l.toArray true) (Then K Q) :=
  Tri.draw hm hC h ho.all hd hq
theorem Tri.skp (hq : K S) : Tri P C S .skip (Then K Q) := Tri.skip hq
end
theorem Con.done {K : Con} {C : Cfg2} {fn : Func} {p : K.Par} {e : Exit} {S : AS} {vs : List AV} {obs : List Prop} {l : List Nat} (he : e = .ret ∨ e = .normal)
    (h : (resA C.toCfg S fn.results.toList).run S.blk = some ((vs, obs), l)) (ho : Obs obs) (hv : resV vs = (K.out p).v) (hh : LessH S.heap ((K.out p).fin.map .live))
    (hc : (⟨[some (K.out p).v], (K.out p).fin.map .live⟩ : AS).closed = true) (hp : ∀ id ∈ K.pins, ((⟨[some (K.out p).v], (K.out p).fin.map .live⟩ : AS).blk id).born = true) : K.post C fn p e S :=
  ⟨he, vs, obs, l, h, ho.all, Wk.less (.cons _ _ _ _ (by show some (resV vs) = some _; rw [hv]) .nil) hh hc hp⟩
end Go.Vc
