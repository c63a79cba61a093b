/- Part of a proof: No more boxes are open than there is room for; what is acknowledged makes room for as many -/
import Derived.Below
import Derived.Laws.Cells
import Derived.Laws.Rows
import Derived.Control
import Derived.Calls
import Derived.Laws.BitsAllLaws
import Derived.Laws.BitsLemmas
import Derived.Laws.Entries
import Derived.Laws.Bits64
import Derived.Orders
import Derived.Laws.Strings
import Derived.Laws.Concat
import Derived.Lib.Strings
import Derived.Laws.BytesArg
import Derived.Laws.Tables
import Derived.StringKeys
import Derived.WideKeyArr
set_option linter.unusedVariables false
set_option linter.unusedSimpArgs false
set_option linter.unusedSectionVars false
namespace Go.Vc
@[reducible] def IntT : IntKind → Type
  | .u8 => UInt8 | .u16 => UInt16 | .u32 => UInt32 | .u64 => UInt64
  | .i8 => Int | .i16 => Int | .i32 => Int | .i64 => Int
def toI : (k : IntKind) → IntT k → Int
  | .u8, x => (UInt8.toNat x : Int) | .u16, x => (UInt16.toNat x : Int) | .u32, x => (UInt32.toNat x : Int) | .u64, x => (UInt64.toNat x : Int)
  | .i8, x => x | .i16, x => x | .i32, x => x | .i64, x => x
inductive Kd where
  | int (k : IntKind) | bool | str
  | arr (n : Nat) (d : Kd) | st (d : Kd) | pair (a b : Kd) | unit
  | slice (own : Bool) (d : Kd)
@[reducible] def Kd.T : Kd → Type
  | .int k => IntT k | .bool => Bool | .str => List UInt8
  | .arr _ d => List d.T | .st d => d.T | .pair a b => a.T × b.T | .unit => Unit
  | .slice _ d => List d.T
def Kd.sz : Kd → Nat
  | .int _ => 1 | .bool => 1 | .str => 1 | .slice _ _ => 1
  | .arr n d => n * d.sz | .st d => d.sz | .pair a b => a.sz + b.sz | .unit => 0
def RL {α : Type} (R : α → List Value → Prop) : List α → List Value → Prop
  | [], cs => cs = []
  | x :: xs, cs => ∃ c1 c2, cs = c1 ++ c2 ∧ R x c1 ∧ RL R xs c2
section
variable {α : Type} {R R' : α → List Value → Prop}
theorem RL.imp (h : ∀ x c, R x c → R' x c) : ∀ {xs : List α} {cs : List Value}, RL R xs cs → RL R' xs cs
  | [], _, h0 => h0
  | _ :: _, _, ⟨c1, c2, e, hx, hr⟩ => ⟨c1, c2, e, h _ _ hx, RL.imp h hr⟩
theorem RL.len {k : Nat} (hk : ∀ x c, R x c → c.length = k) : ∀ {xs : List α} {cs : List Value}, RL R xs cs → cs.length = xs.length * k
  | [], _, h0 => by cases h0; simp
  | _ :: xs, _, ⟨c1, c2, e, hx, hr⟩ => by
    subst e
    rw [List.length_append, hk _ _ hx, RL.len hk hr, List.length_cons, Nat.add_mul, Nat.one_mul, Nat.add_comm]
theorem RL.append : ∀ {xs ys : List α} {c d : List Value}, RL R xs c → RL R ys d → RL R (xs ++ ys) (c ++ d)
  | [], _, _, _, h0, h => by cases h0; simpa using h
  | _ :: _, _, _, _, ⟨c1, c2, e, hx, hr⟩, h => ⟨c1, c2 ++ _, by rw [e, List.append_assoc], hx, RL.append hr h⟩
theorem RL.one {x : α} {c : List Value} (h : R x c) : RL R [x] c := ⟨c, [], by simp, h, rfl⟩
theorem RL.drop {k : Nat} (hk : ∀ x c, R x c → c.length = k) : ∀ {xs : List α} {cs : List Value} (n : Nat), RL R xs cs → RL R (xs.drop n) (cs.drop (n * k))
  | [], _, n, h0 => by cases h0; simp [RL]
  | _ :: _, _, 0, h => by simpa using h
  | _ :: xs, _, n + 1, ⟨c1, c2, e, hx, hr⟩ => by
    subst e
    have h1 := hk _ _ hx
    rw [List.drop_succ_cons, show (n + 1) * k = c1.length + n * k by rw [Nat.add_mul, Nat.one_mul, h1, Nat.add_comm], ← List.drop_drop, List.drop_left]
    exact RL.drop hk n hr
theorem RL.take {k : Nat} (hk : ∀ x c, R x c → c.length = k) : ∀ {xs : List α} {cs : List Value} (n : Nat), RL R xs cs → RL R (xs.take n) (cs.take (n * k))
  | [], _, n, h0 => by cases h0; simp [RL]
  | _ :: _, _, 0, h => by simp [RL]
  | _ :: xs, _, n + 1, ⟨c1, c2, e, hx, hr⟩ => by
    subst e
    have h1 := hk _ _ hx
    rw [List.take_succ_cons, show (n + 1) * k = c1.length + n * k by rw [Nat.add_mul, Nat.one_mul, h1, Nat.add_comm], List.take_append]
    refine ⟨c1, c2.take (n * k), ?_, hx, RL.take hk n hr⟩
    rw [List.take_of_length_le (by omega), show c1.length + n * k - c1.length = n * k by omega]
theorem RL.get {k : Nat} (hk : ∀ x c, R x c → c.length = k) {xs : List α} {cs : List Value} (h : RL R xs cs) {i : Nat} {x : α} (hx : xs[i]? = some x) : R x ((cs.drop (i * k)).take k) := by
  have h1 := RL.drop hk i h
  have hi : i < xs.length := (List.getElem?_eq_some_iff.1 hx).1
  have hxi : xs[i] = x := (List.getElem?_eq_some_iff.1 hx).2
  rw [List.drop_eq_getElem_cons hi, hxi] at h1
  obtain ⟨c1, c2, e, hc, _⟩ := h1
  rw [e, List.take_append_of_le_length (by rw [hk _ _ hc]; omega), List.take_of_length_le (by rw [hk _ _ hc]; omega)]
  exact hc
def splice (cs : List Value) (o : Nat) (new : List Value) : List Value := cs.take o ++ new ++ cs.drop (o + new.length)
theorem splice_length (cs : List Value) (o : Nat) (new : List Value) (h : o + new.length ≤ cs.length) : (splice cs o new).length = cs.length := by
  simp only [splice, List.length_append, List.length_take, List.length_drop]; omega
theorem RL.set {k : Nat} (hk : ∀ x c, R x c → c.length = k) {y : α} {c : List Value} (hy : R y c) : ∀ {xs : List α} {cs : List Value} (i : Nat), RL R xs cs → i < xs.length → RL R (xs.set i y) (splice cs (i * k) c)
  | [], _, i, h0, hi => absurd hi (by simp)
  | x :: xs, _, 0, ⟨c1, c2, e, hx, hr⟩, hi => by
    subst e
    rw [List.set_cons_zero]
    refine ⟨c, c2, ?_, hy, hr⟩
    have h1 := hk _ _ hx
    have h2 := hk _ _ hy
    simp only [splice, Nat.zero_mul, List.take_zero, List.nil_append, Nat.zero_add]
    rw [h2, ← h1, List.drop_left]
  | x :: xs, _, i + 1, ⟨c1, c2, e, hx, hr⟩, hi => by
    subst e
    have h1 := hk _ _ hx
    rw [List.set_cons_succ]
    refine ⟨c1, splice c2 (i * k) c, ?_, hx, RL.set hk hy i hr (by simpa using hi)⟩
    have e1 : (i + 1) * k = c1.length + i * k := by rw [Nat.add_mul, Nat.one_mul, h1, Nat.add_comm]
    simp only [splice, e1]
    rw [List.take_append, List.take_of_length_le (by omega), show c1.length + i * k - c1.length = i * k by omega, List.append_assoc, List.append_assoc, List.append_assoc, Nat.add_assoc c1.length, ← List.drop_drop, List.drop_left]
theorem RL.replicate {x : α} {c : List Value} (h : R x c) : ∀ n, RL R (List.replicate n x) (List.replicate n c).flatten
  | 0 => by simp [RL]
  | n + 1 => by
    rw [List.replicate_succ, List.replicate_succ, List.flatten_cons]
    exact ⟨c, _, rfl, h, RL.replicate h n⟩
theorem RL.cells {P : Value → Prop} (h : ∀ x c, R x c → ∀ u ∈ c, P u) : ∀ {xs : List α} {cs : List Value}, RL R xs cs → ∀ u ∈ cs, P u
  | [], _, h0, u, hu => by cases h0; simp at hu
  | _ :: _, _, ⟨c1, c2, e, hx, hr⟩, u, hu => by
    subst e
    rcases List.mem_append.1 hu with hu | hu
    · exact h _ _ hx u hu
    · exact RL.cells h hr u hu
end
def Reads (ok : Bool → Nat → Prop) (hp : Nat → Option Obj) : (d : Kd) → d.T → List Value → Prop
  | .int k, x, cs => cs = [.int k (toI k x)]
  | .bool, x, cs => cs = [.bool x]
  | .str, x, cs => cs = [.string ⟨⟨x⟩⟩]
  | .arr n d, x, cs => List.length x = n ∧ RL (Reads ok hp d) x cs
  | .st d, x, cs => Reads ok hp d x cs
  | .pair a b, x, cs => ∃ c1 c2, cs = c1 ++ c2 ∧ Reads ok hp a x.1 c1 ∧ Reads ok hp b x.2 c2
  | .unit, _, cs => cs = []
  | .slice own d, x, cs => ∃ A cap, cs = [.slice A (List.length x) cap] ∧ List.length x ≤ cap ∧
      (x = [] ∨ ∃ b o rc el fr flat, A = some ⟨b, o, none⟩ ∧ ok own b ∧ hp b = some (.cells rc el fr) ∧ RL (Reads ok hp d) x flat ∧ (rc.toList.drop o).take flat.length = flat)
section
variable {ok ok' : Bool → Nat → Prop} {hp hp' : Nat → Option Obj}
theorem Reads.len : ∀ {d : Kd} {x : d.T} {cs : List Value}, Reads ok hp d x cs → cs.length = d.sz
  | .int _, _, _, h => by cases h; rfl
  | .bool, _, _, h => by cases h; rfl
  | .str, _, _, h => by cases h; rfl
  | .arr n d, x, cs, h => by
    obtain ⟨h1, h2⟩ := h
    rw [RL.len (fun _ _ hh => Reads.len hh) h2, h1]; rfl
  | .st d, x, cs, h => Reads.len (d := d) h
  | .pair a b, x, cs, h => by
    obtain ⟨c1, c2, e, h1, h2⟩ := h
    rw [e, List.length_append, Reads.len h1, Reads.len h2]; rfl
  | .unit, _, _, h => by cases h; rfl
  | .slice _ _, _, _, h => by obtain ⟨A, cap, e, _⟩ := h; rw [e]; rfl
theorem Reads.one : ∀ {d : Kd} {x : d.T} {cs : List Value}, Reads ok hp d x cs → ∀ u ∈ cs, u.oneCell' = true
  | .int _, _, _, h, u, hu => by cases h; simp at hu; subst hu; rfl
  | .bool, _, _, h, u, hu => by cases h; simp at hu; subst hu; rfl
  | .str, _, _, h, u, hu => by cases h; simp at hu; subst hu; rfl
  | .arr n d, x, cs, h, u, hu => RL.cells (fun _ _ hh u hu => Reads.one hh u hu) h.2 u hu
  | .st d, x, cs, h, u, hu => Reads.one (d := d) h u hu
  | .pair a b, x, cs, h, u, hu => by
    obtain ⟨c1, c2, e, h1, h2⟩ := h
    subst e
    rcases List.mem_append.1 hu with hu | hu
    · exact Reads.one h1 u hu
    · exact Reads.one h2 u hu
  | .unit, _, _, h, u, hu => by cases h; simp at hu
  | .slice _ _, _, _, h, u, hu => by obtain ⟨A, cap, e, _⟩ := h; rw [e] at hu; simp at hu; subst hu; rfl
theorem Reads.mono (hh : ∀ own b, ok own b → hp b ≠ none → ok' own b ∧ hp' b = hp b) : ∀ {d : Kd} {x : d.T} {cs : List Value}, Reads ok hp d x cs → Reads ok' hp' d x cs
  | .int _, _, _, h => h
  | .bool, _, _, h => h
  | .str, _, _, h => h
  | .arr n d, x, cs, h => ⟨h.1, h.2.imp fun _ _ hr => Reads.mono hh hr⟩
  | .st d, x, cs, h => Reads.mono (d := d) hh h
  | .pair a b, x, cs, h => by
    obtain ⟨c1, c2, e, h1, h2⟩ := h
    exact ⟨c1, c2, e, Reads.mono hh h1, Reads.mono hh h2⟩
  | .unit, _, _, h => h
  | .slice own d, x, cs, h => by
    obtain ⟨A, cap, e, hl, h⟩ := h
    refine ⟨A, cap, e, hl, ?_⟩
    rcases h with h | ⟨b, o, rc, el, fr, flat, hA, hok, hb, hr, hf⟩
    · exact .inl h
    · have := hh own b hok (by rw [hb]; exact Option.some_ne_none _)
      exact .inr ⟨b, o, rc, el, fr, flat, hA, this.1, this.2.trans hb, hr.imp fun _ _ hr => Reads.mono hh hr, hf⟩
end
inductive AV where
  | int (k : IntKind) (x : IntT k)
  | bool (b : Bool)
  | str (l : List UInt8)
  | pure (d : Kd) (x : d.T)
  | nilp
  | ptr (id : Nat) (path : List Nat) (off : Nat)
  | arrp (id : Nat) (path : List Nat) (i off sz n : Nat)
  | ept (own : Bool) (d : Kd) (x : d.T)
  | nilsl
  | tsl (id : Nat) (path : List Nat) (i off sz len : Nat)
  | nmap
  | map (id : Nat)
  | nilFunc
  | func (fn : Fn) (first captured : List AV)
  | nilIface
  | iface (t : TypeId) (v : AV)
  | agg (l : List AV)
  | tuple (l : List AV)
  | dead
instance : Inhabited AV := ⟨.dead⟩
def Kd.isAgg : Kd → Bool
  | .arr _ _ => true | .st _ => true | .pair _ _ => true | .unit => true | _ => false
def AV.isAgg : AV → Bool
  | .agg _ => true | .pure d _ => d.isAgg | _ => false
def AV.ofKd : (d : Kd) → d.T → AV
  | .int k, x => .int k x | .bool, x => .bool x | .str, x => .str x
  | .arr n d, x => .pure (.arr n d) x | .st d, x => .pure (.st d) x | .pair a b, x => .pure (.pair a b) x | .unit, x => .pure .unit x | .slice o d, x => .pure (.slice o d) x
def AV.tr (f : Nat → Option Nat) : AV → AV
  | .ptr id p o => match f id with | some j => .ptr j p o | none => .dead
  | .tsl id p i o s n => match f id with | some j => .tsl j p i o s n | none => .dead
  | .arrp id p i o s n => match f id with | some j => .arrp j p i o s n | none => .dead
  | .map id => match f id with | some j => .map j | none => .dead
  | .func fn a b => .func fn (trL f a) (trL f b)
  | .iface t v => .iface t (tr f v)
  | .agg l => .agg (trL f l)
  | .tuple l => .tuple (trL f l)
  | v => v
where trL (f : Nat → Option Nat) : List AV → List AV
  | [] => []
  | v :: r => tr f v :: trL f r
structure Ctx where
  ok : Bool → Nat → Prop
  weak : ∀ b, ok true b → ok false b
  born : Nat → Prop
  ρ : Nat → Option (Nat × Nat)
  hp : Nat → Option Obj
mutual
inductive RC (c : Ctx) : AV → List Value → Prop
  | int (k : IntKind) (x : IntT k) : RC c (.int k x) [.int k (toI k x)]
  | bool (b : Bool) : RC c (.bool b) [.bool b]
  | str (l : List UInt8) : RC c (.str l) [.string ⟨⟨l⟩⟩]
  | pure (d : Kd) (x : d.T) (cs : List Value) (h : Reads c.ok c.hp d x cs) : RC c (.pure d x) cs
  | nilp : RC c .nilp [.pointer none]
  | ptr (id : Nat) (path : List Nat) (off g o : Nat) (hb : c.born id) (hr : c.ρ id = some (g, o)) : RC c (.ptr id path off) [.pointer (some ⟨g, o + off, none⟩)]
  | arrp (id : Nat) (path : List Nat) (i off sz n g o : Nat) (hb : c.born id) (hr : c.ρ id = some (g, o)) : RC c (.arrp id path i off sz n) [.pointer (some ⟨g, o + off, none⟩)]
  | ept (own : Bool) (d : Kd) (x : d.T) (b o : Nat) (rc : Array Value) (el : TypeId) (fr : Nat × Nat) (flat : List Value) (hok : c.ok own b) (hh : c.hp b = some (.cells rc el fr))
      (hr : Reads c.ok c.hp d x flat) (hf : (rc.toList.drop o).take flat.length = flat) : RC c (.ept own d x) [.pointer (some ⟨b, o, none⟩)]
  | nilsl : RC c .nilsl [.slice none 0 0]
  | tsl (id : Nat) (path : List Nat) (i off sz len g o cap : Nat) (A : Option Addr) (hb : c.born id) (hr : c.ρ id = some (g, o)) (hl : len ≤ cap)
      (hA : 0 < cap → A = some ⟨g, o + off, none⟩) (rc : Array Value) (el : TypeId) (fr : Nat × Nat) (hh : c.hp g = some (.cells rc el fr)) (hs : cap = 0 ∨ o + off + cap * sz ≤ rc.size) :
      RC c (.tsl id path i off sz len) [.slice A len cap]
  | tslv (id : Nat) (path : List Nat) (i off sz len : Nat) (hb : c.born id) (hr : c.ρ id = none) (h0 : len = 0) : RC c (.tsl id path i off sz len) [.slice none 0 0]
  | nmap : RC c .nmap [.map none]
  | map (id g : Nat) (hb : c.born id) (hr : c.ρ id = some (g, 0)) : RC c (.map id) [.map (some g)]
  | nilFunc : RC c .nilFunc [.nilFunc]
  | func (fn : Fn) (a b : List AV) (x y : List Value) (ha : RVs c a x) (hb : RVs c b y) : RC c (.func fn a b) [.func fn x.toArray y.toArray]
  | nilIface : RC c .nilIface [.nilIface]
  | iface (t : TypeId) (v : AV) (x : Value) (hv : RV c v x) : RC c (.iface t v) [.iface t x]
  | agg (l : List AV) (cs : List Value) (h : RCs c l cs) : RC c (.agg l) cs
  | dead (x : Value) (h : x.oneCell' = true) : RC c .dead [x]
inductive RCs (c : Ctx) : List AV → List Value → Prop
  | nil : RCs c [] []
  | cons (v : AV) (r : List AV) (c1 c2 : List Value) (hv : RC c v c1) (hr : RCs c r c2) : RCs c (v :: r) (c1 ++ c2)
inductive RV (c : Ctx) : AV → Value → Prop
  | one (v : AV) (x : Value) (h : v.isAgg = false) (hc : RC c v [x]) : RV c v x
  | agg (v : AV) (a : Array Value) (h : v.isAgg = true) (hc : RC c v a.toList) : RV c v (.agg a)
  | tuple (l : List AV) (x : List Value) (h : RVs c l x) : RV c (.tuple l) (.tuple x.toArray)
inductive RVs (c : Ctx) : List AV → List Value → Prop
  | nil : RVs c [] []
  | cons (v : AV) (r : List AV) (x : Value) (y : List Value) (hv : RV c v x) (hr : RVs c r y) : RVs c (v :: r) (x :: y)
end
structure Ctx.Le (f : Nat → Option Nat) (c c' : Ctx) : Prop where
  ok : ∀ own b, c.ok own b → c.hp b ≠ none → c'.ok own b ∧ c'.hp b = c.hp b
  born : ∀ id j, c.born id → f id = some j → c'.born j ∧ c'.ρ j = c.ρ id
  size : ∀ id j g o, c.born id → f id = some j → c.ρ id = some (g, o) → ∀ rc el fr, c.hp g = some (.cells rc el fr) → ∃ rc' el' fr', c'.hp g = some (.cells rc' el' fr') ∧ rc.size ≤ rc'.size
theorem AV.tr_isAgg (f : Nat → Option Nat) (v : AV) : (v.tr f).isAgg = v.isAgg := by
  cases v with
  | ptr id p o => simp only [AV.tr]; cases f id <;> rfl
  | tsl id p i o s n => simp only [AV.tr]; cases f id <;> rfl
  | arrp id p i o s n => simp only [AV.tr]; cases f id <;> rfl
  | map id => simp only [AV.tr]; cases f id <;> rfl
  | _ => rfl
mutual
theorem RC.tr {f : Nat → Option Nat} {c c' : Ctx} (h : Ctx.Le f c c') : ∀ {v : AV} {cs : List Value}, RC c v cs → RC c' (v.tr f) cs
  | _, _, .int k x => .int k x
  | _, _, .bool b => .bool b
  | _, _, .str l => .str l
  | _, _, .pure d x cs hr => .pure d x cs (hr.mono h.ok)
  | _, _, .nilp => .nilp
  | _, _, .ptr id path off g o hb hr => by
    simp only [AV.tr]
    split
    · rename_i j hj
      obtain ⟨h1, h2⟩ := h.born id j hb hj
      exact .ptr j path off g o h1 (h2.trans hr)
    · exact .dead _ rfl
  | _, _, .arrp id path i off sz n g o hb hr => by
    simp only [AV.tr]
    split
    · rename_i j hj
      obtain ⟨h1, h2⟩ := h.born id j hb hj
      exact .arrp j path i off sz n g o h1 (h2.trans hr)
    · exact .dead _ rfl
  | _, _, .ept own d x b o rc el fr flat hok hh hr hf => by
    have := h.ok own b hok (by rw [hh]; exact Option.some_ne_none _)
    exact .ept own d x b o rc el fr flat this.1 (this.2.trans hh) (hr.mono h.ok) hf
  | _, _, .nilsl => .nilsl
  | _, _, .tsl id path i off sz len g o cap A hb hr hl hA rc el fr hh hs => by
    simp only [AV.tr]
    split
    · rename_i j hj
      obtain ⟨h1, h2⟩ := h.born id j hb hj
      obtain ⟨rc', el', fr', h3, h4⟩ := h.size id j g o hb hj hr rc el fr hh
      exact .tsl j path i off sz len g o cap A h1 (h2.trans hr) hl hA rc' el' fr' h3 (by omega)
    · exact .dead _ rfl
  | _, _, .tslv id path i off sz len hb hr h0 => by
    simp only [AV.tr]
    split
    · rename_i j hj
      obtain ⟨h1, h2⟩ := h.born id j hb hj
      exact .tslv j path i off sz len h1 (h2.trans hr) h0
    · exact .dead _ rfl
  | _, _, .nmap => .nmap
  | _, _, .map id g hb hr => by
    simp only [AV.tr]
    split
    · rename_i j hj
      obtain ⟨h1, h2⟩ := h.born id j hb hj
      exact .map j g h1 (h2.trans hr)
    · exact .dead _ rfl
  | _, _, .nilFunc => .nilFunc
  | _, _, .func fn a b x y ha hb => .func fn _ _ x y (RVs.tr h ha) (RVs.tr h hb)
  | _, _, .nilIface => .nilIface
  | _, _, .iface t v x hv => .iface t _ x (RV.tr h hv)
  | _, _, .agg l cs hl => .agg _ cs (RCs.tr h hl)
  | _, _, .dead x hx => .dead x hx
theorem RCs.tr {f : Nat → Option Nat} {c c' : Ctx} (h : Ctx.Le f c c') : ∀ {v : List AV} {cs : List Value}, RCs c v cs → RCs c' (AV.tr.trL f v) cs
  | _, _, .nil => .nil
  | _, _, .cons v r c1 c2 hv hr => .cons _ _ c1 c2 (RC.tr h hv) (RCs.tr h hr)
theorem RV.tr {f : Nat → Option Nat} {c c' : Ctx} (h : Ctx.Le f c c') : ∀ {v : AV} {x : Value}, RV c v x → RV c' (v.tr f) x
  | _, _, .one v x hv hc => .one _ x (by rw [AV.tr_isAgg]; exact hv) (RC.tr h hc)
  | _, _, .agg v a hv hc => .agg _ a (by rw [AV.tr_isAgg]; exact hv) (RC.tr h hc)
  | _, _, .tuple l x hl => .tuple _ x (RVs.tr h hl)
theorem RVs.tr {f : Nat → Option Nat} {c c' : Ctx} (h : Ctx.Le f c c') : ∀ {v : List AV} {x : List Value}, RVs c v x → RVs c' (AV.tr.trL f v) x
  | _, _, .nil => .nil
  | _, _, .cons v r x y hv hr => .cons _ _ x y (RV.tr h hv) (RVs.tr h hr)
end
mutual
theorem AV.tr_some : ∀ v : AV, v.tr some = v
  | .int _ _ => rfl | .bool _ => rfl | .str _ => rfl | .pure _ _ => rfl | .nilp => rfl | .ptr _ _ _ => rfl | .arrp _ _ _ _ _ _ => rfl | .ept _ _ _ => rfl | .nilsl => rfl | .tsl _ _ _ _ _ _ => rfl | .nmap => rfl | .map _ => rfl
  | .nilFunc => rfl | .func fn a b => by simp only [AV.tr, AV.trL_some a, AV.trL_some b]
  | .nilIface => rfl | .iface t v => by simp only [AV.tr, AV.tr_some v]
  | .agg l => by simp only [AV.tr, AV.trL_some l]
  | .tuple l => by simp only [AV.tr, AV.trL_some l]
  | .dead => rfl
theorem AV.trL_some : ∀ l : List AV, AV.tr.trL some l = l
  | [] => rfl
  | v :: r => by simp only [AV.tr.trL, AV.tr_some v, AV.trL_some r]
end
theorem RV.mono {c c' : Ctx} (h : Ctx.Le some c c') {v : AV} {x : Value} (hv : RV c v x) : RV c' v x := by
  have := hv.tr h; rwa [AV.tr_some] at this
theorem RC.mono {c c' : Ctx} (h : Ctx.Le some c c') {v : AV} {x : List Value} (hv : RC c v x) : RC c' v x := by
  have := hv.tr h; rwa [AV.tr_some] at this
theorem RVs.mono {c c' : Ctx} (h : Ctx.Le some c c') {v : List AV} {x : List Value} (hv : RVs c v x) : RVs c' v x := by
  have := hv.tr h; rwa [AV.trL_some] at this
mutual
theorem RC.one {c : Ctx} : ∀ {v : AV} {cs : List Value}, RC c v cs → ∀ u ∈ cs, u.oneCell' = true
  | _, _, .int k x, u, hu => by simp at hu; subst hu; rfl
  | _, _, .bool b, u, hu => by simp at hu; subst hu; rfl
  | _, _, .str l, u, hu => by simp at hu; subst hu; rfl
  | _, _, .pure d x cs hr, u, hu => hr.one u hu
  | _, _, .nilp, u, hu => by simp at hu; subst hu; rfl
  | _, _, .ptr .., u, hu => by simp at hu; subst hu; rfl
  | _, _, .arrp .., u, hu => by simp at hu; subst hu; rfl
  | _, _, .ept .., u, hu => by simp at hu; subst hu; rfl
  | _, _, .nilsl, u, hu => by simp at hu; subst hu; rfl
  | _, _, .tsl .., u, hu => by simp at hu; subst hu; rfl
  | _, _, .tslv .., u, hu => by simp at hu; subst hu; rfl
  | _, _, .nmap, u, hu => by simp at hu; subst hu; rfl
  | _, _, .map .., u, hu => by simp at hu; subst hu; rfl
  | _, _, .nilFunc, u, hu => by simp at hu; subst hu; rfl
  | _, _, .func .., u, hu => by simp at hu; subst hu; rfl
  | _, _, .nilIface, u, hu => by simp at hu; subst hu; rfl
  | _, _, .iface .., u, hu => by simp at hu; subst hu; rfl
  | _, _, .agg l cs hl, u, hu => RCs.one hl u hu
  | _, _, .dead x hx, u, hu => by simp at hu; subst hu; exact hx
theorem RCs.one {c : Ctx} : ∀ {v : List AV} {cs : List Value}, RCs c v cs → ∀ u ∈ cs, u.oneCell' = true
  | _, _, .nil, u, hu => by simp at hu
  | _, _, .cons v r c1 c2 hv hr, u, hu => by
    rcases List.mem_append.1 hu with hu | hu
    · exact RC.one hv u hu
    · exact RCs.one hr u hu
end
theorem RC.ofKd {c : Ctx} {d : Kd} {x : d.T} {cs : List Value} (h : Reads c.ok c.hp d x cs) : RC c (.ofKd d x) cs := by
  cases d <;> simp only [AV.ofKd] <;> first
    | exact .pure _ _ _ h
    | (cases h; first | exact .int _ _ | exact .bool _ | exact .str _)
end Go.Vc

namespace Go.Vc
inductive Slot where
  | unborn | dead | live (b : AV)
def Slot.tr (f : Nat → Option Nat) : Slot → Slot
  | .live b => .live (b.tr f) | s => s
structure AS where
  tmps : List (Option AV)
  heap : List Slot
def AS.blk (S : AS) (id : Nat) : Slot := S.heap.getD id .unborn
def setAt (l : List Slot) (i : Nat) (s : Slot) : List Slot :=
  match l, i with
  | [], 0 => [s]
  | [], i + 1 => .unborn :: setAt [] i s
  | _ :: r, 0 => s :: r
  | x :: r, i + 1 => x :: setAt r i s
theorem setAt_getD (l : List Slot) (i j : Nat) (s : Slot) : (setAt l i s).getD j .unborn = if j = i then s else l.getD j .unborn := by
  induction l generalizing i j with
  | nil =>
    induction i generalizing j with
    | zero => cases j <;> simp [setAt]
    | succ i ih =>
      cases j with
      | zero => simp [setAt]
      | succ j => simp only [setAt, List.getD_cons_succ, ih]; simp
  | cons x r ih =>
    cases i with
    | zero => cases j <;> simp [setAt]
    | succ i =>
      cases j with
      | zero => simp [setAt]
      | succ j => simp only [setAt, List.getD_cons_succ, ih]; simp
structure PD where
  d : Kd
  x : d.T
structure Env where
  F : Nat → Prop
  w0 : World
  T : Nat → Prop
  ρ0 : Nat → Option (Nat × Nat)
  pin : Nat → Prop
  glob : Nat → Option PD
  hF : ∀ g, F g → g < w0.heap.size
def ctx (E : Env) (ρ : Nat → Option (Nat × Nat)) (blk : Nat → Slot) (w : World) : Ctx where
  ok := fun own b => (∀ id bl o, blk id = .live bl → ρ id ≠ some (b, o)) ∧ (own = true → ¬ E.F b)
  weak := fun b h => ⟨h.1, fun e => by cases e⟩
  born := fun id => blk id ≠ .unborn
  ρ := ρ
  hp := fun b => w.heap[b]?
def Fz (lo hi n : Nat) : Prop := lo ≤ hi ∧ ∀ i, i < n → ¬ (lo ≤ i ∧ i < hi)
def AV.emptyRow : AV → Prop
  | .pure (.arr n d) x => n = 0 ∧ List.length (α := d.T) x = 0
  | _ => False
def AV.isTup : AV → Bool | .tuple _ => true | _ => false
theorem AV.not_tup {v : AV} (h : v.isTup = false) : ∀ l, v ≠ .tuple l := by intro l e; subst e; cases h
def keyR (d : Kd) (x : d.T) (v : Value) : Prop := ∀ c : Ctx, RV c (.ofKd d x) v
def keyOK : (d : Kd) → d.T → Prop
  | .str, l => List.length (α := UInt8) l ≤ 1000000000
  | _, _ => True
def keq : (d : Kd) → d.T → d.T → Bool
  | .str, x, y => decide ((x : List UInt8) = y)
  | .arr _ (.int .u8), x, y => decide ((x : List UInt8) = y)
  | _, _, _ => false
def memK (d : Kd) (xs : List d.T) (x : d.T) : Bool := List.any xs fun y => keq d x y
def entR (d : Kd) : List d.T → List MapEntry → Prop
  | [], [] => True
  | x :: xs, e :: es => keyOK d x ∧ keyR d x e.key ∧ e.val = .bool true ∧ entR d xs es
  | _, _ => False
def RM (c : Ctx) (b : AV) (g o : Nat) : Prop :=
  o = 0 ∧ ∃ (d : Kd) (xs : List d.T) (es : Array MapEntry) (clock : Nat), b = .tuple [.pure (.arr 0 d) xs] ∧ c.hp g = some (.map es clock) ∧ entR d xs es.toList
def RB (c : Ctx) (b : AV) : Option (Nat × Nat) → Prop
  | none => b.emptyRow
  | some (g, o) => (∃ rc el lo hi flat, c.hp g = some (.cells rc el (lo, hi)) ∧ Fz lo hi rc.size ∧ RC c b flat ∧ (rc.toList.drop o).take flat.length = flat ∧ o + flat.length ≤ rc.size) ∨ RM c b g o
theorem RB.cl {c : Ctx} {b : AV} {g o : Nat} (h : RB c b (some (g, o))) (hn : ∀ l, b ≠ .tuple l) :
    ∃ rc el lo hi flat, c.hp g = some (.cells rc el (lo, hi)) ∧ Fz lo hi rc.size ∧ RC c b flat ∧ (rc.toList.drop o).take flat.length = flat ∧ o + flat.length ≤ rc.size := by
  rcases h with h | ⟨_, _, _, _, _, e, _⟩
  · exact h
  · exact (hn _ e).elim
theorem RB.obj {c : Ctx} {b : AV} {g o : Nat} (h : RB c b (some (g, o))) : ∃ x, c.hp g = some x := by
  rcases h with ⟨_, _, _, _, _, h, _⟩ | ⟨_, _, _, _, _, _, h, _⟩ <;> exact ⟨_, h⟩
structure Kept (T : Nat → Prop) (w0 w : World) : Prop where
  os : w.os = w0.os
  tape : w.tape = w0.tape
  output : w.output = w0.output
  size : w0.heap.size ≤ w.heap.size
  block : ∀ k, k < w0.heap.size → ¬ T k → w.heap[k]? = w0.heap[k]?
  cells : ∀ (k : Nat) (rc : Array Value) (el : TypeId) (fr : Nat × Nat), w0.heap[k]? = some (.cells rc el fr) → ∃ rc' el' fr', w.heap[k]? = some (.cells rc' el' fr') ∧ rc.size ≤ rc'.size
theorem Kept.refl (T : Nat → Prop) (w : World) : Kept T w w := ⟨rfl, rfl, rfl, Nat.le_refl _, fun _ _ _ => rfl, fun k rc el fr h => ⟨rc, el, fr, h, Nat.le_refl _⟩⟩
theorem Kept.trans {T T' : Nat → Prop} {a b c : World} (h : Kept T a b) (k : Kept T' b c) (ht : ∀ g, T' g → g < a.heap.size → T g) : Kept T a c :=
  ⟨k.os.trans h.os, k.tape.trans h.tape, k.output.trans h.output, Nat.le_trans h.size k.size, fun i hi hn => (k.block i (Nat.lt_of_lt_of_le hi h.size) (fun e => hn (ht i e hi))).trans (h.block i hi hn),
    fun g rc el fr hg => by
      obtain ⟨rc1, el1, fr1, h1, h2⟩ := h.cells g rc el fr hg
      obtain ⟨rc2, el2, fr2, h3, h4⟩ := k.cells g rc1 el1 fr1 h1
      exact ⟨rc2, el2, fr2, h3, Nat.le_trans h2 h4⟩⟩
structure Rel (E : Env) (ρ : Nat → Option (Nat × Nat)) (S : AS) (a : Act) (w : World) : Prop where
  len : S.tmps.length = a.tmps.size
  df : a.defers = []
  tm : ∀ (i : Nat) (v : AV), S.tmps[i]? = some (some v) → ∃ V, a.tmps[i]? = some V ∧ RV (ctx E ρ S.blk w) v V
  hb : ∀ id b, S.blk id = .live b → RB (ctx E ρ S.blk w) b (ρ id)
  inj : ∀ id id' b b' g o o', S.blk id = .live b → S.blk id' = .live b' → ρ id = some (g, o) → ρ id' = some (g, o') → id = id'
  nf : ∀ id b g o, S.blk id = .live b → ρ id = some (g, o) → ¬ E.F g ∧ (E.w0.heap.size ≤ g ∨ E.T g)
  fr : Kept E.T E.w0 w
  pn : ∀ id, E.pin id → S.blk id ≠ .unborn ∧ ρ id = E.ρ0 id
  gl : ∀ (g : Nat) (pd : PD), E.glob g = some pd → RV (ctx E ρ S.blk w) (.ept true pd.d pd.x) (.pointer (some ⟨g, 0, none⟩))
theorem Rel.same {E : Env} {ρ : Nat → Option (Nat × Nat)} {S S' : AS} {a : Act} {w : World} (h : Rel E ρ S a w) (ht : S'.tmps = S.tmps) (hb : ∀ id, S'.blk id = S.blk id) : Rel E ρ S' a w := by
  have hb' : S'.blk = S.blk := funext hb
  exact ⟨by rw [ht]; exact h.len, h.df, by rw [ht, hb']; exact h.tm, by rw [hb']; exact h.hb, by rw [hb']; exact h.inj, by rw [hb']; exact h.nf, h.fr, by rw [hb']; exact h.pn, by rw [hb']; exact h.gl⟩
def AS.put (S : AS) (dst : Option Nat) (v : Option AV) : AS :=
  match dst with
  | some d => { S with tmps := S.tmps.set d v }
  | none => S
theorem AS.put_blk (S : AS) (dst : Option Nat) (v : Option AV) : (S.put dst v).blk = S.blk := by
  cases dst <;> rfl
section
variable {E : Env} {ρ ρ' : Nat → Option (Nat × Nat)} {S S' : AS} {a a' : Act} {w w' : World}
theorem Act.put_tmps_size (a : Act) (dst : Option Nat) (V : Value) : (a.put dst V).tmps.size = a.tmps.size := by
  cases dst <;> simp [Act.put]
theorem Act.put_df (a : Act) (dst : Option Nat) (V : Value) : (a.put dst V).defers = a.defers := by
  cases dst <;> rfl
theorem tm_put {c c' : Ctx} {t : List (Option AV)} {tm : Array Value} (hlen : t.length = tm.size)
    (h : ∀ (i : Nat) (v : AV), t[i]? = some (some v) → ∃ V, tm[i]? = some V ∧ RV c' v V) (d : Nat) (v : Option AV) (V : Value) (hv : ∀ u, v = some u → RV c' u V) :
    ∀ (i : Nat) (u : AV), (t.set d v)[i]? = some (some u) → ∃ W, (tm.setIfInBounds d V)[i]? = some W ∧ RV c' u W := by
  intro i u hu
  rw [List.getElem?_set] at hu
  split at hu
  · rename_i hd
    subst hd
    split at hu
    · rename_i hlt
      injection hu with hu
      exact ⟨V, by rw [Array.getElem?_setIfInBounds_self, if_pos (by omega)], hv _ hu⟩
    · cases hu
  · rename_i hne
    obtain ⟨W, h1, h2⟩ := h i u hu
    exact ⟨W, by rw [Array.getElem?_setIfInBounds_ne (by omega)]; exact h1, h2⟩
theorem Rel.put (h : Rel E ρ S a w) (dst : Option Nat) (v : Option AV) (V : Value) (hv : ∀ u, v = some u → RV (ctx E ρ S.blk w) u V) : Rel E ρ (S.put dst v) (a.put dst V) w := by
  cases dst with
  | none => exact h
  | some d =>
    refine ⟨?_, h.df, ?_, h.hb, h.inj, h.nf, h.fr, h.pn, h.gl⟩
    · simp only [AS.put, List.length_set, Act.put, Array.size_setIfInBounds]; exact h.len
    · exact tm_put (c := ctx E ρ S.blk w) h.len h.tm d v V hv
theorem RB.tr {f : Nat → Option Nat} {c c' : Ctx} (h : Ctx.Le f c c') {b : AV} {r : Option (Nat × Nat)} (hr : RB c b r) (hs : ∀ g o, r = some (g, o) → c'.hp g = c.hp g) : RB c' (b.tr f) r := by
  cases r with
  | none =>
    cases b <;> first | exact hr.elim | exact hr
  | some p =>
    rcases hr with ⟨rc, el, lo, hi, flat, h1, h2, h3, h4, h5⟩ | ⟨h0, d, xs, es, clock, h1, h2, h3⟩
    · exact .inl ⟨rc, el, lo, hi, flat, (hs p.1 p.2 rfl).trans h1, h2, h3.tr h, h4, h5⟩
    · subst h1
      exact .inr ⟨h0, d, xs, es, clock, rfl, (hs p.1 p.2 rfl).trans h2, h3⟩
theorem Rel.world (h : Rel E ρ S a w) (hh : w'.heap = w.heap) (ho : w'.os = w.os) (ht : w'.tape = w.tape) (hu : w'.output = w.output) : Rel E ρ S a w' := by
  have hc : ctx E ρ S.blk w' = ctx E ρ S.blk w := by simp only [ctx, hh]
  exact ⟨h.len, h.df, by rw [hc]; exact h.tm, by rw [hc]; exact h.hb, h.inj, h.nf,
    ⟨ho.trans h.fr.os, ht.trans h.fr.tape, hu.trans h.fr.output, by rw [hh]; exact h.fr.size, by rw [hh]; exact h.fr.block, by rw [hh]; exact h.fr.cells⟩, h.pn, by rw [hc]; exact h.gl⟩
def upd {β : Type} (f : Nat → β) (i : Nat) (x : β) : Nat → β := fun j => if j = i then x else f j
theorem upd_same {β : Type} (f : Nat → β) (i : Nat) (x : β) : upd f i x i = x := by simp [upd]
theorem upd_ne {β : Type} (f : Nat → β) {i j : Nat} (x : β) (h : j ≠ i) : upd f i x j = f j := by simp [upd, h]
theorem le_alloc {n : Nat} (hnb : S.blk n = .unborn) (o : Obj) (b : AV) (base : Nat) : Ctx.Le some (ctx E ρ S.blk w) (ctx E (upd ρ n (some (w.heap.size, base))) (upd S.blk n (.live b)) { w with heap := w.heap.push o }) := by
  have hpush : ∀ k, k < w.heap.size → (w.heap.push o)[k]? = w.heap[k]? := fun k hk => by rw [Array.getElem?_push, if_neg (by omega)]
  have hlt : ∀ {k : Nat} {x : Obj}, w.heap[k]? = some x → k < w.heap.size := fun h => (Array.getElem?_eq_some_iff.1 h).1
  refine ⟨fun own k hk hne => ?_, fun id j hb hj => ?_, fun id j g o' hb hj hr rc el fr hh => ?_⟩
  · have hk' : k < w.heap.size := by
      simp only [ctx] at hne
      rcases Nat.lt_or_ge k w.heap.size with hlt | hge
      · exact hlt
      · exact absurd (Array.getElem?_eq_none hge) hne
    refine ⟨⟨fun id bl o' hl => ?_, hk.2⟩, hpush k hk'⟩
    by_cases hid : id = n
    · subst hid
      simp only [ctx, upd_same]
      intro e
      injection e with e
      injection e with e1 _
      omega
    · simp only [ctx, upd_ne _ _ hid] at hl ⊢
      exact hk.1 id bl o' hl
  · injection hj with hj
    subst hj
    have hid : id ≠ n := fun e => hb (by rw [e]; exact hnb)
    simp only [ctx, upd_ne _ _ hid]
    exact ⟨hb, trivial⟩
  · injection hj with hj
    subst hj
    exact ⟨rc, el, fr, (hpush g (hlt hh)).trans hh, Nat.le_refl _⟩
theorem Rel.alloc (h : Rel E ρ S a w) {n : Nat} (hnb : S.blk n = .unborn) (o : Obj) (b : AV) (base : Nat)
    (hk : ∀ ρ' c', c' = ctx E ρ' (upd S.blk n (.live b)) { w with heap := w.heap.push o } → ρ' = upd ρ n (some (w.heap.size, base)) → Ctx.Le some (ctx E ρ S.blk w) c' → RB c' b (some (w.heap.size, base)))
    (hS : S'.tmps = S.tmps) (hB : ∀ id, S'.blk id = upd S.blk n (.live b) id) (hw : w' = { w with heap := w.heap.push o }) :
    Rel E (upd ρ n (some (w.heap.size, base))) S' a w' := by
  subst hw
  have hB' : S'.blk = upd S.blk n (.live b) := funext hB
  have hle := le_alloc (E := E) (ρ := ρ) (w := w) hnb o b base
  have hb := hk _ _ rfl rfl hle
  have hlt : ∀ {k : Nat} {x : Obj}, w.heap[k]? = some x → k < w.heap.size := fun h => (Array.getElem?_eq_some_iff.1 h).1
  have hold : ∀ id bl g o', S.blk id = .live bl → ρ id = some (g, o') → g < w.heap.size := by
    intro id bl g o' hl hr
    have hrb := h.hb id bl hl
    rw [hr] at hrb
    obtain ⟨x, h1⟩ := RB.obj hrb
    exact hlt h1
  refine ⟨by rw [hS]; exact h.len, h.df, fun i v hv => ?_, fun id bl hl => ?_, fun id id' bl bl' g o1 o2 hl hl' hr hr' => ?_, fun id bl g o' hl hr => ?_, ?_, fun id hp => ?_, fun g pd hg => by rw [hB']; exact (h.gl g pd hg).mono hle⟩
  · rw [hS] at hv
    obtain ⟨V, h1, h2⟩ := h.tm i v hv
    rw [hB']
    exact ⟨V, h1, h2.mono hle⟩
  · rw [hB'] at hl ⊢
    by_cases hid : id = n
    · subst hid
      rw [upd_same] at hl ⊢
      injection hl with hl
      subst hl
      exact hb
    · rw [upd_ne _ _ hid] at hl ⊢
      have := RB.tr hle (h.hb id bl hl) (fun g o' hr => by
        have hg := hold id bl g o' hl hr
        show (w.heap.push o)[g]? = w.heap[g]?
        rw [Array.getElem?_push, if_neg (by omega)])
      rwa [AV.tr_some] at this
  · rw [hB'] at hl hl'
    by_cases hid : id = n
    · by_cases hid' : id' = n
      · omega
      · subst hid
        rw [upd_ne _ _ hid'] at hl' hr'
        rw [upd_same] at hr
        have hg := hold _ _ _ _ hl' hr'
        injection hr with hr
        injection hr with hr _
        omega
    · by_cases hid' : id' = n
      · subst hid'
        rw [upd_ne _ _ hid] at hl hr
        rw [upd_same] at hr'
        have hg := hold _ _ _ _ hl hr
        injection hr' with hr'
        injection hr' with hr' _
        omega
      · rw [upd_ne _ _ hid] at hl hr
        rw [upd_ne _ _ hid'] at hl' hr'
        exact h.inj id id' bl bl' g o1 o2 hl hl' hr hr'
  · rw [hB'] at hl
    by_cases hid : id = n
    · subst hid
      rw [upd_same] at hr
      injection hr with hr
      injection hr with hr _
      subst hr
      exact ⟨fun hf => by have := E.hF _ hf; have := h.fr.size; omega, .inl h.fr.size⟩
    · rw [upd_ne _ _ hid] at hl hr
      exact h.nf id bl g o' hl hr
  · exact ⟨h.fr.os, h.fr.tape, h.fr.output, Nat.le_trans h.fr.size (by simp), fun k hk hn => by
      rw [Array.getElem?_push, if_neg (by have := h.fr.size; omega)]
      exact h.fr.block k hk hn, fun g rc el fr hg => by
      obtain ⟨rc1, el1, fr1, h1, h2⟩ := h.fr.cells g rc el fr hg
      refine ⟨rc1, el1, fr1, ?_, h2⟩
      have := hlt h1
      show (w.heap.push o)[g]? = _
      rw [Array.getElem?_push, if_neg (by omega)]; exact h1⟩
  · obtain ⟨h1, h2⟩ := h.pn id hp
    have hid : id ≠ n := fun e => h1 (by rw [e]; exact hnb)
    rw [hB', upd_ne _ _ hid, upd_ne _ _ hid]
    exact ⟨h1, h2⟩
theorem lt_of_getElem?_some {α : Type} {l : Array α} {k : Nat} {x : α} (h : l[k]? = some x) : k < l.size := (Array.getElem?_eq_some_iff.1 h).1
theorem Rel.lt (h : Rel E ρ S a w) {id : Nat} {b : AV} {g o : Nat} (hl : S.blk id = .live b) (hr : ρ id = some (g, o)) : g < w.heap.size := by
  have hrb := h.hb id b hl
  rw [hr] at hrb
  obtain ⟨x, h1⟩ := RB.obj hrb
  exact lt_of_getElem?_some h1
theorem le_gen {f : Nat → Option Nat} {id : Nat} {b' : AV} {r' : Option (Nat × Nat)}
    (hf : ∀ i j, f i = some j → j = i ∧ (i ≠ id ∨ S.blk id = .unborn ∨ ρ id = r'))
    (hsame : ∀ (k : Nat) (x : Obj), w.heap[k]? = some x → (¬ ∃ b o, S.blk id = .live b ∧ ρ id = some (k, o)) → w'.heap[k]? = w.heap[k]?)
    (hsz : ∀ (k : Nat) (rc : Array Value) (el : TypeId) (fr : Nat × Nat), w.heap[k]? = some (.cells rc el fr) → ∃ rc' el' fr', w'.heap[k]? = some (.cells rc' el' fr') ∧ rc.size ≤ rc'.size)
    (hr' : ∀ g o, r' = some (g, o) → (∃ b o', S.blk id = .live b ∧ ρ id = some (g, o')) ∨ w.heap.size ≤ g) :
    Ctx.Le f (ctx E ρ S.blk w) (ctx E (upd ρ id r') (upd (fun j => (S.blk j).tr f) id (.live b')) w') := by
  refine ⟨fun own k hk hne => ?_, fun i j hb hj => ?_, fun i j g o' hb hj hr rc el fr hh => ?_⟩
  · obtain ⟨x, hx⟩ : ∃ x, w.heap[k]? = some x := Option.ne_none_iff_exists'.1 hne
    refine ⟨⟨fun i bl o' hl => ?_, hk.2⟩, hsame k x hx fun ⟨b, o, h1, h2⟩ => hk.1 id b o h1 h2⟩
    by_cases hid : i = id
    · subst hid
      simp only [ctx, upd_same]
      intro e
      rcases hr' _ _ e with ⟨b, o1, h1, h2⟩ | h1
      · exact hk.1 i b o1 h1 h2
      · have := lt_of_getElem?_some hx; omega
    · simp only [ctx, upd_ne _ _ hid] at hl ⊢
      cases hs : S.blk i with
      | live b => exact hk.1 i b o' hs
      | unborn => rw [hs] at hl; cases hl
      | dead => rw [hs] at hl; cases hl
  · obtain ⟨h1, h2⟩ := hf i j hj
    subst h1
    by_cases hid : j = id
    · subst hid
      rcases h2 with h2 | h2 | h2
      · exact absurd rfl h2
      · exact absurd h2 hb
      · simp only [ctx, upd_same]
        exact ⟨by simp, h2.symm⟩
    · simp only [ctx, upd_ne _ _ hid]
      refine ⟨?_, trivial⟩
      have hb' : S.blk j ≠ .unborn := hb
      cases hs : S.blk j with
      | live b => simp [Slot.tr]
      | unborn => exact absurd hs hb'
      | dead => simp [Slot.tr]
  · exact hsz g rc el fr hh
theorem Rel.evolve (h : Rel E ρ S a w) {f : Nat → Option Nat} {id : Nat} {b' : AV} {r' : Option (Nat × Nat)}
    (hf : ∀ i j, f i = some j → j = i ∧ (i ≠ id ∨ S.blk id = .unborn ∨ ρ id = r'))
    (hsame : ∀ (k : Nat) (x : Obj), w.heap[k]? = some x → (¬ ∃ b o, S.blk id = .live b ∧ ρ id = some (k, o)) → w'.heap[k]? = w.heap[k]?)
    (hsz : ∀ (k : Nat) (rc : Array Value) (el : TypeId) (fr : Nat × Nat), w.heap[k]? = some (.cells rc el fr) → ∃ rc' el' fr', w'.heap[k]? = some (.cells rc' el' fr') ∧ rc.size ≤ rc'.size)
    (hr' : ∀ g o, r' = some (g, o) → (∃ b o', S.blk id = .live b ∧ ρ id = some (g, o')) ∨ w.heap.size ≤ g)
    (hrb : ∀ c', c' = ctx E (upd ρ id r') (upd (fun j => (S.blk j).tr f) id (.live b')) w' → Ctx.Le f (ctx E ρ S.blk w) c' → RB c' b' r')
    (hpin : E.pin id → S.blk id ≠ .unborn ∧ r' = ρ id) (hsize : w.heap.size ≤ w'.heap.size) (ho : w'.os = w.os) (ht : w'.tape = w.tape) (hu : w'.output = w.output)
    (htm : S'.tmps = S.tmps.map (Option.map (AV.tr f))) (hB : ∀ j, S'.blk j = upd (fun j => (S.blk j).tr f) id (.live b') j) :
    Rel E (upd ρ id r') S' a w' := by
  have hB' : S'.blk = upd (fun j => (S.blk j).tr f) id (.live b') := funext hB
  have hle := le_gen (E := E) (b' := b') hf hsame hsz hr'
  have hb := hrb _ rfl hle
  refine ⟨by rw [htm, List.length_map]; exact h.len, h.df, fun i v hv => ?_, fun j bl hl => ?_, fun j j' bl bl' g o1 o2 hl hl' hr hrr => ?_, fun j bl g o' hl hr => ?_, ?_, fun j hp => ?_, fun g pd hg => by rw [hB']; exact (h.gl g pd hg).tr hle⟩
  · rw [htm, List.getElem?_map] at hv
    cases hu : S.tmps[i]? with
    | none => rw [hu] at hv; cases hv
    | some u =>
      rw [hu] at hv
      cases u with
      | none => cases hv
      | some u =>
        simp only [Option.map_some, Option.some.injEq] at hv
        subst hv
        obtain ⟨V, h1, h2⟩ := h.tm i u hu
        rw [hB']
        exact ⟨V, h1, h2.tr hle⟩
  · rw [hB'] at hl ⊢
    by_cases hid : j = id
    · subst hid
      rw [upd_same] at hl ⊢
      injection hl with hl
      subst hl
      exact hb
    · rw [upd_ne _ _ hid] at hl ⊢
      cases hs : S.blk j with
      | unborn => rw [hs] at hl; cases hl
      | dead => rw [hs] at hl; cases hl
      | live b =>
        rw [hs] at hl
        simp only [Slot.tr, Slot.live.injEq] at hl
        subst hl
        refine RB.tr hle (h.hb j b hs) fun g o' hr => ?_
        obtain ⟨x, hx⟩ : ∃ x, w.heap[g]? = some x := ⟨_, Array.getElem?_eq_getElem (h.lt hs hr)⟩
        exact hsame g x hx fun ⟨b2, o2, h1, h2⟩ => hid (h.inj j id b b2 g o' o2 hs h1 hr h2)
  · rw [hB'] at hl hl'
    have key : ∀ (j : Nat) (bl : AV) (g o : Nat), j ≠ id → upd (fun j => (S.blk j).tr f) id (.live b') j = .live bl → ∃ b, S.blk j = .live b := by
      intro j bl g o hid hl
      rw [upd_ne _ _ hid] at hl
      cases hs : S.blk j with
      | unborn => rw [hs] at hl; cases hl
      | dead => rw [hs] at hl; cases hl
      | live b => exact ⟨b, rfl⟩
    by_cases hid : j = id
    · by_cases hid' : j' = id
      · omega
      · obtain ⟨b2, hb2⟩ := key j' bl' g o2 hid' hl'
        subst hid
        rw [upd_ne _ _ hid'] at hrr
        rw [upd_same] at hr
        rcases hr' _ _ hr with ⟨b3, o3, h3, h4⟩ | h3
        · exact (h.inj j j' b3 b2 g o3 o2 h3 hb2 h4 hrr)
        · have := h.lt hb2 hrr; omega
    · obtain ⟨b2, hb2⟩ := key j bl g o1 hid hl
      rw [upd_ne _ _ hid] at hr
      by_cases hid' : j' = id
      · subst hid'
        rw [upd_same] at hrr
        rcases hr' _ _ hrr with ⟨b3, o3, h3, h4⟩ | h3
        · exact (h.inj j j' b2 b3 g o1 o3 hb2 h3 hr h4)
        · have := h.lt hb2 hr; omega
      · obtain ⟨b3, hb3⟩ := key j' bl' g o2 hid' hl'
        rw [upd_ne _ _ hid'] at hrr
        exact h.inj j j' b2 b3 g o1 o2 hb2 hb3 hr hrr
  · rw [hB'] at hl
    by_cases hid : j = id
    · subst hid
      rw [upd_same] at hr
      rcases hr' _ _ hr with ⟨b3, o3, h3, h4⟩ | h3
      · exact h.nf j b3 g o3 h3 h4
      · exact ⟨fun hF => by have := E.hF _ hF; have := h.fr.size; omega, .inl (Nat.le_trans h.fr.size h3)⟩
    · rw [upd_ne _ _ hid] at hl hr
      cases hs : S.blk j with
      | unborn => rw [hs] at hl; cases hl
      | dead => rw [hs] at hl; cases hl
      | live b => exact h.nf j b g o' hs hr
  · refine ⟨ho.trans h.fr.os, ht.trans h.fr.tape, hu.trans h.fr.output, Nat.le_trans h.fr.size hsize, fun k hk hn => ?_, fun g rc el fr hg => by
      obtain ⟨rc1, el1, fr1, h1, h2⟩ := h.fr.cells g rc el fr hg
      obtain ⟨rc2, el2, fr2, h3, h4⟩ := hsz g rc1 el1 fr1 h1
      exact ⟨rc2, el2, fr2, h3, Nat.le_trans h2 h4⟩⟩
    have hlt : k < w.heap.size := Nat.lt_of_lt_of_le hk h.fr.size
    rw [hsame k _ (Array.getElem?_eq_getElem hlt) fun ⟨b2, o2, h1, h2⟩ => ?_]
    · exact h.fr.block k hk hn
    · rcases (h.nf id b2 k o2 h1 h2).2 with h3 | h3
      · omega
      · exact hn h3
  · obtain ⟨h1, h2⟩ := h.pn j hp
    rw [hB']
    by_cases hid : j = id
    · subst hid
      obtain ⟨h3, h4⟩ := hpin hp
      rw [upd_same, upd_same]
      exact ⟨by simp, h4.trans h2⟩
    · rw [upd_ne _ _ hid, upd_ne _ _ hid]
      refine ⟨?_, h2⟩
      cases hs : S.blk j with
      | unborn => exact absurd hs h1
      | dead => simp [Slot.tr]
      | live b => simp [Slot.tr]
theorem Slot.tr_some (s : Slot) : s.tr some = s := by cases s <;> simp [Slot.tr, AV.tr_some]
theorem map_tr_some (l : List (Option AV)) : l.map (Option.map (AV.tr some)) = l := by
  induction l with
  | nil => rfl
  | cons x r ih => cases x <;> simp [ih, AV.tr_some]
theorem Rel.write (h : Rel E ρ S a w) {id : Nat} {b b' : AV} {g o : Nat} (hl : S.blk id = .live b) (hr : ρ id = some (g, o)) {rc rc' : Array Value} {el : TypeId} {lo hi : Nat}
    (hh : w.heap[g]? = some (.cells rc el (lo, hi))) (hfz : Fz lo hi rc.size) (hsz : rc'.size = rc.size)
    (hb' : ∀ c', Ctx.Le some (ctx E ρ S.blk w) c' → ∃ flat, RC c' b' flat ∧ (rc'.toList.drop o).take flat.length = flat ∧ o + flat.length ≤ rc'.size)
    (hS : S'.tmps = S.tmps) (hB : ∀ j, S'.blk j = upd S.blk id (.live b') j) (hw : w' = { w with heap := w.heap.setIfInBounds g (.cells rc' el (lo, hi)) }) : Rel E ρ S' a w' := by
  subst hw
  have hg := lt_of_getElem?_some hh
  have hsetg : (w.heap.setIfInBounds g (.cells rc' el (lo, hi)))[g]? = some (.cells rc' el (lo, hi)) := by rw [Array.getElem?_setIfInBounds_self, if_pos hg]
  have hset : ∀ k, k ≠ g → (w.heap.setIfInBounds g (.cells rc' el (lo, hi)))[k]? = w.heap[k]? := fun k hk => by rw [Array.getElem?_setIfInBounds_ne (by omega)]
  have he : upd ρ id (ρ id) = ρ := funext fun j => by
    by_cases hj : j = id
    · subst hj; rw [upd_same]
    · rw [upd_ne _ _ hj]
  have hbl : upd (fun j => (S.blk j).tr some) id (.live b') = upd S.blk id (.live b') := by
    congr 1
    exact funext fun j => Slot.tr_some _
  have := h.evolve (S' := S') (w' := { w with heap := w.heap.setIfInBounds g (.cells rc' el (lo, hi)) }) (f := some) (id := id) (b' := b') (r' := ρ id)
    (fun i j e => ⟨by injection e with e; exact e.symm, .inr (.inr rfl)⟩)
    (fun k x hx hn => hset k fun e => hn ⟨b, o, hl, by rw [hr, e]⟩)
    (fun k rc0 el0 fr0 hk => by
      by_cases hkg : k = g
      · subst hkg
        rw [hh] at hk
        injection hk with hk
        injection hk with e1 e2 e3
        subst e1
        exact ⟨rc', el, (lo, hi), hsetg, by omega⟩
      · exact ⟨rc0, el0, fr0, by rw [hset k hkg]; exact hk, Nat.le_refl _⟩)
    (fun g' o' e => .inl ⟨b, o', hl, e⟩)
    (fun c' hc' hle => by
      obtain ⟨flat, h1, h2, h3⟩ := hb' c' hle
      rw [hr]
      exact .inl ⟨rc', el, lo, hi, flat, by rw [hc']; exact hsetg, ⟨hfz.1, fun i hi => hfz.2 i (by omega)⟩, h1, h2, h3⟩)
    (fun hp => ⟨by rw [hl]; simp, rfl⟩) (by simp) rfl rfl rfl (by rw [hS, map_tr_some]) (fun j => by rw [hbl]; exact hB j)
  rwa [he] at this
end
end Go.Vc

namespace Go.Vc
def IntT.zero : (k : IntKind) → IntT k
  | .u8 => (0 : UInt8) | .u16 => (0 : UInt16) | .u32 => (0 : UInt32) | .u64 => (0 : UInt64) | .i8 => (0 : Int) | .i16 => (0 : Int) | .i32 => (0 : Int) | .i64 => (0 : Int)
def Kd.dflt : (d : Kd) → d.T
  | .int k => IntT.zero k | .bool => false | .str => ([] : List UInt8) | .arr n d => List.replicate n d.dflt | .st d => d.dflt | .pair a b => (a.dflt, b.dflt) | .unit => () | .slice _ d => ([] : List d.T)
def Kd.beq : Kd → Kd → Bool
  | .int k, .int k' => decide (k = k') | .bool, .bool => true | .str, .str => true
  | .arr n d, .arr n' d' => decide (n = n') && d.beq d' | .st d, .st d' => d.beq d' | .pair a b, .pair a' b' => a.beq a' && b.beq b' | .unit, .unit => true
  | .slice o d, .slice o' d' => (o == o') && d.beq d' | _, _ => false
theorem Kd.eq_of_beq : ∀ {d d' : Kd}, d.beq d' = true → d = d'
  | .int k, d', h => by cases d' <;> simp_all [Kd.beq]
  | .bool, d', h => by cases d' <;> simp_all [Kd.beq]
  | .str, d', h => by cases d' <;> simp_all [Kd.beq]
  | .arr n d, d', h => by
    cases d' <;> simp [Kd.beq] at h
    obtain ⟨h1, h2⟩ := h
    rw [h1, Kd.eq_of_beq h2]
  | .st d, d', h => by
    cases d' <;> simp [Kd.beq] at h
    rw [Kd.eq_of_beq h]
  | .pair a b, d', h => by
    cases d' <;> simp [Kd.beq] at h
    rw [Kd.eq_of_beq h.1, Kd.eq_of_beq h.2]
  | .unit, d', h => by cases d' <;> simp_all [Kd.beq]
  | .slice o d, d', h => by
    cases d' <;> simp [Kd.beq] at h
    rw [h.1, Kd.eq_of_beq h.2]
theorem Kd.beq_self : ∀ d : Kd, d.beq d = true
  | .int k => by simp [Kd.beq] | .bool => rfl | .str => rfl | .arr n d => by simp [Kd.beq, Kd.beq_self d] | .st d => by simp [Kd.beq, Kd.beq_self d]
  | .pair a b => by simp [Kd.beq, Kd.beq_self a, Kd.beq_self b] | .unit => rfl | .slice o d => by simp [Kd.beq, Kd.beq_self d]
def castK (d d' : Kd) (x : d'.T) : Option d.T := if h : d.beq d' = true then some (Kd.eq_of_beq h ▸ x) else none
theorem castK_self (d : Kd) (x : d.T) : castK d d x = some x := by
  unfold castK; rw [dif_pos (Kd.beq_self d)]
theorem castK_some {d d' : Kd} {x : d'.T} {y : d.T} (h : castK d d' x = some y) : ∃ e : d = d', y = e ▸ x := by
  unfold castK at h
  split at h
  · rename_i hb
    injection h with h
    exact ⟨Kd.eq_of_beq hb, h.symm⟩
  · cases h
def castI (k k' : IntKind) (x : IntT k') : Option (IntT k) := castK (.int k) (.int k') x
theorem castI_self (k : IntKind) (x : IntT k) : castI k k x = some x := castK_self (.int k) x
def Kd.fields : (d : Kd) → d.T → Option (List AV)
  | .pair a b, x => match b.fields x.2 with | some r => some (.ofKd a x.1 :: r) | none => none
  | .unit, _ => some []
  | _, _ => none
def Kd.stF : (d : Kd) → d.T → Option (List AV)
  | .st d, x => d.fields x
  | _, _ => none
def Kd.of : (d : Kd) → AV → Option d.T
  | .int k, .int k' x => castI k k' x
  | .bool, .bool b => some b
  | .str, .str l => some l
  | .st d, .agg l => ofL d l
  | .st d, .pure d' x => match castK (.st d) d' x with | some y => some y | none => match d'.stF x with | some l => ofL d l | none => none
  | .arr n d, .pure d' x => castK (.arr n d) d' x
  | .slice o d, .pure (.slice o' d') x => if o' = true ∨ o = false then castK (.arr 0 d) (.arr 0 d') x else none
  | .slice _ d, .nilsl => some ([] : List d.T)
  | _, _ => none
where
  ofL : (d : Kd) → List AV → Option d.T
    | .pair a b, v :: r => match Kd.of a v, ofL b r with | some x, some y => some (x, y) | _, _ => none
    | .unit, [] => some ()
    | _, _ => none
theorem Kd.of_st_self (d : Kd) (x : d.T) : (Kd.st d).of (.pure (.st d) x) = some x := by
  simp only [Kd.of, castK_self (.st d) x]
def Kd.at : (d : Kd) → d.T → List Nat → Option AV
  | .arr _ d, x, i :: p => d.at (List.getD x i d.dflt) p
  | .st d, x, i :: p => d.at x (i :: p)
  | .pair a _, x, 0 :: p => a.at x.1 p
  | .pair _ b, x, (i + 1) :: p => b.at x.2 (i :: p)
  | d, x, [] => some (.ofKd d x)
  | _, _, _ => none
def Kd.ob : Kd → List Nat → List Prop
  | .arr n d, i :: p => (i < n) :: d.ob p
  | .st d, i :: p => d.ob (i :: p)
  | .pair a _, 0 :: p => a.ob p
  | .pair _ b, (i + 1) :: p => b.ob (i :: p)
  | _, _ => []
def Kd.off : Kd → List Nat → Nat
  | .arr _ d, i :: p => i * d.sz + d.off p
  | .st d, i :: p => d.off (i :: p)
  | .pair a _, 0 :: p => a.off p
  | .pair a b, (i + 1) :: p => a.sz + b.off (i :: p)
  | _, _ => 0
def Kd.set : (d : Kd) → d.T → List Nat → AV → Option d.T
  | .arr _ d, x, i :: p, v => match d.set (List.getD x i d.dflt) p v with | some y => some (List.set x i y) | none => none
  | .st d, x, i :: p, v => d.set x (i :: p) v
  | .pair a _, x, 0 :: p, v => match a.set x.1 p v with | some y => some (y, x.2) | none => none
  | .pair _ b, x, (i + 1) :: p, v => match b.set x.2 (i :: p) v with | some y => some (x.1, y) | none => none
  | d, _, [], v => d.of v
  | _, _, _, _ => none
mutual
def AV.size : AV → Nat
  | .pure d _ => d.sz | .agg l => AV.sizeL l | _ => 1
def AV.sizeL : List AV → Nat
  | [] => 0 | v :: r => v.size + AV.sizeL r
end
theorem AV.size_ofKd (d : Kd) (x : d.T) : (AV.ofKd d x).size = d.sz := by cases d <;> rfl
mutual
theorem RC.len {c : Ctx} : ∀ {v : AV} {cs : List Value}, RC c v cs → cs.length = v.size
  | _, _, .int .. => rfl | _, _, .bool .. => rfl | _, _, .str .. => rfl
  | _, _, .pure d x cs h => h.len
  | _, _, .nilp => rfl | _, _, .ptr .. => rfl | _, _, .arrp .. => rfl | _, _, .ept .. => rfl | _, _, .nilsl => rfl | _, _, .tsl .. => rfl | _, _, .tslv .. => rfl
  | _, _, .nmap => rfl | _, _, .map .. => rfl | _, _, .nilFunc => rfl | _, _, .func .. => rfl | _, _, .nilIface => rfl | _, _, .iface .. => rfl
  | _, _, .agg l cs h => RCs.len h
  | _, _, .dead .. => rfl
theorem RCs.len {c : Ctx} : ∀ {v : List AV} {cs : List Value}, RCs c v cs → cs.length = AV.sizeL v
  | _, _, .nil => rfl
  | _, _, .cons v r c1 c2 hv hr => by rw [List.length_append, RC.len hv, RCs.len hr]; rfl
end
theorem castK_reads {ok hp} {d d' : Kd} {x : d'.T} {y : d.T} {cs : List Value} (h : castK d d' x = some y) (hr : Reads ok hp d' x cs) : Reads ok hp d y cs := by
  obtain ⟨e, hy⟩ := castK_some h
  subst e
  subst hy
  exact hr
theorem Kd.fields_sound {c : Ctx} : ∀ {d : Kd} {x : d.T} {l : List AV} {cs : List Value}, d.fields x = some l → Reads c.ok c.hp d x cs → RCs c l cs
  | .pair a b, x, l, cs, h, hr => by
    simp only [Kd.fields] at h
    split at h
    · rename_i r hr'
      injection h with h
      subst h
      obtain ⟨c1, c2, e, h1, h2⟩ := hr
      subst e
      exact .cons _ _ _ _ (RC.ofKd h1) (Kd.fields_sound hr' h2)
    · cases h
  | .unit, x, l, cs, h, hr => by
    simp only [Kd.fields, Option.some.injEq] at h
    subst h
    have : cs = [] := hr
    subst this
    exact .nil
  | .int _, _, _, _, h, _ => by cases h
  | .bool, _, _, _, h, _ => by cases h
  | .str, _, _, _, h, _ => by cases h
  | .arr _ _, _, _, _, h, _ => by cases h
  | .st _, _, _, _, h, _ => by cases h
  | .slice _ _, _, _, _, h, _ => by cases h
theorem Kd.stF_sound {c : Ctx} {d : Kd} {x : d.T} {l : List AV} {cs : List Value} (h : d.stF x = some l) (hr : Reads c.ok c.hp d x cs) : RCs c l cs := by
  cases d <;> simp only [Kd.stF, reduceCtorEq] at h
  exact Kd.fields_sound h hr
mutual
theorem Kd.of_sound {c : Ctx} : ∀ {d : Kd} {u : AV} {cu : List Value} {y : d.T}, d.of u = some y → RC c u cu → Reads c.ok c.hp d y cu
  | .int k, u, cu, y, h, hc => by
    cases hc <;> simp only [Kd.of, reduceCtorEq] at h
    exact castK_reads (d := .int k) h rfl
  | .bool, u, cu, y, h, hc => by
    cases hc <;> simp only [Kd.of, reduceCtorEq] at h
    injection h with h; subst h; rfl
  | .str, u, cu, y, h, hc => by
    cases hc <;> simp only [Kd.of, reduceCtorEq] at h
    injection h with h; subst h; rfl
  | .st d, u, cu, y, h, hc => by
    cases hc with
    | agg l cs hl => simp only [Kd.of] at h; exact Kd.ofL_sound (d := d) h hl
    | pure d' x cs hr =>
      simp only [Kd.of] at h
      split at h
      · rename_i y' hy'
        injection h with h
        subst h
        exact castK_reads (d := .st d) hy' hr
      · split at h
        · rename_i l hl
          exact Kd.ofL_sound (d := d) h (Kd.stF_sound hl hr)
        · cases h
    | _ => simp [Kd.of] at h
  | .arr n d, u, cu, y, h, hc => by
    cases hc with
    | pure d' x cs hr => simp only [Kd.of] at h; exact castK_reads (d := .arr n d) h hr
    | _ => simp [Kd.of] at h
  | .pair a b, u, cu, y, h, hc => by cases hc <;> simp [Kd.of] at h
  | .unit, u, cu, y, h, hc => by cases hc <;> simp [Kd.of] at h
  | .slice o d, u, cu, y, h, hc => by
    cases hc with
    | nilsl =>
      simp only [Kd.of, Option.some.injEq] at h
      subst h
      exact ⟨none, 0, rfl, Nat.le_refl _, .inl rfl⟩
    | pure d' x cs hr =>
      cases d' <;> simp only [Kd.of, reduceCtorEq] at h
      rename_i o' d'
      split at h
      · rename_i ho
        obtain ⟨e, hy⟩ := castK_some h
        injection e with _ e
        subst e
        subst hy
        obtain ⟨A, cap, e1, e2, e3⟩ := hr
        refine ⟨A, cap, e1, e2, ?_⟩
        rcases e3 with e3 | ⟨b, off, rc, el, fr, flat, f1, f2, f3, f4, f5⟩
        · exact .inl e3
        · refine .inr ⟨b, off, rc, el, fr, flat, f1, ?_, f3, f4, f5⟩
          cases o <;> cases o' <;> first | exact f2 | exact c.weak _ f2 | (simp at ho)
      · cases h
    | _ => simp [Kd.of] at h
theorem Kd.ofL_sound {c : Ctx} : ∀ {d : Kd} {l : List AV} {cu : List Value} {y : d.T}, Kd.of.ofL d l = some y → RCs c l cu → Reads c.ok c.hp d y cu
  | .pair a b, l, cu, y, h, hc => by
    cases hc with
    | nil => simp [Kd.of.ofL] at h
    | cons v r c1 c2 hv hr =>
      simp only [Kd.of.ofL] at h
      split at h
      · rename_i x1 x2 h1 h2
        injection h with h
        subst h
        exact ⟨c1, c2, rfl, Kd.of_sound h1 hv, Kd.ofL_sound h2 hr⟩
      · cases h
  | .unit, l, cu, y, h, hc => by
    cases hc with
    | nil => rfl
    | cons => simp [Kd.of.ofL] at h
  | .int _, l, cu, y, h, hc => by cases l <;> simp [Kd.of.ofL] at h
  | .bool, l, cu, y, h, hc => by cases l <;> simp [Kd.of.ofL] at h
  | .str, l, cu, y, h, hc => by cases l <;> simp [Kd.of.ofL] at h
  | .st _, l, cu, y, h, hc => by cases l <;> simp [Kd.of.ofL] at h
  | .arr _ _, l, cu, y, h, hc => by cases l <;> simp [Kd.of.ofL] at h
  | .slice _ _, l, cu, y, h, hc => by cases l <;> simp [Kd.of.ofL] at h
end
theorem getD_some {α : Type} {l : List α} {i n : Nat} (x : α) (hn : l.length = n) (hi : i < n) : l[i]? = some (l.getD i x) := by
  rw [List.getD_eq_getElem?_getD, List.getElem?_eq_getElem (by omega)]; rfl
theorem sub_sub (cs : List Value) (o k q m : Nat) (h : q + m ≤ k) : (((cs.drop o).take k).drop q).take m = (cs.drop (o + q)).take m := by
  rw [List.drop_take, List.take_take, List.drop_drop, Nat.min_eq_left (by omega)]
theorem splice_sub (cs : List Value) (o k q : Nat) (new : List Value) (hk : o + k ≤ cs.length) (h : q + new.length ≤ k) : splice cs o (splice ((cs.drop o).take k) q new) = splice cs (o + q) new := by
  have e1 : ((cs.drop o).take k).take q = (cs.drop o).take q := by rw [List.take_take, Nat.min_eq_left (by omega)]
  have e2 : ((cs.drop o).take k).drop (q + new.length) = (cs.drop (o + q + new.length)).take (k - (q + new.length)) := by
    rw [List.drop_take, List.drop_drop]; congr 2; omega
  have hl : (splice ((cs.drop o).take k) q new).length = k := by rw [splice_length _ _ _ (by rw [List.length_take, List.length_drop]; omega), List.length_take, List.length_drop]; omega
  show cs.take o ++ splice _ q new ++ cs.drop (o + (splice _ q new).length) = _
  rw [hl]
  simp only [splice, e1, e2]
  have e3 : cs.take (o + q) = cs.take o ++ (cs.drop o).take q := by rw [List.take_add]
  have e4 : cs.drop (o + q + new.length) = (cs.drop (o + q + new.length)).take (k - (q + new.length)) ++ cs.drop (o + k) := by
    conv => lhs; rw [← List.take_append_drop (k - (q + new.length)) (cs.drop (o + q + new.length))]
    rw [List.drop_drop]; congr 2; omega
  conv => rhs; rw [e3, e4]
  simp only [List.append_assoc]
theorem Kd.at_sound {c : Ctx} : ∀ {d : Kd} {x : d.T} {p : List Nat} {u : AV} {cs : List Value}, Reads c.ok c.hp d x cs → d.at x p = some u → (∀ q ∈ d.ob p, q) →
    RC c u ((cs.drop (d.off p)).take u.size) ∧ d.off p + u.size ≤ cs.length
  | d, x, [], u, cs, hr, h, _ => by
    have hu : u = .ofKd d x := by cases d <;> simp only [Kd.at, Option.some.injEq] at h <;> exact h.symm
    have ho : d.off [] = 0 := by cases d <;> rfl
    have hl := hr.len
    subst hu
    rw [ho, AV.size_ofKd, List.drop_zero, ← hl, List.take_length]
    exact ⟨RC.ofKd hr, by omega⟩
  | .arr n d, x, i :: p, u, cs, hr, h, hob => by
    simp only [Kd.at] at h
    simp only [Kd.ob, List.mem_cons, forall_eq_or_imp] at hob
    have hg := getD_some d.dflt hr.1 hob.1
    have h1 := hr.2.get (fun _ _ hh => Reads.len hh) hg
    have hl := RL.len (fun _ _ hh => Reads.len hh) hr.2
    have hn : (i + 1) * d.sz ≤ cs.length := by rw [hl, hr.1]; exact Nat.mul_le_mul_right _ (by omega)
    rw [Nat.add_mul, Nat.one_mul] at hn
    obtain ⟨h2, h3⟩ := Kd.at_sound h1 h hob.2
    have h4 : ((cs.drop (i * d.sz)).take d.sz).length = d.sz := by rw [List.length_take, List.length_drop]; omega
    rw [h4] at h3
    rw [sub_sub _ _ _ _ _ h3] at h2
    exact ⟨h2, by simp only [Kd.off]; omega⟩
  | .st d, x, i :: p, u, cs, hr, h, hob => Kd.at_sound (d := d) hr h hob
  | .pair a b, x, 0 :: p, u, cs, hr, h, hob => by
    obtain ⟨c1, c2, e, h1, h2⟩ := hr
    subst e
    obtain ⟨h3, h4⟩ := Kd.at_sound (d := a) h1 h hob
    refine ⟨?_, by simp only [Kd.off, List.length_append]; omega⟩
    simp only [Kd.off]
    rw [List.drop_append_of_le_length (by omega), List.take_append_of_le_length (by rw [List.length_drop]; omega)]
    exact h3
  | .pair a b, x, (i + 1) :: p, u, cs, hr, h, hob => by
    obtain ⟨c1, c2, e, h1, h2⟩ := hr
    subst e
    obtain ⟨h3, h4⟩ := Kd.at_sound (d := b) h2 h hob
    have hl := h1.len
    refine ⟨?_, by simp only [Kd.off, List.length_append]; omega⟩
    simp only [Kd.off]
    rw [← hl, ← List.drop_drop, List.drop_left]
    exact h3
  | .int _, x, i :: p, u, cs, hr, h, hob => by simp [Kd.at] at h
  | .bool, x, i :: p, u, cs, hr, h, hob => by simp [Kd.at] at h
  | .str, x, i :: p, u, cs, hr, h, hob => by simp [Kd.at] at h
  | .unit, x, i :: p, u, cs, hr, h, hob => by simp [Kd.at] at h
  | .slice _ _, x, i :: p, u, cs, hr, h, hob => by simp [Kd.at] at h
theorem Kd.set_sound {c : Ctx} {u : AV} {cu : List Value} (hu : RC c u cu) : ∀ {d : Kd} {x y : d.T} {p : List Nat} {cs : List Value}, Reads c.ok c.hp d x cs → d.set x p u = some y → (∀ q ∈ d.ob p, q) →
    Reads c.ok c.hp d y (splice cs (d.off p) cu) ∧ d.off p + cu.length ≤ cs.length
  | d, x, y, [], cs, hr, h, _ => by
    have hy : d.of u = some y := by cases d <;> simpa only [Kd.set] using h
    have ho : d.off [] = 0 := by cases d <;> rfl
    have h1 := Kd.of_sound hy hu
    have hl := hr.len
    have hl1 := h1.len
    rw [ho]
    simp only [splice, List.take_zero, List.nil_append, Nat.zero_add]
    rw [hl1, ← hl, List.drop_length, List.append_nil]
    exact ⟨h1, by omega⟩
  | .arr n d, x, y, i :: p, cs, hr, h, hob => by
    simp only [Kd.set] at h
    simp only [Kd.ob, List.mem_cons, forall_eq_or_imp] at hob
    split at h
    · rename_i y' hy'
      injection h with h
      subst h
      have hg := getD_some d.dflt hr.1 hob.1
      have h1 := hr.2.get (fun _ _ hh => Reads.len hh) hg
      have hl := RL.len (fun _ _ hh => Reads.len hh) hr.2
      have hn : (i + 1) * d.sz ≤ cs.length := by rw [hl, hr.1]; exact Nat.mul_le_mul_right _ (by omega)
      rw [Nat.add_mul, Nat.one_mul] at hn
      obtain ⟨h2, h3⟩ := Kd.set_sound hu h1 hy' hob.2
      have h4 : ((cs.drop (i * d.sz)).take d.sz).length = d.sz := by rw [List.length_take, List.length_drop]; omega
      rw [h4] at h3
      have h5 := RL.set (R := Reads c.ok c.hp d) (fun _ _ hh => Reads.len hh) h2 i hr.2 (by rw [hr.1]; exact hob.1)
      rw [splice_sub _ _ _ _ _ (by omega) h3] at h5
      exact ⟨⟨by rw [List.length_set]; exact hr.1, h5⟩, by simp only [Kd.off]; omega⟩
    · cases h
  | .st d, x, y, i :: p, cs, hr, h, hob => Kd.set_sound (d := d) hu hr h hob
  | .pair a b, x, y, 0 :: p, cs, hr, h, hob => by
    simp only [Kd.set] at h
    split at h
    · rename_i y' hy'
      injection h with h
      subst h
      obtain ⟨c1, c2, e, h1, h2⟩ := hr
      subst e
      obtain ⟨h3, h4⟩ := Kd.set_sound (d := a) hu h1 hy' hob
      refine ⟨⟨_, c2, ?_, h3, h2⟩, by simp only [Kd.off, List.length_append]; omega⟩
      simp only [Kd.off, splice]
      rw [List.take_append_of_le_length (by omega), List.drop_append_of_le_length (by omega)]
      simp only [List.append_assoc]
    · cases h
  | .pair a b, x, y, (i + 1) :: p, cs, hr, h, hob => by
    simp only [Kd.set] at h
    split at h
    · rename_i y' hy'
      injection h with h
      subst h
      obtain ⟨c1, c2, e, h1, h2⟩ := hr
      subst e
      obtain ⟨h3, h4⟩ := Kd.set_sound (d := b) hu h2 hy' hob
      have hl := h1.len
      refine ⟨⟨c1, _, ?_, h1, h3⟩, by simp only [Kd.off, List.length_append]; omega⟩
      simp only [Kd.off, splice]
      rw [← hl, List.take_append, List.take_of_length_le (by omega), Nat.add_sub_cancel_left, Nat.add_assoc, ← List.drop_drop, List.drop_left]
      simp only [List.append_assoc]
    · cases h
  | .int _, x, y, i :: p, cs, hr, h, hob => by simp [Kd.set] at h
  | .bool, x, y, i :: p, cs, hr, h, hob => by simp [Kd.set] at h
  | .str, x, y, i :: p, cs, hr, h, hob => by simp [Kd.set] at h
  | .unit, x, y, i :: p, cs, hr, h, hob => by simp [Kd.set] at h
  | .slice _ _, x, y, i :: p, cs, hr, h, hob => by simp [Kd.set] at h
def AV.at : AV → List Nat → Option AV
  | v, [] => some v
  | .agg l, i :: p => match l[i]? with | some u => u.at p | none => none
  | .pure d x, i :: p => d.at x (i :: p)
  | _, _ => none
def AV.ob : AV → List Nat → List Prop
  | _, [] => []
  | .agg l, i :: p => match l[i]? with | some u => u.ob p | none => []
  | .pure d _, i :: p => d.ob (i :: p)
  | _, _ => []
def AV.off : AV → List Nat → Nat
  | _, [] => 0
  | .agg l, i :: p => AV.sizeL (l.take i) + (match l[i]? with | some u => u.off p | none => 0)
  | .pure d _, i :: p => d.off (i :: p)
  | _, _ => 0
def AV.setX : (d : Kd) → d.T → List Nat → AV → Option AV
  | .st d, x, [i], u => match d.fields x with
    | some l => match l[i]? with | some z => if u.size = z.size then some (.agg (l.set i u)) else none | none => none
    | none => none
  | _, _, _, _ => none
def AV.set : AV → List Nat → AV → Option AV
  | v, [], u => if u.size = v.size then some u else none
  | .agg l, i :: p, u => match l[i]? with
    | some x => match x.set p u with | some y => some (.agg (l.set i y)) | none => none
    | none => none
  | .pure d x, i :: p, u => match d.set x (i :: p) u with | some y => some (.pure d y) | none => AV.setX d x (i :: p) u
  | _, _, _ => none
theorem RCs.get {c : Ctx} : ∀ {l : List AV} {cs : List Value} {i : Nat} {u : AV}, RCs c l cs → l[i]? = some u →
    RC c u ((cs.drop (AV.sizeL (l.take i))).take u.size) ∧ AV.sizeL (l.take i) + u.size ≤ cs.length
  | _, _, i, u, .nil, hi => by simp at hi
  | _, _, 0, u, .cons v r c1 c2 hv hr, hi => by
    simp only [List.getElem?_cons_zero, Option.some.injEq] at hi
    subst hi
    have hl := hv.len
    refine ⟨?_, by simp [AV.sizeL]; omega⟩
    simp only [List.take_zero, AV.sizeL, List.drop_zero]
    rw [← hl, List.take_left]
    exact hv
  | _, _, i + 1, u, .cons v r c1 c2 hv hr, hi => by
    simp only [List.getElem?_cons_succ] at hi
    obtain ⟨h1, h2⟩ := RCs.get hr hi
    have hl := hv.len
    refine ⟨?_, by simp only [List.take_succ_cons, AV.sizeL, List.length_append]; omega⟩
    simp only [List.take_succ_cons, AV.sizeL]
    rw [← hl, ← List.drop_drop, List.drop_left]
    exact h1
theorem RCs.set {c : Ctx} {y : AV} {cy : List Value} (hy : RC c y cy) : ∀ {l : List AV} {cs : List Value} {i : Nat} {u : AV}, RCs c l cs → l[i]? = some u → cy.length = u.size →
    RCs c (l.set i y) (splice cs (AV.sizeL (l.take i)) cy)
  | _, _, i, u, .nil, hi, _ => by simp at hi
  | _, _, 0, u, .cons v r c1 c2 hv hr, hi, hs => by
    simp only [List.getElem?_cons_zero, Option.some.injEq] at hi
    subst hi
    have hl := hv.len
    have : splice (c1 ++ c2) (AV.sizeL ((v :: r).take 0)) cy = cy ++ c2 := by
      simp only [splice, List.take_zero, AV.sizeL, List.nil_append, Nat.zero_add]
      rw [hs, ← hl, List.drop_left]
    rw [this, List.set_cons_zero]
    exact .cons _ _ _ _ hy hr
  | _, _, i + 1, u, .cons v r c1 c2 hv hr, hi, hs => by
    simp only [List.getElem?_cons_succ] at hi
    have h1 := RCs.set hy hr hi hs
    have hl := hv.len
    have : splice (c1 ++ c2) (AV.sizeL ((v :: r).take (i + 1))) cy = c1 ++ splice c2 (AV.sizeL (r.take i)) cy := by
      simp only [splice, List.take_succ_cons, AV.sizeL]
      rw [← hl, List.take_append, List.take_of_length_le (by omega), Nat.add_sub_cancel_left, Nat.add_assoc, ← List.drop_drop, List.drop_left]
      simp only [List.append_assoc]
    rw [this, List.set_cons_succ]
    exact .cons _ _ _ _ hv h1
theorem Kd.fields_off : ∀ {d : Kd} {x : d.T} {l : List AV} {i : Nat}, d.fields x = some l → i < l.length → d.off [i] = AV.sizeL (l.take i)
  | .pair a b, x, l, i, h, hi => by
    simp only [Kd.fields] at h
    split at h
    · rename_i r hr
      injection h with h
      subst h
      cases i with
      | zero => cases a <;> simp [Kd.off, AV.sizeL]
      | succ i =>
        simp only [Kd.off, List.take_succ_cons, AV.sizeL, AV.size_ofKd]
        rw [Kd.fields_off hr (by simpa using hi)]
    · cases h
  | .unit, x, l, i, h, hi => by
    simp only [Kd.fields, Option.some.injEq] at h
    subst h
    simp at hi
  | .int _, _, _, _, h, _ => by cases h
  | .bool, _, _, _, h, _ => by cases h
  | .str, _, _, _, h, _ => by cases h
  | .arr _ _, _, _, _, h, _ => by cases h
  | .st _, _, _, _, h, _ => by cases h
  | .slice _ _, _, _, _, h, _ => by cases h
theorem AV.setX_sound {c : Ctx} {u : AV} {cu : List Value} (hu : RC c u cu) : ∀ {d : Kd} {x : d.T} {p : List Nat} {y : AV} {cs : List Value}, Reads c.ok c.hp d x cs → AV.setX d x p u = some y →
    RC c y (splice cs (d.off p) cu) ∧ d.off p + cu.length ≤ cs.length
  | .st d, x, [i], y, cs, hr, h => by
    simp only [AV.setX] at h
    split at h
    · rename_i l hl
      split at h
      · rename_i z hz
        split at h
        · rename_i hs
          injection h with h
          subst h
          have hc := Kd.fields_sound hl (show Reads c.ok c.hp d x cs from hr)
          have hi : i < l.length := (List.getElem?_eq_some_iff.1 hz).1
          have ho : Kd.off (.st d) [i] = AV.sizeL (l.take i) := by
            show Kd.off d [i] = _
            exact Kd.fields_off hl hi
          have hlu := hu.len
          obtain ⟨_, h2⟩ := hc.get hz
          rw [ho]
          exact ⟨.agg _ _ (hc.set hu hz (by rw [hlu, hs])), by omega⟩
        · cases h
      · cases h
    · cases h
  | .st _, _, [], _, _, _, h => by simp [AV.setX] at h
  | .st _, _, _ :: _ :: _, _, _, _, h => by simp [AV.setX] at h
  | .pair _ _, _, _, _, _, _, h => by simp [AV.setX] at h
  | .unit, _, _, _, _, _, h => by simp [AV.setX] at h
  | .int _, _, _, _, _, _, h => by simp [AV.setX] at h
  | .bool, _, _, _, _, _, h => by simp [AV.setX] at h
  | .str, _, _, _, _, _, h => by simp [AV.setX] at h
  | .arr _ _, _, _, _, _, _, h => by simp [AV.setX] at h
  | .slice _ _, _, _, _, _, _, h => by simp [AV.setX] at h
theorem AV.at_sound {c : Ctx} : ∀ {p : List Nat} {v u : AV} {cs : List Value}, RC c v cs → v.at p = some u → (∀ q ∈ v.ob p, q) → RC c u ((cs.drop (v.off p)).take u.size) ∧ v.off p + u.size ≤ cs.length
  | [], v, u, cs, hr, h, _ => by
    simp only [AV.at, Option.some.injEq] at h
    subst h
    have hl := hr.len
    simp only [AV.off, List.drop_zero]
    rw [← hl, List.take_length]
    exact ⟨hr, by omega⟩
  | i :: p, v, u, cs, hr, h, hob => by
    cases hr with
    | agg l cs hl =>
      simp only [AV.at] at h
      simp only [AV.ob] at hob
      simp only [AV.off]
      cases hi : l[i]? with
      | none => rw [hi] at h; cases h
      | some x =>
        rw [hi] at h hob
        simp only at h hob ⊢
        obtain ⟨h1, h2⟩ := hl.get hi
        obtain ⟨h3, h4⟩ := AV.at_sound h1 h hob
        have h5 : ((cs.drop (AV.sizeL (l.take i))).take x.size).length = x.size := by rw [List.length_take, List.length_drop]; omega
        rw [h5] at h4
        rw [sub_sub _ _ _ _ _ h4] at h3
        exact ⟨h3, by omega⟩
    | pure d x cs hd =>
      simp only [AV.at] at h
      exact Kd.at_sound hd h hob
    | _ => simp [AV.at] at h
theorem AV.set_sound {c : Ctx} {u : AV} {cu : List Value} (hu : RC c u cu) : ∀ {p : List Nat} {v y : AV} {cs : List Value}, RC c v cs → v.set p u = some y → (∀ q ∈ v.ob p, q) →
    RC c y (splice cs (v.off p) cu) ∧ v.off p + cu.length ≤ cs.length
  | [], v, y, cs, hr, h, _ => by
    simp only [AV.set] at h
    split at h
    · rename_i hs
      injection h with h
      subst h
      have hl := hr.len
      have hlu := hu.len
      simp only [AV.off, splice, List.take_zero, List.nil_append, Nat.zero_add]
      rw [hlu, hs, ← hl, List.drop_length, List.append_nil]
      exact ⟨hu, by omega⟩
    · cases h
  | i :: p, v, y, cs, hr, h, hob => by
    cases hr with
    | agg l cs hl =>
      simp only [AV.set] at h
      simp only [AV.ob] at hob
      simp only [AV.off]
      cases hi : l[i]? with
      | none => rw [hi] at h; cases h
      | some x =>
        rw [hi] at h hob
        simp only at h hob ⊢
        split at h
        · rename_i y' hy'
          injection h with h
          subst h
          obtain ⟨h1, h2⟩ := hl.get hi
          obtain ⟨h3, h4⟩ := AV.set_sound hu h1 hy' hob
          have h5 : ((cs.drop (AV.sizeL (l.take i))).take x.size).length = x.size := by rw [List.length_take, List.length_drop]; omega
          rw [h5] at h4
          have h6 := hl.set h3 hi (by rw [splice_length _ _ _ (by omega), h5])
          rw [splice_sub _ _ _ _ _ h2 (by omega)] at h6
          exact ⟨.agg _ _ h6, by omega⟩
        · cases h
    | pure d x cs hd =>
      simp only [AV.set] at h
      split at h
      · rename_i y' hy'
        injection h with h
        subst h
        obtain ⟨h1, h2⟩ := Kd.set_sound hu hd hy' hob
        exact ⟨.pure _ _ _ h1, h2⟩
      · exact AV.setX_sound hu hd h
    | _ => simp [AV.set] at h
end Go.Vc

namespace Go.Vc
def wrapT : (k : IntKind) → Int → IntT k
  | .u8, n => UInt8.ofInt n | .u16, n => UInt16.ofInt n | .u32, n => UInt32.ofInt n | .u64, n => UInt64.ofInt n
  | .i8, n => IntKind.i8.wrap n | .i16, n => IntKind.i16.wrap n | .i32, n => IntKind.i32.wrap n | .i64, n => IntKind.i64.wrap n
theorem toI_wrapT (k : IntKind) (n : Int) : toI k (wrapT k n) = k.wrap n := by
  cases k <;> simp only [toI, wrapT, IntKind.wrap_u8, IntKind.wrap_u16, IntKind.wrap_u32, IntKind.wrap_u64]
  · simp [UInt8.ofInt]; omega
  · simp [UInt16.ofInt]; omega
  · simp [UInt32.ofInt]; omega
  · simp [UInt64.ofInt]; omega
theorem toI_inj : ∀ {k : IntKind} {x y : IntT k}, toI k x = toI k y → x = y
  | .u8, x, y, h => by simp only [toI] at h; exact UInt8.toNat_inj.1 (by omega)
  | .u16, x, y, h => by simp only [toI] at h; exact UInt16.toNat_inj.1 (by omega)
  | .u32, x, y, h => by simp only [toI] at h; exact UInt32.toNat_inj.1 (by omega)
  | .u64, x, y, h => by simp only [toI] at h; exact UInt64.toNat_inj.1 (by omega)
  | .i8, x, y, h => h | .i16, x, y, h => h | .i32, x, y, h => h | .i64, x, y, h => h
def constI (k : IntKind) (n : Int) : Option AV := if toI k (wrapT k n) = n then some (.int k (wrapT k n)) else none
def addT : (k : IntKind) → IntT k → IntT k → IntT k
  | .u8, a, b => UInt8.add a b | .u16, a, b => UInt16.add a b | .u32, a, b => UInt32.add a b | .u64, a, b => UInt64.add a b
  | .i8, a, b => IntKind.i8.wrap (Int.add a b) | .i16, a, b => IntKind.i16.wrap (Int.add a b) | .i32, a, b => IntKind.i32.wrap (Int.add a b) | .i64, a, b => IntKind.i64.wrap (Int.add a b)
def subT : (k : IntKind) → IntT k → IntT k → IntT k
  | .u8, a, b => UInt8.sub a b | .u16, a, b => UInt16.sub a b | .u32, a, b => UInt32.sub a b | .u64, a, b => UInt64.sub a b
  | .i8, a, b => IntKind.i8.wrap (Int.sub a b) | .i16, a, b => IntKind.i16.wrap (Int.sub a b) | .i32, a, b => IntKind.i32.wrap (Int.sub a b) | .i64, a, b => IntKind.i64.wrap (Int.sub a b)
def mulT : (k : IntKind) → IntT k → IntT k → IntT k
  | .u8, a, b => UInt8.mul a b | .u16, a, b => UInt16.mul a b | .u32, a, b => UInt32.mul a b | .u64, a, b => UInt64.mul a b
  | .i8, a, b => IntKind.i8.wrap (Int.mul a b) | .i16, a, b => IntKind.i16.wrap (Int.mul a b) | .i32, a, b => IntKind.i32.wrap (Int.mul a b) | .i64, a, b => IntKind.i64.wrap (Int.mul a b)
def andT : (k : IntKind) → IntT k → IntT k → IntT k
  | .u8, a, b => UInt8.land a b | .u16, a, b => UInt16.land a b | .u32, a, b => UInt32.land a b | .u64, a, b => UInt64.land a b
  | .i8, a, b => bits .and .i8 a b | .i16, a, b => bits .and .i16 a b | .i32, a, b => bits .and .i32 a b | .i64, a, b => bits .and .i64 a b
def orT : (k : IntKind) → IntT k → IntT k → IntT k
  | .u8, a, b => UInt8.lor a b | .u16, a, b => UInt16.lor a b | .u32, a, b => UInt32.lor a b | .u64, a, b => UInt64.lor a b
  | .i8, a, b => bits .or .i8 a b | .i16, a, b => bits .or .i16 a b | .i32, a, b => bits .or .i32 a b | .i64, a, b => bits .or .i64 a b
def xorT : (k : IntKind) → IntT k → IntT k → IntT k
  | .u8, a, b => UInt8.xor a b | .u16, a, b => UInt16.xor a b | .u32, a, b => UInt32.xor a b | .u64, a, b => UInt64.xor a b
  | .i8, a, b => bits .xor .i8 a b | .i16, a, b => bits .xor .i16 a b | .i32, a, b => bits .xor .i32 a b | .i64, a, b => bits .xor .i64 a b
def andNotT : (k : IntKind) → IntT k → IntT k → IntT k
  | .u8, a, b => UInt8.land a (UInt8.complement b) | .u16, a, b => UInt16.land a (UInt16.complement b) | .u32, a, b => UInt32.land a (UInt32.complement b) | .u64, a, b => UInt64.land a (UInt64.complement b)
  | .i8, a, b => bits .andNot .i8 a b | .i16, a, b => bits .andNot .i16 a b | .i32, a, b => bits .andNot .i32 a b | .i64, a, b => bits .andNot .i64 a b
def quoT : (k : IntKind) → IntT k → IntT k → IntT k
  | .u8, a, b => UInt8.div a b | .u16, a, b => UInt16.div a b | .u32, a, b => UInt32.div a b | .u64, a, b => UInt64.div a b
  | .i8, a, b => IntKind.i8.wrap (Int.tdiv a b) | .i16, a, b => IntKind.i16.wrap (Int.tdiv a b) | .i32, a, b => IntKind.i32.wrap (Int.tdiv a b) | .i64, a, b => IntKind.i64.wrap (Int.tdiv a b)
def remT : (k : IntKind) → IntT k → IntT k → IntT k
  | .u8, a, b => UInt8.mod a b | .u16, a, b => UInt16.mod a b | .u32, a, b => UInt32.mod a b | .u64, a, b => UInt64.mod a b
  | .i8, a, b => Int.tmod a b | .i16, a, b => Int.tmod a b | .i32, a, b => Int.tmod a b | .i64, a, b => Int.tmod a b
theorem toI_range : ∀ (k : IntKind) (x : IntT k), k.signed = false → 0 ≤ toI k x ∧ toI k x < 2 ^ k.bits
  | .u8, x, _ => ⟨by simp only [toI]; omega, by have := UInt8.toNat_lt x; simp only [toI, IntKind.bits]; omega⟩
  | .u16, x, _ => ⟨by simp only [toI]; omega, by have := UInt16.toNat_lt x; simp only [toI, IntKind.bits]; omega⟩
  | .u32, x, _ => ⟨by simp only [toI]; omega, by have := UInt32.toNat_lt x; simp only [toI, IntKind.bits]; omega⟩
  | .u64, x, _ => ⟨by simp only [toI]; omega, by have := UInt64.toNat_lt x; simp only [toI, IntKind.bits]; omega⟩
  | .i8, _, h => by cases h
  | .i16, _, h => by cases h
  | .i32, _, h => by cases h
  | .i64, _, h => by cases h
theorem toI_addT (k : IntKind) (a b : IntT k) : toI k (addT k a b) = k.wrap (toI k a + toI k b) := by
  cases k <;> simp only [toI, addT, IntKind.wrap_u8, IntKind.wrap_u16, IntKind.wrap_u32, IntKind.wrap_u64]
  any_goals rfl
  all_goals first
  | (rw [show UInt8.add a b = a + b from rfl, UInt8.toNat_add]; omega)
  | (rw [show UInt16.add a b = a + b from rfl, UInt16.toNat_add]; omega)
  | (rw [show UInt32.add a b = a + b from rfl, UInt32.toNat_add]; omega)
  | (rw [show UInt64.add a b = a + b from rfl, UInt64.toNat_add]; omega)
theorem toI_subT (k : IntKind) (a b : IntT k) : toI k (subT k a b) = k.wrap (toI k a - toI k b) := by
  cases k <;> simp only [toI, subT, IntKind.wrap_u8, IntKind.wrap_u16, IntKind.wrap_u32, IntKind.wrap_u64] <;> try rfl
  · have := UInt8.toNat_lt b; rw [show UInt8.sub a b = a - b from rfl, UInt8.toNat_sub]; omega
  · have := UInt16.toNat_lt b; rw [show UInt16.sub a b = a - b from rfl, UInt16.toNat_sub]; omega
  · have := UInt32.toNat_lt b; rw [show UInt32.sub a b = a - b from rfl, UInt32.toNat_sub]; omega
  · have := UInt64.toNat_lt b; rw [show UInt64.sub a b = a - b from rfl, UInt64.toNat_sub]; omega
theorem toI_mulT (k : IntKind) (a b : IntT k) : toI k (mulT k a b) = k.wrap (toI k a * toI k b) := by
  cases k <;> simp only [toI, mulT, IntKind.wrap_u8, IntKind.wrap_u16, IntKind.wrap_u32, IntKind.wrap_u64]
  any_goals rfl
  all_goals first
  | (rw [show UInt8.mul a b = a * b from rfl, UInt8.toNat_mul, ← Int.natCast_mul]; omega)
  | (rw [show UInt16.mul a b = a * b from rfl, UInt16.toNat_mul, ← Int.natCast_mul]; omega)
  | (rw [show UInt32.mul a b = a * b from rfl, UInt32.toNat_mul, ← Int.natCast_mul]; omega)
  | (rw [show UInt64.mul a b = a * b from rfl, UInt64.toNat_mul, ← Int.natCast_mul]; omega)
theorem bits_ofNat (op : BinOp) (k : IntKind) (n m : Nat) : bits op k (n : Int) (m : Int) = k.wrap (match op with
    | .and => BitVec.ofNat k.bits n &&& BitVec.ofNat k.bits m
    | .or => BitVec.ofNat k.bits n ||| BitVec.ofNat k.bits m
    | .xor => BitVec.ofNat k.bits n ^^^ BitVec.ofNat k.bits m
    | _ => BitVec.ofNat k.bits n &&& ~~~(BitVec.ofNat k.bits m)).toNat := by
  unfold bits
  simp only [BitVec.ofInt_natCast]
  cases op <;> rfl
theorem ofNat_u8 (a : UInt8) : BitVec.ofNat 8 a.toNat = a.toBitVec := by rw [show a.toNat = a.toBitVec.toNat from rfl]; exact BitVec.ofNat_toNat ..|>.trans (BitVec.setWidth_eq _)
theorem ofNat_u16 (a : UInt16) : BitVec.ofNat 16 a.toNat = a.toBitVec := by rw [show a.toNat = a.toBitVec.toNat from rfl]; exact BitVec.ofNat_toNat ..|>.trans (BitVec.setWidth_eq _)
theorem ofNat_u32 (a : UInt32) : BitVec.ofNat 32 a.toNat = a.toBitVec := by rw [show a.toNat = a.toBitVec.toNat from rfl]; exact BitVec.ofNat_toNat ..|>.trans (BitVec.setWidth_eq _)
theorem ofNat_u64 (a : UInt64) : BitVec.ofNat 64 a.toNat = a.toBitVec := by rw [show a.toNat = a.toBitVec.toNat from rfl]; exact BitVec.ofNat_toNat ..|>.trans (BitVec.setWidth_eq _)
theorem wrap_bv8 (x : BitVec 8) : IntKind.u8.wrap (x.toNat : Int) = x.toNat := by rw [IntKind.wrap_u8]; have := x.isLt; omega
theorem wrap_bv16 (x : BitVec 16) : IntKind.u16.wrap (x.toNat : Int) = x.toNat := by rw [IntKind.wrap_u16]; have := x.isLt; omega
theorem wrap_bv32 (x : BitVec 32) : IntKind.u32.wrap (x.toNat : Int) = x.toNat := by rw [IntKind.wrap_u32]; have := x.isLt; omega
theorem wrap_bv64 (x : BitVec 64) : IntKind.u64.wrap (x.toNat : Int) = x.toNat := by rw [IntKind.wrap_u64]; have := x.isLt; omega
theorem toI_andT (k : IntKind) (a b : IntT k) : toI k (andT k a b) = bits .and k (toI k a) (toI k b) := by
  cases k <;> simp only [toI, andT]
  · rw [bits_ofNat]; simp only [IntKind.bits]; rw [ofNat_u8, ofNat_u8, wrap_bv8]; rfl
  · rw [bits_ofNat]; simp only [IntKind.bits]; rw [ofNat_u16, ofNat_u16, wrap_bv16]; rfl
  · rw [bits_ofNat]; simp only [IntKind.bits]; rw [ofNat_u32, ofNat_u32, wrap_bv32]; rfl
  · rw [bits_ofNat]; simp only [IntKind.bits]; rw [ofNat_u64, ofNat_u64, wrap_bv64]; rfl
theorem toI_orT (k : IntKind) (a b : IntT k) : toI k (orT k a b) = bits .or k (toI k a) (toI k b) := by
  cases k <;> simp only [toI, orT]
  · rw [bits_ofNat]; simp only [IntKind.bits]; rw [ofNat_u8, ofNat_u8, wrap_bv8]; rfl
  · rw [bits_ofNat]; simp only [IntKind.bits]; rw [ofNat_u16, ofNat_u16, wrap_bv16]; rfl
  · rw [bits_ofNat]; simp only [IntKind.bits]; rw [ofNat_u32, ofNat_u32, wrap_bv32]; rfl
  · rw [bits_ofNat]; simp only [IntKind.bits]; rw [ofNat_u64, ofNat_u64, wrap_bv64]; rfl
theorem toI_xorT (k : IntKind) (a b : IntT k) : toI k (xorT k a b) = bits .xor k (toI k a) (toI k b) := by
  cases k <;> simp only [toI, xorT]
  · rw [bits_ofNat]; simp only [IntKind.bits]; rw [ofNat_u8, ofNat_u8, wrap_bv8]; rfl
  · rw [bits_ofNat]; simp only [IntKind.bits]; rw [ofNat_u16, ofNat_u16, wrap_bv16]; rfl
  · rw [bits_ofNat]; simp only [IntKind.bits]; rw [ofNat_u32, ofNat_u32, wrap_bv32]; rfl
  · rw [bits_ofNat]; simp only [IntKind.bits]; rw [ofNat_u64, ofNat_u64, wrap_bv64]; rfl
theorem toI_andNotT (k : IntKind) (a b : IntT k) : toI k (andNotT k a b) = bits .andNot k (toI k a) (toI k b) := by
  cases k <;> simp only [toI, andNotT]
  · rw [bits_ofNat]; simp only [IntKind.bits]; rw [ofNat_u8, ofNat_u8, wrap_bv8]; rfl
  · rw [bits_ofNat]; simp only [IntKind.bits]; rw [ofNat_u16, ofNat_u16, wrap_bv16]; rfl
  · rw [bits_ofNat]; simp only [IntKind.bits]; rw [ofNat_u32, ofNat_u32, wrap_bv32]; rfl
  · rw [bits_ofNat]; simp only [IntKind.bits]; rw [ofNat_u64, ofNat_u64, wrap_bv64]; rfl
theorem toI_quoT (k : IntKind) (a b : IntT k) (h0 : toI k b ≠ 0) : toI k (quoT k a b) = k.wrap ((toI k a).tdiv (toI k b)) := by
  cases k <;> simp only [toI, quoT, IntKind.wrap_u8, IntKind.wrap_u16, IntKind.wrap_u32, IntKind.wrap_u64] <;> try rfl
  · have := UInt8.toNat_lt a; have h := Nat.div_le_self (UInt8.toNat a) (UInt8.toNat b); rw [show UInt8.div a b = a / b from rfl, UInt8.toNat_div]; rw [← Int.ofNat_tdiv]; generalize UInt8.toNat a / UInt8.toNat b = q at *; omega
  · have := UInt16.toNat_lt a; have h := Nat.div_le_self (UInt16.toNat a) (UInt16.toNat b); rw [show UInt16.div a b = a / b from rfl, UInt16.toNat_div]; rw [← Int.ofNat_tdiv]; generalize UInt16.toNat a / UInt16.toNat b = q at *; omega
  · have := UInt32.toNat_lt a; have h := Nat.div_le_self (UInt32.toNat a) (UInt32.toNat b); rw [show UInt32.div a b = a / b from rfl, UInt32.toNat_div]; rw [← Int.ofNat_tdiv]; generalize UInt32.toNat a / UInt32.toNat b = q at *; omega
  · have := UInt64.toNat_lt a; have h := Nat.div_le_self (UInt64.toNat a) (UInt64.toNat b); rw [show UInt64.div a b = a / b from rfl, UInt64.toNat_div]; rw [← Int.ofNat_tdiv]; generalize UInt64.toNat a / UInt64.toNat b = q at *; omega
theorem toI_remT (k : IntKind) (a b : IntT k) : toI k (remT k a b) = (toI k a).tmod (toI k b) := by
  cases k <;> simp only [toI, remT]
  · rw [show UInt8.mod a b = a % b from rfl, UInt8.toNat_mod]; rfl
  · rw [show UInt16.mod a b = a % b from rfl, UInt16.toNat_mod]; rfl
  · rw [show UInt32.mod a b = a % b from rfl, UInt32.toNat_mod]; rfl
  · rw [show UInt64.mod a b = a % b from rfl, UInt64.toNat_mod]; rfl
def ltT : (k : IntKind) → IntT k → IntT k → Bool
  | .u8, a, b => decide (@LT.lt UInt8 _ a b) | .u16, a, b => decide (@LT.lt UInt16 _ a b) | .u32, a, b => decide (@LT.lt UInt32 _ a b) | .u64, a, b => decide (@LT.lt UInt64 _ a b)
  | .i8, a, b => decide (@LT.lt Int _ a b) | .i16, a, b => decide (@LT.lt Int _ a b) | .i32, a, b => decide (@LT.lt Int _ a b) | .i64, a, b => decide (@LT.lt Int _ a b)
def eqI : (k : IntKind) → IntT k → IntT k → Bool
  | .u8, a, b => decide (@Eq UInt8 a b) | .u16, a, b => decide (@Eq UInt16 a b) | .u32, a, b => decide (@Eq UInt32 a b) | .u64, a, b => decide (@Eq UInt64 a b)
  | .i8, a, b => decide (@Eq Int a b) | .i16, a, b => decide (@Eq Int a b) | .i32, a, b => decide (@Eq Int a b) | .i64, a, b => decide (@Eq Int a b)
theorem eqI_toI (k : IntKind) (a b : IntT k) : eqI k a b = (toI k a == toI k b) := by
  cases k <;> simp only [eqI, toI] <;> rw [Bool.eq_iff_iff] <;> simp only [decide_eq_true_eq, beq_iff_eq]
  · rw [← UInt8.toNat_inj]; omega
  · rw [← UInt16.toNat_inj]; omega
  · rw [← UInt32.toNat_inj]; omega
  · rw [← UInt64.toNat_inj]; omega
theorem eqI_iff {k : IntKind} {a b : IntT k} : eqI k a b = true ↔ a = b := by
  rw [eqI_toI, beq_iff_eq]; exact ⟨toI_inj, fun h => by rw [h]⟩
theorem ltT_iff : ∀ {k : IntKind} {a b : IntT k}, ltT k a b = true ↔ toI k a < toI k b
  | .u8, a, b => by simp only [ltT]; rw [decide_eq_true_eq, UInt8.lt_iff_toNat_lt]; exact Int.ofNat_lt.symm
  | .u16, a, b => by simp only [ltT]; rw [decide_eq_true_eq, UInt16.lt_iff_toNat_lt]; exact Int.ofNat_lt.symm
  | .u32, a, b => by simp only [ltT]; rw [decide_eq_true_eq, UInt32.lt_iff_toNat_lt]; exact Int.ofNat_lt.symm
  | .u64, a, b => by simp only [ltT]; rw [decide_eq_true_eq, UInt64.lt_iff_toNat_lt]; exact Int.ofNat_lt.symm
  | .i8, a, b => decide_eq_true_iff
  | .i16, a, b => decide_eq_true_iff
  | .i32, a, b => decide_eq_true_iff
  | .i64, a, b => decide_eq_true_iff
theorem ltT_toI (k : IntKind) (a b : IntT k) : ltT k a b = decide (toI k a < toI k b) := by
  rw [Bool.eq_iff_iff, ltT_iff, decide_eq_true_iff]
def shlT : (k : IntKind) → IntT k → Nat → IntT k
  | .u8, a, n => if n < 8 then UInt8.shiftLeft a (UInt8.ofNat n) else (0 : UInt8) | .u16, a, n => if n < 16 then UInt16.shiftLeft a (UInt16.ofNat n) else (0 : UInt16)
  | .u32, a, n => if n < 32 then UInt32.shiftLeft a (UInt32.ofNat n) else (0 : UInt32) | .u64, a, n => if n < 64 then UInt64.shiftLeft a (UInt64.ofNat n) else (0 : UInt64)
  | .i8, a, n => IntKind.i8.wrap (Int.mul a (2 ^ min n 8)) | .i16, a, n => IntKind.i16.wrap (Int.mul a (2 ^ min n 16)) | .i32, a, n => IntKind.i32.wrap (Int.mul a (2 ^ min n 32)) | .i64, a, n => IntKind.i64.wrap (Int.mul a (2 ^ min n 64))
def shrT : (k : IntKind) → IntT k → Nat → IntT k
  | .u8, a, n => if n < 8 then UInt8.shiftRight a (UInt8.ofNat n) else (0 : UInt8) | .u16, a, n => if n < 16 then UInt16.shiftRight a (UInt16.ofNat n) else (0 : UInt16)
  | .u32, a, n => if n < 32 then UInt32.shiftRight a (UInt32.ofNat n) else (0 : UInt32) | .u64, a, n => if n < 64 then UInt64.shiftRight a (UInt64.ofNat n) else (0 : UInt64)
  | .i8, a, n => Int.fdiv a (2 ^ min n 8) | .i16, a, n => Int.fdiv a (2 ^ min n 16) | .i32, a, n => Int.fdiv a (2 ^ min n 32) | .i64, a, n => Int.fdiv a (2 ^ min n 64)
theorem shl_mod (a n m : Nat) (h : m ≤ n) : (a * 2 ^ n) % 2 ^ m = 0 := by
  rw [show n = m + (n - m) by omega, Nat.pow_add, ← Nat.mul_assoc, Nat.mul_right_comm]; exact Nat.mul_mod_left _ _
theorem toI_shlT (k : IntKind) (a : IntT k) (n : Nat) : toI k (shlT k a n) = k.wrap (toI k a * 2 ^ min n k.bits) := by
  have e2 : ∀ m : Nat, (2 : Int) ^ m = ((2 ^ m : Nat) : Int) := fun m => by rw [Int.natCast_pow]; rfl
  cases k <;> simp only [toI, shlT, IntKind.bits, IntKind.wrap_u8, IntKind.wrap_u16, IntKind.wrap_u32, IntKind.wrap_u64] <;> try rfl
  · split
    · rename_i h
      rw [Nat.min_eq_left (by omega), e2, ← Int.natCast_mul, show UInt8.shiftLeft a (UInt8.ofNat n) = a <<< UInt8.ofNat n from rfl, UInt8.toNat_shiftLeft, UInt8.toNat_ofNat_of_lt' (by simp [UInt8.size]; omega), Nat.mod_eq_of_lt (show n < 8 by omega), Nat.shiftLeft_eq]; omega
    · rw [Nat.min_eq_right (by omega), e2, ← Int.natCast_mul]; have := shl_mod a.toNat 8 8 (by omega); simp only [UInt8.toNat_zero]; omega
  · split
    · rename_i h
      rw [Nat.min_eq_left (by omega), e2, ← Int.natCast_mul, show UInt16.shiftLeft a (UInt16.ofNat n) = a <<< UInt16.ofNat n from rfl, UInt16.toNat_shiftLeft, UInt16.toNat_ofNat_of_lt' (by simp [UInt16.size]; omega), Nat.mod_eq_of_lt (show n < 16 by omega), Nat.shiftLeft_eq]; omega
    · rw [Nat.min_eq_right (by omega), e2, ← Int.natCast_mul]; have := shl_mod a.toNat 16 16 (by omega); simp only [UInt16.toNat_zero]; omega
  · split
    · rename_i h
      rw [Nat.min_eq_left (by omega), e2, ← Int.natCast_mul, show UInt32.shiftLeft a (UInt32.ofNat n) = a <<< UInt32.ofNat n from rfl, UInt32.toNat_shiftLeft, UInt32.toNat_ofNat_of_lt' (by simp [UInt32.size]; omega), Nat.mod_eq_of_lt (show n < 32 by omega), Nat.shiftLeft_eq]; omega
    · rw [Nat.min_eq_right (by omega), e2, ← Int.natCast_mul]; have := shl_mod a.toNat 32 32 (by omega); simp only [UInt32.toNat_zero]; omega
  · split
    · rename_i h
      rw [Nat.min_eq_left (by omega), e2, ← Int.natCast_mul, show UInt64.shiftLeft a (UInt64.ofNat n) = a <<< UInt64.ofNat n from rfl, UInt64.toNat_shiftLeft, UInt64.toNat_ofNat_of_lt' (by simp [UInt64.size]; omega), Nat.mod_eq_of_lt (show n < 64 by omega), Nat.shiftLeft_eq]; omega
    · rw [Nat.min_eq_right (by omega), e2, ← Int.natCast_mul]; have := shl_mod a.toNat 64 64 (by omega); simp only [UInt64.toNat_zero]; omega
theorem toI_shrT (k : IntKind) (a : IntT k) (n : Nat) : toI k (shrT k a n) = (toI k a).fdiv (2 ^ min n k.bits) := by
  have e2 : ∀ m : Nat, (2 : Int) ^ m = ((2 ^ m : Nat) : Int) := fun m => by rw [Int.natCast_pow]; rfl
  have e3 : ∀ x m : Nat, (x : Int).fdiv ((2 ^ m : Nat) : Int) = ((x / 2 ^ m : Nat) : Int) := fun x m => by rw [Int.fdiv_eq_ediv_of_nonneg _ (Int.natCast_nonneg _)]; rfl
  cases k <;> simp only [toI, shrT, IntKind.bits] <;> try rfl
  · split
    · rename_i h
      rw [Nat.min_eq_left (by omega), e2, e3, show UInt8.shiftRight a (UInt8.ofNat n) = a >>> UInt8.ofNat n from rfl, UInt8.toNat_shiftRight, UInt8.toNat_ofNat_of_lt' (by simp [UInt8.size]; omega), Nat.mod_eq_of_lt (show n < 8 by omega), Nat.shiftRight_eq_div_pow]
    · rw [Nat.min_eq_right (by omega), e2, e3]; have := UInt8.toNat_lt a; rw [Nat.div_eq_of_lt (by omega)]; rfl
  · split
    · rename_i h
      rw [Nat.min_eq_left (by omega), e2, e3, show UInt16.shiftRight a (UInt16.ofNat n) = a >>> UInt16.ofNat n from rfl, UInt16.toNat_shiftRight, UInt16.toNat_ofNat_of_lt' (by simp [UInt16.size]; omega), Nat.mod_eq_of_lt (show n < 16 by omega), Nat.shiftRight_eq_div_pow]
    · rw [Nat.min_eq_right (by omega), e2, e3]; have := UInt16.toNat_lt a; rw [Nat.div_eq_of_lt (by omega)]; rfl
  · split
    · rename_i h
      rw [Nat.min_eq_left (by omega), e2, e3, show UInt32.shiftRight a (UInt32.ofNat n) = a >>> UInt32.ofNat n from rfl, UInt32.toNat_shiftRight, UInt32.toNat_ofNat_of_lt' (by simp [UInt32.size]; omega), Nat.mod_eq_of_lt (show n < 32 by omega), Nat.shiftRight_eq_div_pow]
    · rw [Nat.min_eq_right (by omega), e2, e3]; have := UInt32.toNat_lt a; rw [Nat.div_eq_of_lt (by omega)]; rfl
  · split
    · rename_i h
      rw [Nat.min_eq_left (by omega), e2, e3, show UInt64.shiftRight a (UInt64.ofNat n) = a >>> UInt64.ofNat n from rfl, UInt64.toNat_shiftRight, UInt64.toNat_ofNat_of_lt' (by simp [UInt64.size]; omega), Nat.mod_eq_of_lt (show n < 64 by omega), Nat.shiftRight_eq_div_pow]
    · rw [Nat.min_eq_right (by omega), e2, e3]; have := UInt64.toNat_lt a; rw [Nat.div_eq_of_lt (by omega)]; rfl
def convT : (k k' : IntKind) → IntT k' → IntT k
  | .u8, .u32, x => UInt32.toUInt8 x | .u8, .u64, x => UInt64.toUInt8 x | .u8, .u8, x => x
  | .u32, .u8, x => UInt8.toUInt32 x | .u32, .u64, x => UInt64.toUInt32 x | .u32, .u32, x => x
  | .u64, .u8, x => UInt8.toUInt64 x | .u64, .u32, x => UInt32.toUInt64 x | .u64, .u64, x => x
  | .i64, .u8, x => (UInt8.toNat x : Int) | .i64, .u32, x => (UInt32.toNat x : Int)
  | k, k', x => wrapT k (toI k' x)
theorem toI_convT (k k' : IntKind) (x : IntT k') : toI k (convT k k' x) = k.wrap (toI k' x) := by
  cases k <;> cases k' <;> simp only [convT] <;> try exact toI_wrapT _ _
  all_goals simp only [toI, IntKind.wrap_u8, IntKind.wrap_u32, IntKind.wrap_u64, IntKind.wrap_i64]
  all_goals first
    | (have := UInt8.toNat_lt x; first | omega | (simp only [UInt8.toNat_toUInt32, UInt8.toNat_toUInt64]; omega))
    | (have := UInt32.toNat_lt x; first | omega | (simp only [UInt32.toNat_toUInt8, UInt32.toNat_toUInt64]; omega))
    | (have := UInt64.toNat_lt x; first | omega | (simp only [UInt64.toNat_toUInt8, UInt64.toNat_toUInt32]; omega))
def notT : (k : IntKind) → IntT k → IntT k
  | .u8, a => UInt8.complement a | .u16, a => UInt16.complement a | .u32, a => UInt32.complement a | .u64, a => UInt64.complement a
  | .i8, a => bits .xor .i8 (-1) a | .i16, a => bits .xor .i16 (-1) a | .i32, a => bits .xor .i32 (-1) a | .i64, a => bits .xor .i64 (-1) a
theorem toI_notT (k : IntKind) (a : IntT k) : toI k (notT k a) = bits .xor k (if k.signed then -1 else k.max) (toI k a) := by
  cases k <;> simp only [toI, notT, IntKind.signed, IntKind.max, IntKind.bits] <;> try rfl
  · show _ = bits .xor .u8 ((255 : Nat) : Int) _; rw [bits_ofNat]; simp only [IntKind.bits]; rw [ofNat_u8, wrap_bv8]; show (((~~~(UInt8.toBitVec a) : BitVec 8)).toNat : Int) = (((BitVec.allOnes 8) ^^^ (UInt8.toBitVec a) : BitVec 8).toNat : Int); rw [BitVec.xor_comm, BitVec.xor_allOnes]
  · show _ = bits .xor .u16 ((65535 : Nat) : Int) _; rw [bits_ofNat]; simp only [IntKind.bits]; rw [ofNat_u16, wrap_bv16]; show (((~~~(UInt16.toBitVec a) : BitVec 16)).toNat : Int) = (((BitVec.allOnes 16) ^^^ (UInt16.toBitVec a) : BitVec 16).toNat : Int); rw [BitVec.xor_comm, BitVec.xor_allOnes]
  · show _ = bits .xor .u32 ((4294967295 : Nat) : Int) _; rw [bits_ofNat]; simp only [IntKind.bits]; rw [ofNat_u32, wrap_bv32]; show (((~~~(UInt32.toBitVec a) : BitVec 32)).toNat : Int) = (((BitVec.allOnes 32) ^^^ (UInt32.toBitVec a) : BitVec 32).toNat : Int); rw [BitVec.xor_comm, BitVec.xor_allOnes]
  · show _ = bits .xor .u64 ((18446744073709551615 : Nat) : Int) _; rw [bits_ofNat]; simp only [IntKind.bits]; rw [ofNat_u64, wrap_bv64]; show (((~~~(UInt64.toBitVec a) : BitVec 64)).toNat : Int) = (((BitVec.allOnes 64) ^^^ (UInt64.toBitVec a) : BitVec 64).toNat : Int); rw [BitVec.xor_comm, BitVec.xor_allOnes]
end Go.Vc

namespace Go.Vc
inductive HP (α : Type) where
  | ret (a : α) | fail | get (id : Nat) (k : AV → HP α)
def HP.run {α : Type} : HP α → (Nat → Slot) → Option (α × List Nat)
  | .ret a, _ => some (a, [])
  | .fail, _ => none
  | .get id k, m => match m id with
    | .live b => match (k b).run m with | some (a, l) => some (a, id :: l) | none => none
    | _ => none
theorem HP.run_get {α : Type} {id : Nat} {k : AV → HP α} {m : Nat → Slot} {r : α} {l : List Nat} (h : (HP.get id k).run m = some (r, l)) : ∃ b l', m id = .live b ∧ (k b).run m = some (r, l') ∧ l = id :: l' := by
  simp only [HP.run] at h
  split at h
  · rename_i b hb
    split at h
    · rename_i a l' hr
      injection h with h
      injection h with h1 h2
      subst h1
      exact ⟨b, l', hb, hr, h2.symm⟩
    · cases h
  · cases h
theorem HP.run_ret {α : Type} {a r : α} {m : Nat → Slot} {l : List Nat} (h : (HP.ret a).run m = some (r, l)) : r = a := by
  simp only [HP.run] at h
  injection h with h
  injection h with h1 _
  exact h1.symm
theorem HP.run_congr {α : Type} {m m' : Nat → Slot} : ∀ {p : HP α} {r : α} {l : List Nat}, p.run m = some (r, l) → (∀ id ∈ l, m' id = m id) → p.run m' = some (r, l)
  | .ret a, r, l, h, _ => h
  | .fail, r, l, h, _ => by cases h
  | .get id k, r, l, h, hm => by
    obtain ⟨b, l', h1, h2, h3⟩ := HP.run_get h
    subst h3
    have h4 := HP.run_congr (m' := m') h2 (fun i hi => hm i (List.mem_cons_of_mem _ hi))
    have h5 : m' id = .live b := (hm id (List.mem_cons_self ..)).trans h1
    simp only [HP.run, h5, h4]
structure Res where
  v : Option AV
  wr : List (Nat × Slot) := []
  kill : List Nat := []
  obs : List Prop := []
  new : Nat := 0
def killF (l : List Nat) : Nat → Option Nat := fun j => if l.contains j then none else some j
def wrs (h : List Slot) : List (Nat × Slot) → List Slot
  | [] => h
  | (i, s) :: r => wrs (setAt h i s) r
def AS.killed (S : AS) : List Nat → AS
  | [] => S
  | k => { tmps := S.tmps.map (Option.map (AV.tr (killF k))), heap := S.heap.map (Slot.tr (killF k)) }
def AS.app (S : AS) (dst : Option Nat) (r : Res) : AS :=
  AS.put { (S.killed r.kill) with heap := wrs (S.killed r.kill).heap r.wr } dst r.v
inductive TD where
  | int (k : IntKind) | bool | str | ptr (e : TypeId) | slice (e : TypeId) | arr (n : Nat) (e : TypeId)
  | st (fs : List (TypeId × Nat × Nat))
  | func | iface | other
  | map (k e : TypeId) (d : Kd)
structure TyI where
  td : TD
  sz : Nat
  bytes : Nat
  zero : AV
  kd : Option Kd := none
  pap : Bool := false   -- rows of such elements that an append or a conversion makes are taken as staying as they are
def TD.agg : TD → Bool | .arr .. => true | .st _ => true | _ => false
structure MapLaw (P : Program) (t k e : TypeId) (d : Kd) : Prop where
  hu : P.underlying t = some (.map k e)
  zero : ∀ w, (zeroValue e).run P w = .ok (.bool false) w
  law : WideMaps.KeyLaw P k
  key : ∀ (x : d.T) (v : Value), keyOK d x → keyR d x v → ∃ l, keyOf P k v = some l
  inj : ∀ (x y : d.T) (v : Value), keyR d x v → keyR d y v → x = y
  one : ∀ (x : d.T) (v w : Value), keyR d x v → keyR d x w → v = w
  val : ∀ (c : Ctx) (x : d.T) (v : Value), RV c (.ofKd d x) v → keyR d x v
  eq : ∀ x y : d.T, keq d x y = true ↔ x = y
structure TyOK (P : Program) (t : TypeId) (i : TyI) : Prop where
  td : match i.td with
    | .int k => P.underlying t = some (.int k) | .bool => P.underlying t = some .bool | .str => P.underlying t = some .string
    | .ptr e => P.underlying t = some (.pointer e) | .slice e => P.underlying t = some (.slice e) | .arr n e => P.underlying t = some (.array n e)
    | .st fs => ∃ fields, P.underlying t = some (.struct fields) ∧ fields.toList.mapM (fun f => (P.info? f.type).map fun i => (f.offset, i.size)) = some (fs.map (·.2)) ∧ fields.toList.map (·.type) = fs.map (·.1)
    | .func => ∃ a b c, P.underlying t = some (.func a b c)
    | .iface => ∃ m, P.underlying t = some (.interface m)
    | .other => ∃ d, P.underlying t = some d ∧ (match d with | .struct _ => False | .array _ _ => False | _ => True)
    | .map k e d => MapLaw P t k e d
  info : ∃ j Z, P.info? t = some j ∧ j.size = i.sz ∧ j.bytes = i.bytes ∧ j.zero = some Z ∧ (∀ c, RV c i.zero Z) ∧ (∀ d, i.kd = some d → ∀ c, RC c (.ofKd d d.dflt) Z.cells.toList)
theorem TyOK.isAgg {P : Program} {t : TypeId} {i : TyI} (h : TyOK P t i) (w : World) : (isAgg t).run P w = .ok i.td.agg w := by
  have h1 := h.td
  have key : ∀ d, P.underlying t = some d → (Go.isAgg t).run P w = .ok (match d with | .struct _ | .array _ _ => true | _ => false) w := by
    intro d hd
    unfold Go.isAgg
    simp only [Sem.run_bind, run_underlying hd, Result.andThen_ok]
    cases d <;> rfl
  cases htd : i.td <;> rw [htd] at h1 <;> simp only at h1
  case st fs => obtain ⟨f, h1, _, _⟩ := h1; rw [key _ h1]; rfl
  case func => obtain ⟨a, b, c, h1⟩ := h1; rw [key _ h1]; rfl
  case iface => obtain ⟨m, h1⟩ := h1; rw [key _ h1]; rfl
  case map k e d => rw [key _ h1.hu]; rfl
  case other =>
    obtain ⟨d, h1, h2⟩ := h1
    rw [key _ h1]
    cases d <;> first | exact h2.elim | rfl
  all_goals (rw [key _ h1]; rfl)
theorem TyOK.sizeOf {P : Program} {t : TypeId} {i : TyI} (h : TyOK P t i) (w : World) : (sizeOf t).run P w = .ok i.sz w := by
  obtain ⟨j, Z, h1, h2, _⟩ := h.info
  simp [Go.sizeOf, typeInfo, h1, h2]
theorem TyOK.zeroValue {P : Program} {t : TypeId} {i : TyI} (h : TyOK P t i) : ∃ Z, (∀ w, (zeroValue t).run P w = .ok Z w) ∧ (∀ c, RV c i.zero Z) ∧ (∀ d, i.kd = some d → ∀ c, RC c (.ofKd d d.dflt) Z.cells.toList) := by
  obtain ⟨j, Z, h1, h2, h3, h4, h5, h6⟩ := h.info
  exact ⟨Z, fun w => by simp [Go.zeroValue, typeInfo, h1, h4], h5, h6⟩
section
variable {P : Program} {w : World} {g : Nat} {rc : Array Value} {el : TypeId} {lo hi : Nat}
theorem cell_of (h : w.heap[g]? = some (.cells rc el (lo, hi))) (o : Nat) : w.cell? ⟨g, o, none⟩ = rc[o]? := by simp [World.cell?, h]
theorem add_none (g o n : Nat) : (⟨g, o, none⟩ : Addr).add n = ⟨g, o + n, none⟩ := by unfold Addr.add; split <;> simp_all
theorem run_cells (h : w.heap[g]? = some (.cells rc el (lo, hi))) {cs : List Value} {o : Nat} (hc : (rc.toList.drop o).take cs.length = cs) : (loadCells ⟨g, o, none⟩ cs.length).run P w = .ok cs.toArray w := by
  refine run_loadCells_list w _ cs fun j v hj => ?_
  rw [add_none, cell_of h]
  rw [← hc, List.getElem?_take] at hj
  split at hj
  · rw [List.getElem?_drop] at hj
    rw [← Array.getElem?_toList]; exact hj
  · cases hj
theorem run_cell (h : w.heap[g]? = some (.cells rc el (lo, hi))) {v : Value} {o : Nat} (hc : (rc.toList.drop o).take 1 = [v]) : (load ⟨g, o, none⟩).run P w = .ok v w := by
  have : rc[o]? = some v := by
    have h1 : ((rc.toList.drop o).take 1)[0]? = some v := by rw [hc]; rfl
    rw [List.getElem?_take_of_lt (by omega), List.getElem?_drop] at h1
    rw [← Array.getElem?_toList]; exact h1
  rw [run_load, cell_of h, this]
theorem setCell_at (h : w.heap[g]? = some (.cells rc el (lo, hi))) (o : Nat) (v : Value) : w.setCell ⟨g, o, none⟩ v = { w with heap := w.heap.setIfInBounds g (.cells (rc.setIfInBounds o v) el (lo, hi)) } := by
  unfold World.setCell
  congr 1
  apply Array.ext_getElem?
  intro k
  rw [Array.getElem?_modify]
  by_cases hk : g = k
  · subst hk
    have hg : g < w.heap.size := (Array.getElem?_eq_some_iff.1 h).1
    rw [if_pos rfl, h, Array.getElem?_setIfInBounds_self, if_pos hg]; rfl
  · rw [if_neg hk, Array.getElem?_setIfInBounds_ne hk]
theorem set_twice (a : Array Obj) (g : Nat) (x y : Obj) : (a.setIfInBounds g x).setIfInBounds g y = a.setIfInBounds g y := by
  apply Array.ext_getElem?
  intro k
  by_cases hk : g = k
  · subst hk
    rw [Array.getElem?_setIfInBounds_self, Array.getElem?_setIfInBounds_self, Array.size_setIfInBounds]
  · rw [Array.getElem?_setIfInBounds_ne hk, Array.getElem?_setIfInBounds_ne hk, Array.getElem?_setIfInBounds_ne hk]
theorem splice_cons (l : List Value) (o : Nat) (v : Value) (vs : List Value) (h : o + (vs.length + 1) ≤ l.length) : splice l o (v :: vs) = splice (l.set o v) (o + 1) vs := by
  have e1 : (l.set o v).take (o + 1) = l.take o ++ [v] := by
    rw [List.take_add_one, List.take_set_of_le (Nat.le_refl _)]
    congr 1
    rw [List.getElem?_set_self (by omega)]; rfl
  simp only [splice, e1, List.length_cons, List.append_assoc, List.cons_append, List.nil_append]
  rw [List.drop_set_of_lt (by omega), show o + 1 + vs.length = o + (vs.length + 1) by omega]
theorem run_storeCells : ∀ (vs : List Value) (w : World) (rc : Array Value) (o i : Nat) (h : w.heap[g]? = some (.cells rc el (lo, hi))) (hf : ∀ k, k < rc.size → ¬ (lo ≤ k ∧ k < hi)) (h1 : ∀ u ∈ vs, u.oneCell' = true)
    (hs : o + i + vs.length ≤ rc.size), (storeCells ⟨g, o, none⟩ vs i).run P w = .ok () { w with heap := w.heap.setIfInBounds g (.cells (splice rc.toList (o + i) vs).toArray el (lo, hi)) }
  | [], w, rc, o, i, h, hf, h1, hs => by
    have hg : g < w.heap.size := (Array.getElem?_eq_some_iff.1 h).1
    simp only [storeCells, Sem.run_pure, splice, List.append_nil, List.length_nil, Nat.add_zero, List.take_append_drop]
    congr 1
    have : w.heap.setIfInBounds g (.cells rc.toList.toArray el (lo, hi)) = w.heap := by
      apply Array.ext_getElem?
      intro k
      by_cases hk : g = k
      · subst hk; rw [Array.getElem?_setIfInBounds_self, if_pos hg, h]
      · rw [Array.getElem?_setIfInBounds_ne hk]
    rw [this]
  | v :: vs, w, rc, o, i, h, hf, h1, hs => by
    have hg : g < w.heap.size := (Array.getElem?_eq_some_iff.1 h).1
    simp only [List.length_cons] at hs
    have hlt : o + i < rc.size := by omega
    have hcell : w.cell? ⟨g, o + i, none⟩ = some rc[o + i] := by rw [cell_of h, Array.getElem?_eq_getElem hlt]
    have hfr : w.frozen? ⟨g, o + i, none⟩ = false := by
      simp only [World.frozen?, h]
      have := hf (o + i) hlt
      simp only [Bool.and_eq_false_iff, decide_eq_false_iff_not]
      omega
    simp only [storeCells, Sem.run_bind, add_none]
    rw [run_store P w _ v _ (h1 v (List.mem_cons_self ..)), hcell]
    simp only [hfr, Bool.false_eq_true, if_false, Result.andThen_ok]
    rw [setCell_at h]
    have h' : ({ w with heap := w.heap.setIfInBounds g (.cells (rc.setIfInBounds (o + i) v) el (lo, hi)) } : World).heap[g]? = some (.cells (rc.setIfInBounds (o + i) v) el (lo, hi)) := by
      simp only [Array.getElem?_setIfInBounds_self, if_pos hg]
    rw [run_storeCells vs _ _ o (i + 1) h' (fun k hk => hf k (by simpa using hk)) (fun u hu => h1 u (List.mem_cons_of_mem _ hu)) (by simp only [Array.size_setIfInBounds]; omega)]
    simp only [set_twice]
    have e : splice (rc.setIfInBounds (o + i) v).toList (o + (i + 1)) vs = splice rc.toList (o + i) (v :: vs) := by
      rw [Array.toList_setIfInBounds, ← Nat.add_assoc, splice_cons _ _ _ _ (by rw [Array.length_toList]; omega)]
    rw [e]
end
section
variable {E : Env} {ρ : Nat → Option (Nat × Nat)} {S S' : AS} {a : Act} {w w' : World}
theorem Rel.block (h : Rel E ρ S a w) {id : Nat} {b : AV} (hl : S.blk id = .live b) {g o : Nat} (hr : ρ id = some (g, o)) (hn : ∀ l, b ≠ .tuple l) :
    ∃ rc el lo hi flat, w.heap[g]? = some (.cells rc el (lo, hi)) ∧ Fz lo hi rc.size ∧ RC (ctx E ρ S.blk w) b flat ∧ (rc.toList.drop o).take flat.length = flat ∧ o + flat.length ≤ rc.size := by
  have := h.hb id b hl
  rw [hr] at this
  exact this.cl hn
theorem Rel.blockC (h : Rel E ρ S a w) {id : Nat} {b : AV} (hl : S.blk id = .live b) {g o : Nat} (hr : ρ id = some (g, o)) {rc0 : Array Value} {el0 : TypeId} {fr0 : Nat × Nat} (hc : (ctx E ρ S.blk w).hp g = some (.cells rc0 el0 fr0)) :
    ∃ rc el lo hi flat, w.heap[g]? = some (.cells rc el (lo, hi)) ∧ Fz lo hi rc.size ∧ RC (ctx E ρ S.blk w) b flat ∧ (rc.toList.drop o).take flat.length = flat ∧ o + flat.length ≤ rc.size := by
  have := h.hb id b hl
  rw [hr] at this
  rcases this with h | ⟨_, _, _, _, _, _, e, _⟩
  · exact h
  · rw [hc] at e; cases e
end
end Go.Vc

namespace Go.Vc
def absC : Value → Option AV
  | .int k n => constI k n
  | .bool b => some (.bool b)
  | .string s => some (.str s.data.toList)
  | .pointer none => some .nilp
  | .slice none 0 0 => some .nilsl
  | .map none => some .nmap
  | .nilFunc => some .nilFunc
  | .nilIface => some .nilIface
  | _ => none
def AS.ev (G : Nat → Option PD) (S : AS) : Operand → Option AV
  | .tmp t => S.tmps.getD t none
  | .const v => absC v
  | .global g => match G g with | some pd => some (.ept true pd.d pd.x) | none => none
  | .func f => some (.func (.func f) [] [])
theorem absC_sound (c : Ctx) : ∀ {x : Value} {v : AV}, absC x = some v → RV c v x := by
  intro x v h
  cases x with
  | int k n =>
    simp only [absC, constI] at h
    split at h
    · rename_i hk
      injection h with h
      subst h
      have := RC.int (c := c) k (wrapT k n)
      rw [hk] at this
      exact .one _ _ rfl this
    · cases h
  | bool b => injection h with h; subst h; exact .one _ _ rfl (.bool b)
  | string s => injection h with h; subst h; exact .one _ _ rfl (.str s.data.toList)
  | pointer p =>
    cases p with
    | none => injection h with h; subst h; exact .one _ _ rfl .nilp
    | some p => cases h
  | slice p n m =>
    cases p with
    | none =>
      cases n with
      | zero => cases m with
        | zero => injection h with h; subst h; exact .one _ _ rfl .nilsl
        | succ m => cases h
      | succ n => cases h
    | some p => cases h
  | map p =>
    cases p with
    | none => injection h with h; subst h; exact .one _ _ rfl .nmap
    | some p => cases h
  | nilFunc => injection h with h; subst h; exact .one _ _ rfl .nilFunc
  | nilIface => injection h with h; subst h; exact .one _ _ rfl .nilIface
  | _ => cases h
section
variable {E : Env} {ρ : Nat → Option (Nat × Nat)} {S S' : AS} {a : Act} {w w' : World}
theorem Rel.ev (h : Rel E ρ S a w) {x : Operand} {v : AV} (hv : S.ev E.glob x = some v) : RV (ctx E ρ S.blk w) v (a.eval x) := by
  cases x with
  | tmp t =>
    simp only [AS.ev] at hv
    have h1 : S.tmps[t]? = some (some v) := by
      rw [List.getD_eq_getElem?_getD] at hv
      cases hx : S.tmps[t]? with
      | none => rw [hx] at hv; cases hv
      | some y => rw [hx] at hv; simp only [Option.getD_some] at hv; rw [hv]
    obtain ⟨V, h2, h3⟩ := h.tm t v h1
    simp only [Act.eval, Array.getD_eq_getD_getElem?, h2, Option.getD_some]
    exact h3
  | const c => exact absC_sound _ hv
  | global g =>
    simp only [AS.ev] at hv
    split at hv
    · rename_i pd hpd
      injection hv with hv
      subst hv
      exact h.gl g pd hpd
    · cases hv
  | func f =>
    simp only [AS.ev, Option.some.injEq] at hv
    subst hv
    exact .one _ _ rfl (.func _ _ _ _ _ .nil .nil)
end
def OpOK (P : Program) (G : Nat → Option PD) (pin : List Nat) (o : Oper) (S : AS) (r : Res) : Prop :=
  ∀ (E : Env) (ρ : Nat → Option (Nat × Nat)) (a : Act) (w : World), E.glob = G → (∀ id, E.pin id → id ∈ pin) → Rel E ρ S a w → ∀ (next : Act → World → Prop) (Q : Exit → Act → World → Prop),
    (∀ ρ' a' w', Rel E ρ' (S.app o.dst r) a' w' → next a' w') → o.wp P a w next Q
theorem AS.app_val (S : AS) (dst : Option Nat) (v : Option AV) (obs : List Prop) : S.app dst { v := v, obs := obs } = S.put dst v := by
  cases dst <;> rfl
theorem OpOK.val {P : Program} {G : Nat → Option PD} {pin : List Nat} {o : Oper} {S : AS} {v : AV} {obs : List Prop}
    (h : ∀ (E : Env) (ρ : Nat → Option (Nat × Nat)) (a : Act) (w : World), E.glob = G → Rel E ρ S a w → ∃ V, (execOp a.eval o).run P w = .ok (.value V) w ∧ RV (ctx E ρ S.blk w) v V) : OpOK P G pin o S { v := some v, obs := obs } := by
  intro E ρ a w hG hpin hR next Q hn
  obtain ⟨V, h1, h2⟩ := h E ρ a w hG hR
  unfold Oper.wp
  rw [h1, Oper.upon_value]
  refine hn ρ _ _ ?_
  rw [AS.app_val]
  exact hR.put o.dst (some v) V (fun u hu => by injection hu with hu; subst hu; exact h2)
def strEq (a b : List UInt8) : Bool := decide (a = b)
def intOp (op : BinOp) (k : IntKind) (a b : IntT k) : Option (AV × List Prop) :=
  match op with
  | .add => some (.int k (addT k a b), []) | .sub => some (.int k (subT k a b), []) | .mul => some (.int k (mulT k a b), [])
  | .quo => some (.int k (quoT k a b), [toI k b ≠ 0]) | .rem => some (.int k (remT k a b), [toI k b ≠ 0])
  | .and => some (.int k (andT k a b), []) | .or => some (.int k (orT k a b), []) | .xor => some (.int k (xorT k a b), []) | .andNot => some (.int k (andNotT k a b), [])
  | .eql => some (.bool (eqI k a b), []) | .neq => some (.bool (!eqI k a b), []) | .lss => some (.bool (ltT k a b), []) | .gtr => some (.bool (ltT k b a), [])
  | .leq => some (.bool (!ltT k b a), []) | .geq => some (.bool (!ltT k a b), [])
  | _ => none
def strOp (op : BinOp) (a b : List UInt8) : Option (AV × List Prop) :=
  match op with
  | .add => some (.str (a ++ b), [((a.length + b.length : Nat) : Int) ≤ 9223372036854775807])
  | .eql => some (.bool (strEq a b), []) | .neq => some (.bool (!strEq a b), [])
  | _ => none
def binAV (op : BinOp) (x y : AV) : Option (AV × List Prop) :=
  match x, y with
  | .int k a, .int k' b => match op with
    | .shl => some (.int k (shlT k a (toI k' b).toNat), [0 ≤ toI k' b])
    | .shr => some (.int k (shrT k a (toI k' b).toNat), [0 ≤ toI k' b])
    | _ => match castI k k' b with | some b' => intOp op k a b' | none => none
  | .str a, .str b => strOp op a b
  | _, _ => none
theorem castI_some {k k' : IntKind} {x : IntT k'} {y : IntT k} (h : castI k k' x = some y) : k' = k ∧ toI k y = toI k' x := by
  obtain ⟨e, hy⟩ := castK_some h
  injection e with e
  subst e
  exact ⟨rfl, by rw [hy]⟩
theorem ba_toList (l : List UInt8) : (⟨⟨l⟩⟩ : ByteArray).toList = l := by
  rw [ByteArray.toList_eq]
theorem ba_append (a b : List UInt8) : (⟨⟨a⟩⟩ : ByteArray) ++ ⟨⟨b⟩⟩ = ⟨⟨a ++ b⟩⟩ := by
  apply ByteArray.ext
  rw [ByteArray.data_append]
  simp
theorem binAV_sound {c : Ctx} {op : BinOp} {x y v : AV} {obs : List Prop} {X Y : Value} (h : binAV op x y = some (v, obs)) (ho : ∀ q ∈ obs, q) (hx : RV c x X) (hy : RV c y Y) (P : Program) (t : TypeId) (p q : Operand) (w : World) :
    ∃ V, (do eqGuard op t p q X Y; binOp op t X Y).run P w = .ok V w ∧ RV c v V := by
  unfold binAV at h
  split at h
  · rename_i k a k' b
    cases hx with
    | agg _ _ h0 => cases h0
    | one _ _ _ hx =>
    cases hy with
    | agg _ _ h0 => cases h0
    | one _ _ _ hy =>
    cases hx
    cases hy
    rw [eqGuard_at_int]
    split at h
    · injection h with h
      injection h with h1 h2
      subst h1 h2
      have hb : 0 ≤ toI k' b := ho _ (List.mem_singleton.2 rfl)
      refine ⟨.int k (toI k (shlT k a (toI k' b).toNat)), ?_, .one _ _ rfl (.int _ _)⟩
      rw [toI_shlT]
      simp only [pure_bind, binOp_shl, Op.shift]
      rw [if_neg (by omega)]; rfl
    · injection h with h
      injection h with h1 h2
      subst h1 h2
      have hb : 0 ≤ toI k' b := ho _ (List.mem_singleton.2 rfl)
      refine ⟨.int k (toI k (shrT k a (toI k' b).toNat)), ?_, .one _ _ rfl (.int _ _)⟩
      rw [toI_shrT]
      simp only [pure_bind, binOp_shr, Op.shift]
      rw [if_neg (by omega)]; rfl
    · split at h
      · rename_i b' hb'
        obtain ⟨e, hb2⟩ := castI_some hb'
        subst e
        rw [← hb2]
        cases op <;> simp only [intOp, Option.some.injEq, Prod.mk.injEq, reduceCtorEq] at h
        all_goals (obtain ⟨h1, h2⟩ := h; subst h1 h2)
        case add => exact ⟨_, by rw [pure_bind, binOp_add, toI_addT]; rfl, .one _ _ rfl (.int _ _)⟩
        case sub => exact ⟨_, by rw [pure_bind, binOp_sub, toI_subT]; rfl, .one _ _ rfl (.int _ _)⟩
        case mul => exact ⟨_, by rw [pure_bind, binOp_mul, toI_mulT]; rfl, .one _ _ rfl (.int _ _)⟩
        case and => exact ⟨_, by rw [pure_bind, binOp_and, intBits_and, toI_andT]; rfl, .one _ _ rfl (.int _ _)⟩
        case or => exact ⟨_, by rw [pure_bind, binOp_or, intBits_or, toI_orT]; rfl, .one _ _ rfl (.int _ _)⟩
        case xor => exact ⟨_, by rw [pure_bind, binOp_xor, intBits_xor, toI_xorT]; rfl, .one _ _ rfl (.int _ _)⟩
        case andNot => exact ⟨_, by rw [pure_bind, binOp_andNot, intBits_andNot, toI_andNotT]; rfl, .one _ _ rfl (.int _ _)⟩
        case quo =>
          have hz := ho _ (List.mem_singleton.2 rfl)
          exact ⟨_, by rw [pure_bind, binOp_quo, Op.intDiv, if_neg hz, toI_quoT _ _ _ hz]; rfl, .one _ _ rfl (.int _ _)⟩
        case rem =>
          have hz := ho _ (List.mem_singleton.2 rfl)
          exact ⟨_, by rw [pure_bind, binOp_rem, Op.intDiv, if_neg hz, toI_remT]; rfl, .one _ _ rfl (.int _ _)⟩
        case eql => exact ⟨_, by rw [pure_bind, binOp_eql, eqI_toI]; rfl, .one _ _ rfl (.bool _)⟩
        case neq => exact ⟨_, by rw [pure_bind, binOp_neq, eqI_toI]; rfl, .one _ _ rfl (.bool _)⟩
        case lss => exact ⟨_, by rw [pure_bind, binOp_lss, ltT_toI]; rfl, .one _ _ rfl (.bool _)⟩
        case gtr => exact ⟨_, by rw [pure_bind, binOp_gtr, ltT_toI]; rfl, .one _ _ rfl (.bool _)⟩
        case leq =>
          refine ⟨_, by rw [pure_bind, binOp_leq]; rfl, ?_⟩
          rw [ltT_toI, ← decide_not]
          simp only [Int.not_lt]
          exact .one _ _ rfl (.bool _)
        case geq =>
          refine ⟨_, by rw [pure_bind, binOp_geq]; rfl, ?_⟩
          rw [ltT_toI, ← decide_not]
          simp only [Int.not_lt, ge_iff_le]
          exact .one _ _ rfl (.bool _)
        all_goals contradiction
      · cases h
  · rename_i a b
    cases hx with
    | agg _ _ h0 => cases h0
    | one _ _ _ hx =>
    cases hy with
    | agg _ _ h0 => cases h0
    | one _ _ _ hy =>
    cases hx
    cases hy
    rw [eqGuard_at_string]
    cases op <;> simp only [strOp, Option.some.injEq, Prod.mk.injEq, reduceCtorEq] at h
    · obtain ⟨h1, h2⟩ := h
      subst h1 h2
      have hz := ho _ (List.mem_singleton.2 rfl)
      refine ⟨.string ⟨⟨a ++ b⟩⟩, ?_, .one _ _ rfl (.str _)⟩
      simp only [pure_bind, binOp, Op.stringOp]
      rw [if_neg (by simp only [IntKind.max_i64]; show ¬ (((a.length + b.length : Nat) : Int) > _); omega), ba_append]; rfl
    · obtain ⟨h1, h2⟩ := h
      subst h1 h2
      refine ⟨.bool (strEq a b), ?_, .one _ _ rfl (.bool _)⟩
      simp only [pure_bind, binOp, Op.stringOp, ba_toList, strEq]
      rw [show (a == b) = decide (a = b) from by rw [Bool.eq_iff_iff]; simp]
      rfl
    · obtain ⟨h1, h2⟩ := h
      subst h1 h2
      refine ⟨.bool (!strEq a b), ?_, .one _ _ rfl (.bool _)⟩
      simp only [pure_bind, binOp, Op.stringOp, ba_toList, strEq]
      rw [show (a == b) = decide (a = b) from by rw [Bool.eq_iff_iff]; simp]
      rfl
  · cases h
end Go.Vc

namespace Go.Vc
structure SL where
  d : Kd
  xs : List d.T
  obs : List Prop
def SR (c : Ctx) (X : Value) (d : Kd) (xs : List d.T) : Prop :=
  ∃ A cap, X = .slice A xs.length cap ∧ xs.length ≤ cap ∧
    (xs = [] ∨ ∃ g o rc el fr flat, A = some ⟨g, o, none⟩ ∧ c.hp g = some (.cells rc el fr) ∧ RL (Reads c.ok c.hp d) xs flat ∧ (rc.toList.drop o).take flat.length = flat)
def rdSl (dk : Kd) : AV → HP SL
  | .pure (.slice _ d) xs => .ret ⟨d, xs, []⟩
  | .nilsl => .ret ⟨dk, [], []⟩
  | .tsl id path i off sz len => .get id fun b => match b.at path with
    | some (.pure (.arr N d) xs) => .ret ⟨d, (List.drop (α := d.T) i xs).take len, (off = b.off path + i * d.sz) :: (i + len ≤ N) :: b.ob path⟩
    | _ => .fail
  | _ => .fail
section
variable {E : Env} {ρ : Nat → Option (Nat × Nat)} {S S' : AS} {a : Act} {w w' : World}
theorem Rel.at (h : Rel E ρ S a w) {id : Nat} {b v : AV} (hl : S.blk id = .live b) {g o : Nat} (hr : ρ id = some (g, o)) {path : List Nat} (hat : b.at path = some v) (hob : ∀ q ∈ b.ob path, q) (hn : ∀ l, v ≠ .tuple l) :
    ∃ rc el lo hi cs, w.heap[g]? = some (.cells rc el (lo, hi)) ∧ RC (ctx E ρ S.blk w) v cs ∧ (rc.toList.drop (o + b.off path)).take cs.length = cs ∧ o + b.off path + cs.length ≤ rc.size ∧ Fz lo hi rc.size := by
  obtain ⟨rc, el, lo, hi, flat, h1, h2, h3, h4, h5⟩ := h.block hl hr (fun l e => by
    subst e
    cases path with
    | nil => injection hat with hat; exact hn _ hat.symm
    | cons i p => cases hat)
  obtain ⟨h6, h7⟩ := AV.at_sound h3 hat hob
  have hl6 := h6.len
  refine ⟨rc, el, lo, hi, _, h1, h6, ?_, by rw [hl6]; omega, h2⟩
  rw [hl6]
  have e : flat = (rc.toList.drop o).take flat.length := h4.symm
  conv => rhs; rw [e]
  rw [sub_sub _ _ _ _ _ h7]
theorem rdSl_sound (h : Rel E ρ S a w) {dk : Kd} {x : AV} {X : Value} (hx : RV (ctx E ρ S.blk w) x X) {r : SL} {l : List Nat} (hp : (rdSl dk x).run S.blk = some (r, l)) (ho : ∀ q ∈ r.obs, q) : SR (ctx E ρ S.blk w) X r.d r.xs := by
  cases x with
  | nilsl =>
    have := HP.run_ret hp
    subst this
    cases hx with
    | agg _ _ h0 => cases h0
    | one _ _ _ hc => cases hc; exact ⟨none, 0, rfl, Nat.le_refl _, .inl rfl⟩
  | pure d x =>
    cases d with
    | slice own d =>
      have := HP.run_ret hp
      subst this
      cases hx with
      | agg _ _ h0 => cases h0
      | one _ _ _ hc =>
        cases hc with
        | pure _ _ _ hr =>
          obtain ⟨A, cap, e1, e2, e3⟩ := hr
          injection e1 with e1 _
          refine ⟨A, cap, e1, e2, ?_⟩
          rcases e3 with e3 | ⟨b, off, rc, el, fr, flat, f1, f2, f3, f4, f5⟩
          · exact .inl e3
          · exact .inr ⟨b, off, rc, el, fr, flat, f1, f3, f4, f5⟩
    | _ => cases hp
  | tsl id path i off sz len =>
    obtain ⟨b, l', h1, h2, h3⟩ := HP.run_get hp
    split at h2
    · rename_i N d xs hat
      have := HP.run_ret h2
      subst this
      cases hx with
      | agg _ _ h0 => cases h0
      | one _ _ _ hc =>
      cases hc with
      | tslv _ _ _ _ _ _ hb hr h0 =>
        subst h0
        simp only [List.take_zero]
        exact ⟨none, 0, rfl, Nat.le_refl _, .inl rfl⟩
      | tsl _ _ _ _ _ _ g o cap A hb hr hl hA rc el fr hh hs =>
        simp only [List.mem_cons, forall_eq_or_imp] at ho
        obtain ⟨ho1, ho2, ho3⟩ := ho
        obtain ⟨rc', el', lo', hi', cs, f1, f2, f3, f4, _⟩ := h.at h1 hr hat ho3 (fun l e => by cases e)
        cases f2 with
        | pure _ _ _ hrd =>
        have hlen : List.length (α := d.T) xs = N := hrd.1
        have hlen2 : ((List.drop (α := d.T) i xs).take len).length = len := by rw [List.length_take, List.length_drop]; omega
        refine ⟨A, cap, by simp only [hlen2], by simp only [hlen2]; exact hl, ?_⟩
        rcases Nat.eq_zero_or_pos len with h0 | h0
        · left; exact List.eq_nil_of_length_eq_zero (by rw [hlen2]; exact h0)
        · right
          have h6 := RL.take (R := Reads _ _ d) (fun _ _ hh => Reads.len hh) len (RL.drop (R := Reads _ _ d) (fun _ _ hh => Reads.len hh) i hrd.2)
          have hcl := RL.len (R := Reads _ _ d) (fun _ _ hh => Reads.len hh) hrd.2
          rw [hlen] at hcl
          have hle : i * d.sz + len * d.sz ≤ cs.length := by rw [hcl, ← Nat.add_mul]; exact Nat.mul_le_mul_right _ ho2
          refine ⟨g, o + off, rc', el', (lo', hi'), _, hA (by omega), f1, h6, ?_⟩
          have hcl2 : ((cs.drop (i * d.sz)).take (len * d.sz)).length = len * d.sz := by rw [List.length_take, List.length_drop]; omega
          rw [hcl2, ho1, ← Nat.add_assoc]
          conv => rhs; rw [← f3]
          rw [sub_sub _ _ _ _ _ hle]
    · cases h2
  | _ => cases hp
theorem SR.cells {c : Ctx} {X : Value} {d : Kd} {xs : List d.T} (h : SR c X d xs) (hw : c.hp = fun b => w.heap[b]?) {P : Program} : ∃ flat, RL (Reads c.ok c.hp d) xs flat ∧ (xs ≠ [] → ∃ g o cap, X = .slice (some ⟨g, o, none⟩) xs.length cap ∧ (loadCells ⟨g, o, none⟩ flat.length).run P w = .ok flat.toArray w) := by
  obtain ⟨A, cap, h1, h2, h3⟩ := h
  rcases h3 with h3 | ⟨g, o, rc, el, fr, flat, f1, f2, f3, f4⟩
  · subst h3; exact ⟨[], rfl, fun h => absurd rfl h⟩
  · refine ⟨flat, f3, fun _ => ⟨g, o, cap, by rw [h1, f1], ?_⟩⟩
    rw [hw] at f2
    exact run_cells (lo := fr.1) (hi := fr.2) f2 f4
end
theorem RL_u8 {ok hp} : ∀ {xs : List UInt8} {cs : List Value}, RL (Reads ok hp (.int .u8)) xs cs → cs = xs.map fun b => .int .u8 (b.toNat : Int)
  | [], _, h => h
  | x :: r, _, ⟨c1, c2, e, h1, h2⟩ => by rw [e, h1, RL_u8 h2]; rfl
theorem strOfNums_bytes (xs : List UInt8) : strOfNums (xs.map fun b => (b.toNat : Int)) = ⟨⟨xs⟩⟩ := by
  apply ByteArray.ext
  apply Array.ext'
  rw [strOfNums_data]
  simp [List.map_map, Function.comp_def]
end Go.Vc

namespace Go.Vc
structure Cfg where
  ty : TypeId → Option TyI
  fn : FuncId → Option (List AV → Nat → HP Res)
  G : Nat → Option PD
  pin : List Nat
def TysOK (P : Program) (ty : TypeId → Option TyI) : Prop := ∀ t i, ty t = some i → TyOK P t i
def retV (v : Option AV) (obs : List Prop := []) : HP Res := match v with | some v => .ret { v := some v, obs := obs } | none => .fail
section
variable {c : Ctx} {X : Value}
theorem RV.c1 {v : AV} (h : RV c v X) (ha : v.isAgg = false) (ht : ∀ l, v ≠ .tuple l) : RC c v [X] := by
  cases h with
  | one _ _ _ hc => exact hc
  | agg _ _ h0 => rw [ha] at h0; cases h0
  | tuple l => exact absurd rfl (ht l)
theorem RV.int_inv {k : IntKind} {x : IntT k} (h : RV c (.int k x) X) : X = .int k (toI k x) := by
  cases h.c1 rfl (fun _ e => by cases e); rfl
theorem RV.bool_inv {b : Bool} (h : RV c (.bool b) X) : X = .bool b := by
  cases h.c1 rfl (fun _ e => by cases e); rfl
theorem RV.str_inv {l : List UInt8} (h : RV c (.str l) X) : X = .string ⟨⟨l⟩⟩ := by
  cases h.c1 rfl (fun _ e => by cases e); rfl
theorem RV.nilp_inv (h : RV c .nilp X) : X = .pointer none := by
  cases h.c1 rfl (fun _ e => by cases e); rfl
theorem RV.nilsl_inv (h : RV c .nilsl X) : X = .slice none 0 0 := by
  cases h.c1 rfl (fun _ e => by cases e); rfl
theorem RV.ptr_inv {id : Nat} {p : List Nat} {off : Nat} (h : RV c (.ptr id p off) X) : ∃ g o, c.born id ∧ c.ρ id = some (g, o) ∧ X = .pointer (some ⟨g, o + off, none⟩) := by
  cases h.c1 rfl (fun _ e => by cases e)
  rename_i g o hb hr
  exact ⟨g, o, hb, hr, rfl⟩
theorem RV.arrp_inv {id : Nat} {p : List Nat} {i off sz n : Nat} (h : RV c (.arrp id p i off sz n) X) : ∃ g o, c.born id ∧ c.ρ id = some (g, o) ∧ X = .pointer (some ⟨g, o + off, none⟩) := by
  cases h.c1 rfl (fun _ e => by cases e)
  rename_i g o hb hr
  exact ⟨g, o, hb, hr, rfl⟩
theorem RV.ept_inv {own : Bool} {d : Kd} {x : d.T} (h : RV c (.ept own d x) X) : ∃ b o rc el fr flat, c.ok own b ∧ c.hp b = some (.cells rc el fr) ∧ Reads c.ok c.hp d x flat ∧ (rc.toList.drop o).take flat.length = flat ∧ X = .pointer (some ⟨b, o, none⟩) := by
  cases h.c1 rfl (fun _ e => by cases e) with
  | ept _ _ _ b o rc el fr flat hok hh hr hf => exact ⟨b, o, rc, el, fr, flat, hok, hh, hr, hf, rfl⟩
theorem RV.tsl_inv {id : Nat} {p : List Nat} {i off sz len : Nat} (h : RV c (.tsl id p i off sz len) X) : (c.born id ∧ c.ρ id = none ∧ len = 0 ∧ X = .slice none 0 0) ∨
    ∃ g o cap A rc el fr, c.born id ∧ c.ρ id = some (g, o) ∧ len ≤ cap ∧ (0 < cap → A = some ⟨g, o + off, none⟩) ∧ c.hp g = some (.cells rc el fr) ∧ (cap = 0 ∨ o + off + cap * sz ≤ rc.size) ∧ X = .slice A len cap := by
  cases h.c1 rfl (fun _ e => by cases e) with
  | tsl _ _ _ _ _ _ g o cap A hb hr hl hA rc el fr hh hs => exact .inr ⟨g, o, cap, A, rc, el, fr, hb, hr, hl, hA, hh, hs, rfl⟩
  | tslv _ _ _ _ _ _ hb hr h0 => exact .inl ⟨hb, hr, h0, rfl⟩
theorem RV.slice_inv {own : Bool} {d : Kd} {x : List d.T} (h : RV c (.pure (.slice own d) x) X) : Reads c.ok c.hp (.slice own d) x [X] := by
  cases h.c1 rfl (fun _ e => by cases e)
  rename_i h; exact h
theorem RV.pure_inv {d : Kd} {x : d.T} (h : RV c (.pure d x) X) (hd : d.isAgg = true) : ∃ a, X = .agg a ∧ Reads c.ok c.hp d x a.toList := by
  cases h with
  | one _ _ h0 hc => simp only [AV.isAgg] at h0; rw [hd] at h0; cases h0
  | agg _ a _ hc =>
    refine ⟨a, rfl, ?_⟩
    generalize a.toList = cs at hc
    cases hc; assumption
theorem RV.agg_inv {l : List AV} (h : RV c (.agg l) X) : ∃ a, X = .agg a ∧ RCs c l a.toList := by
  cases h with
  | one _ _ h0 hc => cases h0
  | agg _ a _ hc =>
    refine ⟨a, rfl, ?_⟩
    generalize a.toList = cs at hc
    cases hc; assumption
theorem RV.tuple_inv {l : List AV} (h : RV c (.tuple l) X) : ∃ x, X = .tuple x.toArray ∧ RVs c l x := by
  cases h with
  | one _ _ h0 hc => cases hc
  | agg _ a h0 hc => cases h0
  | tuple _ x h => exact ⟨x, rfl, h⟩
theorem RV.func_inv {fn : Fn} {a b : List AV} (h : RV c (.func fn a b) X) : ∃ x y, X = .func fn x.toArray y.toArray ∧ RVs c a x ∧ RVs c b y := by
  cases h.c1 rfl (fun _ e => by cases e)
  rename_i x y ha hb
  exact ⟨x, y, rfl, ha, hb⟩
theorem RV.cells {v : AV} (h : RV c v X) (ht : ∀ l, v ≠ .tuple l) : RC c v X.cells.toList := by
  cases h with
  | one _ _ h0 hc =>
    have h1 := hc.one X (List.mem_singleton.2 rfl)
    have : X.cells = #[X] := by cases X <;> first | rfl | cases h1
    rw [this]; exact hc
  | agg _ a h0 hc => exact hc
  | tuple l => exact absurd rfl (ht l)
end
def unAV : UnOp → AV → Option AV
  | .neg, .int k a => some (.int k (subT k (IntT.zero k) a))
  | .xor, .int k a => some (.int k (notT k a))
  | .not, .bool b => some (.bool (!b))
  | _, _ => none
theorem toI_zero (k : IntKind) : toI k (IntT.zero k) = 0 := by cases k <;> rfl
theorem unAV_sound {c : Ctx} {op : UnOp} {x v : AV} {X : Value} (h : unAV op x = some v) (hx : RV c x X) (P : Program) (w : World) : ∃ V, (Op.unary op X).run P w = .ok V w ∧ RV c v V := by
  cases op with
  | plus => cases x <;> simp [unAV] at h
  | neg =>
    cases x <;> simp only [unAV, reduceCtorEq, Option.some.injEq] at h
    subst h
    cases hx with
    | agg _ _ h0 => cases h0
    | one _ _ _ hc =>
    cases hc
    refine ⟨_, ?_, .one _ _ rfl (.int _ _)⟩
    rw [toI_subT, toI_zero]; rfl
  | xor =>
    cases x <;> simp only [unAV, reduceCtorEq, Option.some.injEq] at h
    subst h
    cases hx with
    | agg _ _ h0 => cases h0
    | one _ _ _ hc =>
    cases hc
    refine ⟨_, ?_, .one _ _ rfl (.int _ _)⟩
    rw [toI_notT]
    simp only [Op.unary, intBits_xor]; rfl
  | not =>
    cases x <;> simp only [unAV, reduceCtorEq, Option.some.injEq] at h
    subst h
    cases hx with
    | agg _ _ h0 => cases h0
    | one _ _ _ hc =>
    cases hc
    rename_i b
    exact ⟨_, rfl, .one _ _ rfl (.bool _)⟩
def Cfg.fld (C : Cfg) (t : TypeId) (f : Nat) : Option (TypeId × Nat × Nat) :=
  match C.ty t with
  | some i => match i.td with | .st fs => fs[f]? | _ => none
  | none => none
def fldP : (d : Kd) → d.T → Nat → Option PD
  | .pair a _, x, 0 => some ⟨a, x.1⟩
  | .pair _ b, x, i + 1 => fldP b x.2 i
  | _, _, _ => none
def PD.off : Kd → Nat → Nat
  | .pair a b, i + 1 => a.sz + PD.off b i
  | _, _ => 0
def pFieldAddr (C : Cfg) (t : TypeId) (x : Option AV) (f : Nat) : HP Res :=
  match C.fld t f, x with
  | some (_, o, s), some (.ptr id p off) => if s = 0 then .fail else .ret { v := some (.ptr id (p ++ [f]) (off + o)) }
  | some (_, o, s), some (.ept own (.st d) x) => match fldP d x f with
    | some pd => if s = 0 then .fail else if o = PD.off d f then .ret { v := some (.ept own pd.d pd.x) } else .fail
    | none => .fail
  | _, _ => .fail
theorem fields_at {P : Program} {t : TypeId} {fields : Array Field} {fs : List (TypeId × Nat × Nat)} (h1 : fields.toList.mapM (fun f => (P.info? f.type).map fun i => (f.offset, i.size)) = some (fs.map (·.2)))
    (h2 : fields.toList.map (·.type) = fs.map (·.1)) {i : Nat} {ft : TypeId} {o s : Nat} (hi : fs[i]? = some (ft, o, s)) : ∃ f j, fields[i]? = some f ∧ f.type = ft ∧ f.offset = o ∧ P.info? ft = some j ∧ j.size = s := by
  rw [← Array.getElem?_toList]
  generalize fields.toList = l at h1 h2
  induction l generalizing fs i with
  | nil =>
    simp only [List.mapM_nil, Option.pure_def, Option.some.injEq] at h1
    have : fs = [] := by cases fs with | nil => rfl | cons => simp at h1
    subst this; simp at hi
  | cons f l ih =>
    cases fs with
    | nil => simp at h2
    | cons q fs =>
      simp only [List.mapM_cons, Option.bind_eq_bind, Option.pure_def, List.map_cons] at h1
      simp only [List.map_cons, List.cons.injEq] at h2
      cases hj : P.info? f.type with
      | none => rw [hj] at h1; simp at h1
      | some j =>
        rw [hj] at h1
        simp only [Option.map_some, Option.bind_some] at h1
        cases hr : l.mapM (fun f => (P.info? f.type).map fun i => (f.offset, i.size)) with
        | none => rw [hr] at h1; simp at h1
        | some rest =>
          rw [hr] at h1
          simp only [Option.bind_some, Option.some.injEq, List.cons.injEq] at h1
          cases i with
          | zero =>
            simp only [List.getElem?_cons_zero, Option.some.injEq] at hi
            subst hi
            have h21 : f.type = ft := h2.1
            refine ⟨f, j, rfl, h21, ?_, by rw [← h21]; exact hj, ?_⟩
            · exact congrArg (·.1) h1.1
            · exact congrArg (·.2) h1.1
          | succ i =>
            simp only [List.getElem?_cons_succ] at hi ⊢
            exact ih hi (by rw [hr, h1.2]) h2.2
theorem Cfg.fld_ok {P : Program} {C : Cfg} (hT : TysOK P C.ty) {t : TypeId} {f : Nat} {ft : TypeId} {o s : Nat} (h : C.fld t f = some (ft, o, s)) :
    ∃ fields fd j, P.underlying t = some (.struct fields) ∧ fields[f]? = some fd ∧ fd.type = ft ∧ fd.offset = o ∧ P.info? ft = some j ∧ j.size = s := by
  unfold Cfg.fld at h
  split at h
  · rename_i i hi
    have hok := (hT t i hi).td
    split at h
    · rename_i fs hfs
      rw [hfs] at hok
      obtain ⟨fields, h1, h2, h3⟩ := hok
      obtain ⟨fd, j, h4⟩ := fields_at (t := t) h2 h3 h
      exact ⟨fields, fd, j, h1, h4⟩
    · cases h
  · cases h
theorem fldP_reads {ok hp} : ∀ {d : Kd} {x : d.T} {i : Nat} {pd : PD} {cs : List Value}, fldP d x i = some pd → Reads ok hp d x cs → ∃ c1, Reads ok hp pd.d pd.x c1 ∧ (cs.drop (PD.off d i)).take c1.length = c1 ∧ PD.off d i + c1.length ≤ cs.length
  | .pair a b, x, 0, pd, cs, h, ⟨c1, c2, e, h1, h2⟩ => by
    simp only [fldP, Option.some.injEq] at h
    subst h
    refine ⟨c1, h1, ?_, ?_⟩
    · rw [e]; simp [PD.off]
    · rw [e]; simp [PD.off]
  | .pair a b, x, i + 1, pd, cs, h, ⟨c1, c2, e, h1, h2⟩ => by
    simp only [fldP] at h
    obtain ⟨c3, h3, h4, h5⟩ := fldP_reads h h2
    refine ⟨c3, h3, ?_, ?_⟩
    · rw [e]; simp only [PD.off]; rw [← h1.len, ← List.drop_drop, List.drop_left]; exact h4
    · rw [e, List.length_append, h1.len]; simp only [PD.off]; omega
  | .int _, x, i, pd, cs, h, hr => by simp [fldP] at h
  | .bool, x, i, pd, cs, h, hr => by simp [fldP] at h
  | .str, x, i, pd, cs, h, hr => by simp [fldP] at h
  | .arr _ _, x, i, pd, cs, h, hr => by simp [fldP] at h
  | .st _, x, i, pd, cs, h, hr => by simp [fldP] at h
  | .unit, x, i, pd, cs, h, hr => by simp [fldP] at h
  | .slice _ _, x, i, pd, cs, h, hr => by simp [fldP] at h
theorem ept_part {c : Ctx} {own : Bool} {b o : Nat} {rc : Array Value} {el : TypeId} {fr : Nat × Nat} {flat : List Value} (hok : c.ok own b) (hh : c.hp b = some (.cells rc el fr))
    (hf : (rc.toList.drop o).take flat.length = flat) {d' : Kd} {x' : d'.T} {q : Nat} {c1 : List Value} (h1 : Reads c.ok c.hp d' x' c1) (h2 : (flat.drop q).take c1.length = c1) (h3 : q + c1.length ≤ flat.length) :
    RC c (.ept own d' x') [.pointer (some ⟨b, o + q, none⟩)] := by
  refine .ept own d' x' b (o + q) rc el fr c1 hok hh h1 ?_
  conv => rhs; rw [← h2, ← hf]
  rw [sub_sub _ _ _ _ _ h3]
section
variable {P : Program} {C : Cfg} {S : AS} {o : Oper} {r : Res} {l : List Nat}
theorem run_fieldPlace {P : Program} {fd : Field} {j : TypeInfo} (h1 : P.info? fd.type = some j) (h2 : j.size ≠ 0) (g off : Nat) (w : World) : (fieldPlace ⟨g, off, none⟩ fd).run P w = .ok ⟨g, off + fd.offset, none⟩ w := by
  simp [fieldPlace, sizeOf, typeInfo, h1, h2, add_none]
theorem sound_fieldAddr (hT : TysOK P C.ty) {t : TypeId} {x : Operand} {f : Nat} (ho : o.op = .fieldAddr t x f) (h : (pFieldAddr C t (S.ev C.G x) f).run S.blk = some (r, l)) : OpOK P C.G C.pin o S r := by
  unfold pFieldAddr at h
  split at h
  · rename_i ft off s id p q hf hx
    split at h
    · cases h
    · rename_i hs
      have := HP.run_ret h
      subst this
      obtain ⟨fields, fd, j, h1, h2, h3, h4, h5, h6⟩ := Cfg.fld_ok hT hf
      refine OpOK.val fun E ρ a w hG hR => ?_
      rw [← hG] at hx
      obtain ⟨g, o', hb, hr, heq⟩ := (hR.ev hx).ptr_inv
      subst h3 h4
      refine ⟨.pointer (some ⟨g, o' + (q + fd.offset), none⟩), ?_, .one _ _ rfl (.ptr _ _ _ g o' hb hr)⟩
      unfold execOp
      simp only [ho, heq, Instr.fieldAt, Sem.run_bind, run_underlying h1, Result.andThen_ok, h2, Instr.sureAddr, Sem.run_pure, run_fieldPlace h5 (by rw [h6]; exact hs), Nat.add_assoc]
  · rename_i ft off s own d x' hf hx
    split at h
    · rename_i pd hpd
      split at h
      · cases h
      · rename_i hs
        split at h
        · rename_i hoff
          have := HP.run_ret h
          subst this
          obtain ⟨fields, fd, j, h1, h2, h3, h4, h5, h6⟩ := Cfg.fld_ok hT hf
          refine OpOK.val fun E ρ a w hG hR => ?_
          rw [← hG] at hx
          obtain ⟨b, o', rc, el, fr, flat, hok, hh, hrd, hfl, heq⟩ := (hR.ev hx).ept_inv
          subst h3 h4
          obtain ⟨c1, g1, g2, g3⟩ := fldP_reads hpd (show Reads _ _ d x' flat from hrd)
          refine ⟨.pointer (some ⟨b, o' + fd.offset, none⟩), ?_, .one _ _ rfl (by rw [hoff]; exact ept_part hok hh hfl g1 g2 g3)⟩
          unfold execOp
          simp only [ho, heq, Instr.fieldAt, Sem.run_bind, run_underlying h1, Result.andThen_ok, h2, Instr.sureAddr, Sem.run_pure, run_fieldPlace h5 (by rw [h6]; exact hs)]
        · cases h
    · cases h
  · cases h
end
end Go.Vc

namespace Go.Vc
section
variable {P : Program} {C : Cfg} {S : AS} {o : Oper} {r : Res} {l : List Nat}
theorem sound_retV {x : Operand} {obs : List Prop} (ho : ∀ a : Act, ∀ w, (execOp a.eval o).run P w = .ok (.value (a.eval x)) w) (h : (retV (S.ev C.G x) obs).run S.blk = some (r, l)) : OpOK P C.G C.pin o S r := by
  unfold retV at h
  split at h
  · rename_i v hv
    have := HP.run_ret h
    subst this
    refine OpOK.val fun E ρ a w hG hR => ⟨_, ho a w, ?_⟩
    rw [← hG] at hv
    exact hR.ev hv
  · cases h
def pLoad (C : Cfg) (t : TypeId) (x : Option AV) : HP Res :=
  match C.ty t, x with
  | some i, some (.ptr id p off) => .get id fun b => match b.at p with
    | some v => if v.isAgg = i.td.agg ∧ v.size = i.sz ∧ v.isTup = false then .ret { v := some v, obs := (off = b.off p) :: b.ob p } else .fail
    | none => .fail
  | some i, some (.arrp id p j off sz n) => .get id fun b => match b.at p with
    | some (.pure (.arr N d) xs) => if i.td.agg = true ∧ n * d.sz = i.sz then .ret { v := some (.pure (.arr n d) ((List.drop (α := d.T) j xs).take n)), obs := (off = b.off p + j * d.sz) :: (j + n ≤ N) :: b.ob p } else .fail
    | _ => .fail
  | some i, some (.ept _ d x) => if (AV.ofKd d x).isAgg = i.td.agg ∧ d.sz = i.sz then .ret { v := some (.ofKd d x) } else .fail
  | _, _ => .fail
theorem run_loadVar {t : TypeId} {i : TyI} (hi : TyOK P t i) {c : Ctx} {w : World} {g : Nat} {rc : Array Value} {el : TypeId} {lo hi' : Nat} (h : w.heap[g]? = some (.cells rc el (lo, hi'))) {v : AV} {cs : List Value} {q : Nat}
    (hv : RC c v cs) (hc : (rc.toList.drop q).take cs.length = cs) (ha : v.isAgg = i.td.agg) (hs : v.size = i.sz) (ht : ∀ l, v ≠ .tuple l) : ∃ V, (loadVar t ⟨g, q, none⟩).run P w = .ok V w ∧ RV c v V := by
  have hl := hv.len
  cases hag : i.td.agg with
  | true =>
    refine ⟨.agg cs.toArray, ?_, .agg _ _ (by rw [ha, hag]) (by simpa using hv)⟩
    have := run_cells (P := P) h hc
    rw [hl, hs] at this
    simp only [loadVar, Sem.run_bind, hi.isAgg, hag, Result.andThen_ok, if_true, hi.sizeOf, this, Sem.run_pure]
  | false =>
    have h1 : cs.length = 1 := by
      cases hv <;> first
        | rfl
        | (rw [hag] at ha; cases ha; done)
        | skip
      rename_i d x hr
      rw [hr.len]
      rw [hag] at ha
      cases d <;> first | rfl | cases ha
    obtain ⟨V, hV⟩ : ∃ V, cs = [V] := by
      cases cs with
      | nil => cases h1
      | cons V r => cases r with
        | nil => exact ⟨V, rfl⟩
        | cons => simp at h1
    subst hV
    refine ⟨V, ?_, .one _ _ (by rw [ha, hag]) hv⟩
    simp only [loadVar, Sem.run_bind, hi.isAgg, hag, Result.andThen_ok, Bool.false_eq_true, if_false]
    exact run_cell h hc
theorem ofKd_not_tuple (d : Kd) (x : d.T) : ∀ l, AV.ofKd d x ≠ .tuple l := by cases d <;> intro l e <;> cases e
theorem RC.not_tuple {c : Ctx} {v : AV} {cs : List Value} (h : RC c v cs) : ∀ l, v ≠ .tuple l := by intro l e; subst e; cases h
theorem sound_load (hT : TysOK P C.ty) {t : TypeId} {x : Operand} (ho : o.op = .load t x) (h : (pLoad C t (S.ev C.G x)).run S.blk = some (r, l)) (hob : ∀ q ∈ r.obs, q) : OpOK P C.G C.pin o S r := by
  unfold pLoad at h
  split at h
  · rename_i i id p off hi hx
    obtain ⟨b, l', h1, h2, h3⟩ := HP.run_get h
    split at h2
    · rename_i v hat
      split at h2
      · rename_i hcond
        have := HP.run_ret h2
        subst this
        simp only [List.mem_cons, forall_eq_or_imp] at hob
        refine OpOK.val fun E ρ a w hG hR => ?_
        rw [← hG] at hx
        obtain ⟨g, o', hb, hr, heq⟩ := (hR.ev hx).ptr_inv
        obtain ⟨rc, el, lo, hi', cs, f1, f2, f3, f4, f5⟩ := hR.at h1 hr hat hob.2 (AV.not_tup hcond.2.2)
        obtain ⟨V, g1, g2⟩ := run_loadVar (P := P) (hT t i hi) f1 f2 f3 hcond.1 hcond.2.1 f2.not_tuple
        refine ⟨V, ?_, g2⟩
        unfold execOp
        simp only [ho, heq, Instr.loadAt, Sem.run_bind, Instr.sureAddr, Sem.run_pure, Result.andThen_ok, hob.1, g1]
      · cases h2
    · cases h2
  · rename_i i id p j off sz n hi hx
    obtain ⟨b, l', h1, h2, h3⟩ := HP.run_get h
    split at h2
    · rename_i N d xs hat
      split at h2
      · rename_i hcond
        have := HP.run_ret h2
        subst this
        simp only [List.mem_cons, forall_eq_or_imp] at hob
        obtain ⟨hob1, hob2, hob3⟩ := hob
        refine OpOK.val fun E ρ a w hG hR => ?_
        rw [← hG] at hx
        obtain ⟨g, o', hb, hr, heq⟩ := (hR.ev hx).arrp_inv
        obtain ⟨rc, el, lo, hi', cs, f1, f2, f3, f4, f5⟩ := hR.at h1 hr hat hob3 (fun l e => by cases e)
        cases f2 with
        | pure _ _ _ hrd =>
        have hlen : List.length (α := d.T) xs = N := hrd.1
        have h6 := RL.take (R := Reads _ _ d) (fun _ _ hh => Reads.len hh) n (RL.drop (R := Reads _ _ d) (fun _ _ hh => Reads.len hh) j hrd.2)
        have hcl := RL.len (R := Reads _ _ d) (fun _ _ hh => Reads.len hh) hrd.2
        rw [hlen] at hcl
        have hle : j * d.sz + n * d.sz ≤ cs.length := by rw [hcl, ← Nat.add_mul]; exact Nat.mul_le_mul_right _ hob2
        have hcl2 : ((cs.drop (j * d.sz)).take (n * d.sz)).length = n * d.sz := by rw [List.length_take, List.length_drop]; omega
        have f6 : RC (ctx E ρ S.blk w) (.pure (.arr n d) ((List.drop (α := d.T) j xs).take n)) ((cs.drop (j * d.sz)).take (n * d.sz)) :=
          .pure _ _ _ ⟨by rw [List.length_take, List.length_drop]; omega, h6⟩
        have f7 : (rc.toList.drop (o' + off)).take ((cs.drop (j * d.sz)).take (n * d.sz)).length = (cs.drop (j * d.sz)).take (n * d.sz) := by
          rw [hcl2, hob1, ← Nat.add_assoc]
          conv => rhs; rw [← f3]
          rw [sub_sub _ _ _ _ _ hle]
        obtain ⟨V, g1, g2⟩ := run_loadVar (P := P) (hT t i hi) f1 f6 f7 (by rw [hcond.1]; rfl) hcond.2 f6.not_tuple
        refine ⟨V, ?_, g2⟩
        unfold execOp
        simp only [ho, heq, Instr.loadAt, Sem.run_bind, Instr.sureAddr, Sem.run_pure, Result.andThen_ok, g1]
      · cases h2
    · cases h2
  · rename_i i own d x' hi hx
    split at h
    · rename_i hcond
      have := HP.run_ret h
      subst this
      refine OpOK.val fun E ρ a w hG hR => ?_
      rw [← hG] at hx
      obtain ⟨b, o', rc, el, fr, flat, hok, hh, hrd, hfl, heq⟩ := (hR.ev hx).ept_inv
      have f6 : RC (ctx E ρ S.blk w) (.ofKd d x') flat := RC.ofKd hrd
      obtain ⟨V, g1, g2⟩ := run_loadVar (P := P) (lo := fr.1) (hi' := fr.2) (hT t i hi) hh f6 hfl hcond.1 (by rw [AV.size_ofKd]; exact hcond.2) (ofKd_not_tuple d x')
      refine ⟨V, ?_, g2⟩
      unfold execOp
      simp only [ho, heq, Instr.loadAt, Sem.run_bind, Instr.sureAddr, Sem.run_pure, Result.andThen_ok, g1]
    · cases h
  · cases h
def pNil (x : Option AV) : HP Res :=
  match x with
  | some (.ptr id p q) => .ret { v := some (.ptr id p q) }
  | some (.arrp id p i q s n) => .ret { v := some (.arrp id p i q s n) }
  | some (.ept a b c) => .ret { v := some (.ept a b c) }
  | _ => .fail
theorem sound_nil {x : Operand} (ho : o.op = .nilCheck x) (h : (pNil (S.ev C.G x)).run S.blk = some (r, l)) : OpOK P C.G C.pin o S r := by
  unfold pNil at h
  split at h
  · rename_i id p q hx
    have := HP.run_ret h
    subst this
    refine OpOK.val fun E ρ a w hG hR => ?_
    rw [← hG] at hx
    have hv := hR.ev hx
    obtain ⟨g, o', hb, hr, heq⟩ := hv.ptr_inv
    refine ⟨_, ?_, hv⟩
    unfold execOp
    simp only [ho, heq]; rfl
  · rename_i id p i q s n hx
    have := HP.run_ret h
    subst this
    refine OpOK.val fun E ρ a w hG hR => ?_
    rw [← hG] at hx
    have hv := hR.ev hx
    obtain ⟨g, o', hb, hr, heq⟩ := hv.arrp_inv
    refine ⟨_, ?_, hv⟩
    unfold execOp
    simp only [ho, heq]; rfl
  · rename_i a1 b1 c1 hx
    have := HP.run_ret h
    subst this
    refine OpOK.val fun E ρ a w hG hR => ?_
    rw [← hG] at hx
    have hv := hR.ev hx
    obtain ⟨b, o', rc, el, fr, flat, hok, hh, hrd, hfl, heq⟩ := hv.ept_inv
    refine ⟨_, ?_, hv⟩
    unfold execOp
    simp only [ho, heq]; rfl
  · cases h
def pPick (c x y : Option AV) : HP Res :=
  match c with
  | some (.bool true) => retV x
  | some (.bool false) => retV y
  | _ => .fail
theorem sound_pick {c x y : Operand} (ho : o.op = .pick c x y) (h : (pPick (S.ev C.G c) (S.ev C.G x) (S.ev C.G y)).run S.blk = some (r, l)) : OpOK P C.G C.pin o S r := by
  unfold pPick at h
  split at h
  · rename_i hc
    unfold retV at h
    split at h
    · rename_i v hv
      have := HP.run_ret h
      subst this
      refine OpOK.val fun E ρ a w hG hR => ?_
      rw [← hG] at hc hv
      have hb := (hR.ev hc).bool_inv
      refine ⟨_, ?_, hR.ev hv⟩
      unfold execOp
      simp only [ho, hb, asBool, Sem.run_bind, Sem.run_pure, Result.andThen_ok, if_true]
    · cases h
  · rename_i hc
    unfold retV at h
    split at h
    · rename_i v hv
      have := HP.run_ret h
      subst this
      refine OpOK.val fun E ρ a w hG hR => ?_
      rw [← hG] at hc hv
      have hb := (hR.ev hc).bool_inv
      refine ⟨_, ?_, hR.ev hv⟩
      unfold execOp
      simp only [ho, hb, asBool, Sem.run_bind, Sem.run_pure, Result.andThen_ok, Bool.false_eq_true, if_false]
    · cases h
  · cases h
def pBin (op : BinOp) (x y : Option AV) : HP Res :=
  match x, y with
  | some x, some y => match binAV op x y with | some (v, obs) => .ret { v := some v, obs := obs } | none => .fail
  | _, _ => .fail
theorem sound_bin {op : BinOp} {t : TypeId} {x y : Operand} {t' : TypeId} (ho : o.op = .binOp op t x y t') (h : (pBin op (S.ev C.G x) (S.ev C.G y)).run S.blk = some (r, l)) (hob : ∀ q ∈ r.obs, q) : OpOK P C.G C.pin o S r := by
  unfold pBin at h
  split at h
  · rename_i u v hx hy
    split at h
    · rename_i z obs hz
      have := HP.run_ret h
      subst this
      refine OpOK.val fun E ρ a w hG hR => ?_
      rw [← hG] at hx hy
      obtain ⟨V, h1, h2⟩ := binAV_sound hz hob (hR.ev hx) (hR.ev hy) P t x y w
      refine ⟨V, ?_, h2⟩
      unfold execOp
      simp only [ho]
      rw [Sem.run_bind, h1]; rfl
    · cases h
  · cases h
def pUn (op : UnOp) (x : Option AV) : HP Res :=
  match x with
  | some x => retV (unAV op x)
  | none => .fail
theorem sound_un {op : UnOp} {t : TypeId} {x : Operand} (ho : o.op = .unOp op t x) (h : (pUn op (S.ev C.G x)).run S.blk = some (r, l)) : OpOK P C.G C.pin o S r := by
  unfold pUn at h
  split at h
  · rename_i u hx
    unfold retV at h
    split at h
    · rename_i v hv
      have := HP.run_ret h
      subst this
      refine OpOK.val fun E ρ a w hG hR => ?_
      rw [← hG] at hx
      obtain ⟨V, h1, h2⟩ := unAV_sound hv (hR.ev hx) P w
      refine ⟨V, ?_, h2⟩
      unfold execOp
      simp only [ho]
      rw [Sem.run_bind, h1]; rfl
    · cases h
  · cases h
def Cfg.arr (C : Cfg) (t : TypeId) : Option (Nat × TypeId) :=
  match C.ty t with | some i => (match i.td with | .arr n e => some (n, e) | _ => none) | none => none
def Cfg.slc (C : Cfg) (t : TypeId) : Option TypeId :=
  match C.ty t with | some i => (match i.td with | .slice e => some e | _ => none) | none => none
theorem Cfg.arr_ok (hT : TysOK P C.ty) {t : TypeId} {n : Nat} {e : TypeId} (h : C.arr t = some (n, e)) : P.underlying t = some (.array n e) := by
  unfold Cfg.arr at h
  split at h
  · rename_i i hi
    have hok := (hT t i hi).td
    split at h
    · rename_i n' e' htd
      rw [htd] at hok
      injection h with h
      injection h with h1 h2
      subst h1 h2
      exact hok
    · cases h
  · cases h
theorem Cfg.slc_ok (hT : TysOK P C.ty) {t e : TypeId} (h : C.slc t = some e) : P.underlying t = some (.slice e) := by
  unfold Cfg.slc at h
  split at h
  · rename_i i hi
    have hok := (hT t i hi).td
    split at h
    · rename_i e' htd
      rw [htd] at hok
      injection h with h
      subst h
      exact hok
    · cases h
  · cases h
def inb (i : Int) (n : Nat) : List Prop := [0 ≤ i, i < (n : Int)]
def pIndexAddr (C : Cfg) (t : TypeId) (x ix : Option AV) : HP Res :=
  match ix with
  | some (.int k i) => match C.arr t with
    | some (n, e) => match C.ty e, x with
      | some ei, some (.ptr id p off) => .ret { v := some (.ptr id (p ++ [(toI k i).toNat]) (off + (toI k i).toNat * ei.sz)), obs := inb (toI k i) n }
      | some ei, some (.ept own (.arr n' d) xs) => if d.sz = ei.sz ∧ n' = n then .ret { v := some (.ept own d (List.getD xs (toI k i).toNat d.dflt)), obs := inb (toI k i) n } else .fail
      | _, _ => .fail
    | none => match C.slc t with
      | some e => match C.ty e, x with
        | some ei, some (.tsl id p j off sz len) => if sz = ei.sz then .ret { v := some (.ptr id (p ++ [j + (toI k i).toNat]) (off + (toI k i).toNat * sz)), obs := inb (toI k i) len } else .fail
        | some ei, some (.pure (.slice own d) xs) => if d.sz = ei.sz then .ret { v := some (.ept own d (List.getD xs (toI k i).toNat d.dflt)), obs := inb (toI k i) (List.length xs) } else .fail
        | _, _ => .fail
      | none => .fail
  | _ => .fail
theorem toNat_lt' {i : Int} {n : Nat} (h0 : 0 ≤ i) (h1 : i < (n : Int)) : i.toNat < n := by omega
theorem sound_indexAddr (hT : TysOK P C.ty) {t : TypeId} {x ix : Operand} (ho : o.op = .indexAddr t x ix) (h : (pIndexAddr C t (S.ev C.G x) (S.ev C.G ix)).run S.blk = some (r, l)) (hob : ∀ q ∈ r.obs, q) : OpOK P C.G C.pin o S r := by
  unfold pIndexAddr at h
  split at h
  case h_2 => cases h
  rename_i k i hix
  split at h
  · rename_i n e hce
    have hu := Cfg.arr_ok hT hce
    split at h
    · rename_i ei id p off hei hx
      have := HP.run_ret h
      subst this
      have hb0 : 0 ≤ toI k i := hob _ (by simp [inb])
      have hb1 : toI k i < (n : Int) := hob _ (by simp [inb])
      refine OpOK.val fun E ρ a w hG hR => ?_
      rw [← hG] at hx hix
      obtain ⟨g, o', hb, hr, heq⟩ := (hR.ev hx).ptr_inv
      have hi := (hR.ev hix).int_inv
      refine ⟨.pointer (some ⟨g, o' + (off + (toI k i).toNat * ei.sz), none⟩), ?_, .one _ _ rfl (.ptr _ _ _ g o' hb hr)⟩
      unfold execOp
      simp only [ho, heq, hi, Instr.indexAt, asIntOf, Sem.run_bind, Sem.run_pure, Result.andThen_ok, run_underlying hu, Instr.sureAddr]
      rw [if_pos ⟨hb0, hb1⟩]
      simp only [Sem.run_bind, (hT e ei hei).sizeOf, Result.andThen_ok, add_none, Sem.run_pure, Nat.add_assoc]
    · rename_i ei own n' d xs hei hx
      split at h
      · rename_i hcond
        have := HP.run_ret h
        subst this
        have hb0 : 0 ≤ toI k i := hob _ (by simp [inb])
        have hb1 : toI k i < (n : Int) := hob _ (by simp [inb])
        refine OpOK.val fun E ρ a w hG hR => ?_
        rw [← hG] at hx hix
        obtain ⟨b, o', rc, el, fr, flat, hok, hh, hrd, hfl, heq⟩ := (hR.ev hx).ept_inv
        have hi := (hR.ev hix).int_inv
        have hlen : List.length (α := d.T) xs = n := hrd.1.trans hcond.2
        have hlt := toNat_lt' hb0 hb1
        have hg := getD_some (l := (xs : List d.T)) d.dflt hlen hlt
        have h1 := RL.get (R := Reads _ _ d) (fun _ _ hh => Reads.len hh) hrd.2 hg
        have hcl := RL.len (R := Reads _ _ d) (fun _ _ hh => Reads.len hh) hrd.2
        rw [hlen] at hcl
        have hle : (toI k i).toNat * d.sz + d.sz ≤ flat.length := by rw [hcl, ← Nat.succ_mul]; exact Nat.mul_le_mul_right _ hlt
        have hcl2 : ((flat.drop ((toI k i).toNat * d.sz)).take d.sz).length = d.sz := by rw [List.length_take, List.length_drop]; omega
        refine ⟨.pointer (some ⟨b, o' + (toI k i).toNat * d.sz, none⟩), ?_, .one _ _ rfl (ept_part hok hh hfl h1 (by rw [hcl2]) (by rw [hcl2]; exact hle))⟩
        unfold execOp
        simp only [ho, heq, hi, Instr.indexAt, asIntOf, Sem.run_bind, Sem.run_pure, Result.andThen_ok, run_underlying hu, Instr.sureAddr]
        rw [if_pos ⟨hb0, hb1⟩]
        simp only [Sem.run_bind, (hT e ei hei).sizeOf, Result.andThen_ok, add_none, Sem.run_pure, hcond.1]
      · cases h
    · cases h
  · split at h
    · rename_i e hce
      have hu := Cfg.slc_ok hT hce
      split at h
      · rename_i ei id p j off sz len hei hx
        split at h
        · rename_i hcond
          have := HP.run_ret h
          subst this
          have hb0 : 0 ≤ toI k i := hob _ (by simp [inb])
          have hb1 : toI k i < (len : Int) := hob _ (by simp [inb])
          refine OpOK.val fun E ρ a w hG hR => ?_
          rw [← hG] at hx hix
          have hi := (hR.ev hix).int_inv
          rcases (hR.ev hx).tsl_inv with ⟨_, _, h0, _⟩ | ⟨g, o', cap, A, rc, el, fr, hb, hr, hl, hA, hh, hs, heq⟩
          · omega
          · have hA' := hA (by omega)
            subst hA'
            refine ⟨.pointer (some ⟨g, o' + (off + (toI k i).toNat * sz), none⟩), ?_, .one _ _ rfl (.ptr _ _ _ g o' hb hr)⟩
            unfold execOp
            simp only [ho, heq, hi, Instr.indexAt, asIntOf, Sem.run_bind, Sem.run_pure, Result.andThen_ok, run_underlying hu]
            rw [if_pos ⟨hb0, hb1⟩]
            simp only [Sem.run_bind, (hT e ei hei).sizeOf, Result.andThen_ok, add_none, Sem.run_pure, Nat.add_assoc, hcond]
        · cases h
      · rename_i ei own d xs hei hx
        split at h
        · rename_i hcond
          have := HP.run_ret h
          subst this
          have hb0 : 0 ≤ toI k i := hob _ (by simp [inb])
          have hb1 : toI k i < ((List.length xs : Nat) : Int) := hob _ (by simp [inb])
          refine OpOK.val fun E ρ a w hG hR => ?_
          rw [← hG] at hx hix
          have hi := (hR.ev hix).int_inv
          obtain ⟨A, cap, e1, e2, e3⟩ := (hR.ev hx).slice_inv
          injection e1 with e1 _
          have hlt := toNat_lt' hb0 hb1
          rcases e3 with e3 | ⟨b, off, rc, el, fr, flat, f1, f2, f3, f4, f5⟩
          · subst e3; simp at hlt
          · subst f1
            have hg := getD_some (l := (xs : List d.T)) d.dflt rfl hlt
            have h1 := RL.get (R := Reads _ _ d) (fun _ _ hh => Reads.len hh) f4 hg
            have hcl := RL.len (R := Reads _ _ d) (fun _ _ hh => Reads.len hh) f4
            have hle : (toI k i).toNat * d.sz + d.sz ≤ flat.length := by rw [hcl, ← Nat.succ_mul]; exact Nat.mul_le_mul_right _ hlt
            have hcl2 : ((flat.drop ((toI k i).toNat * d.sz)).take d.sz).length = d.sz := by rw [List.length_take, List.length_drop]; omega
            refine ⟨.pointer (some ⟨b, off + (toI k i).toNat * d.sz, none⟩), ?_, .one _ _ rfl (ept_part f2 f3 f5 h1 (by rw [hcl2]) (by rw [hcl2]; exact hle))⟩
            unfold execOp
            simp only [ho, e1, hi, Instr.indexAt, asIntOf, Sem.run_bind, Sem.run_pure, Result.andThen_ok, run_underlying hu]
            rw [if_pos ⟨hb0, hb1⟩]
            simp only [Sem.run_bind, (hT e ei hei).sizeOf, Result.andThen_ok, add_none, Sem.run_pure, hcond]
        · cases h
      · cases h
    · cases h
end
end Go.Vc

namespace Go.Vc
section
variable {P : Program} {C : Cfg} {S : AS} {o : Oper} {r : Res} {l : List Nat}
theorem run_part {t : TypeId} {i : TyI} (hi : TyOK P t i) {c : Ctx} {w : World} {cs : Array Value} {v : AV} {q : Nat} {c1 : List Value}
    (hv : RC c v c1) (hc : (cs.toList.drop q).take c1.length = c1) (hle : q + c1.length ≤ cs.size) (ha : v.isAgg = i.td.agg) (hs : v.size = i.sz) : ∃ V, (part t cs q).run P w = .ok V w ∧ RV c v V := by
  have hl := hv.len
  cases hag : i.td.agg with
  | true =>
    refine ⟨.agg c1.toArray, ?_, .agg _ _ (by rw [ha, hag]) (by simpa using hv)⟩
    have e : cs.extract q (q + i.sz) = c1.toArray := by
      apply Array.ext'
      simp only [Array.toList_extract, List.extract_eq_take_drop]
      rw [← hs, ← hl, Nat.add_sub_cancel_left, hc]
    simp only [part, Sem.run_bind, hi.isAgg, hag, Result.andThen_ok, if_true, hi.sizeOf, Sem.run_pure, e]
  | false =>
    have h1 : c1.length = 1 := by
      cases hv <;> first
        | rfl
        | (rw [hag] at ha; cases ha; done)
        | skip
      rename_i d x hr
      rw [hr.len]
      rw [hag] at ha
      cases d <;> first | rfl | cases ha
    obtain ⟨V, hV⟩ : ∃ V, c1 = [V] := by
      cases c1 with
      | nil => cases h1
      | cons V r => cases r with
        | nil => exact ⟨V, rfl⟩
        | cons => simp at h1
    subst hV
    have hg : cs[q]? = some V := by
      have h2 : ((cs.toList.drop q).take 1)[0]? = some V := by
        simp only [List.length_cons, List.length_nil] at hc
        rw [hc]; rfl
      rw [List.getElem?_take_of_lt (by omega), List.getElem?_drop] at h2
      rw [← Array.getElem?_toList]; exact h2
    refine ⟨V, ?_, .one _ _ (by rw [ha, hag]) hv⟩
    simp only [part, Sem.run_bind, hi.isAgg, hag, Result.andThen_ok, Bool.false_eq_true, if_false, hg, Sem.run_pure]
def pIndex (C : Cfg) (t : TypeId) (x ix : Option AV) : HP Res :=
  match ix, x with
  | some (.int k i), some (.pure (.arr n' d) xs) => match C.arr t with
    | some (n, e) => match C.ty e with
      | some ei => if d.sz = ei.sz ∧ n' = n ∧ (AV.ofKd d (List.getD xs (toI k i).toNat d.dflt)).isAgg = ei.td.agg then .ret { v := some (.ofKd d (List.getD xs (toI k i).toNat d.dflt)), obs := inb (toI k i) n } else .fail
      | none => .fail
    | none => .fail
  | some (.int k i), some (.str s) => .ret { v := some (.int .u8 (s.getD (toI k i).toNat 0)), obs := inb (toI k i) s.length }
  | _, _ => .fail
theorem ty_str {t : TypeId} : True := trivial
def Cfg.isStr (C : Cfg) (t : TypeId) : Bool := match C.ty t with | some i => (match i.td with | .str => true | _ => false) | none => false
theorem Cfg.isStr_ok (hT : TysOK P C.ty) {t : TypeId} (h : C.isStr t = true) : P.underlying t = some .string := by
  unfold Cfg.isStr at h
  split at h
  · rename_i i hi
    have hok := (hT t i hi).td
    split at h
    · rename_i htd; rw [htd] at hok; exact hok
    · cases h
  · cases h
def pIndexS (C : Cfg) (t : TypeId) (x ix : Option AV) : HP Res :=
  match ix, x with
  | some (.int k i), some (.str s) => if C.isStr t = true then .ret { v := some (.int .u8 (s.getD (toI k i).toNat 0)), obs := inb (toI k i) s.length } else .fail
  | some (.int k i), some (.pure (.arr n' d) xs) => match C.arr t with
    | some (n, e) => match C.ty e with
      | some ei => if d.sz = ei.sz ∧ n' = n ∧ (AV.ofKd d (List.getD xs (toI k i).toNat d.dflt)).isAgg = ei.td.agg then .ret { v := some (.ofKd d (List.getD xs (toI k i).toNat d.dflt)), obs := inb (toI k i) n } else .fail
      | none => .fail
    | none => .fail
  | _, _ => .fail
theorem sound_index (hT : TysOK P C.ty) {t : TypeId} {x ix : Operand} (ho : o.op = .index t x ix) (h : (pIndexS C t (S.ev C.G x) (S.ev C.G ix)).run S.blk = some (r, l)) (hob : ∀ q ∈ r.obs, q) : OpOK P C.G C.pin o S r := by
  unfold pIndexS at h
  split at h
  · rename_i k i s hix hx
    split at h
    · rename_i hst
      have hu := Cfg.isStr_ok hT hst
      have := HP.run_ret h
      subst this
      have hb0 : 0 ≤ toI k i := hob _ (by simp [inb])
      have hb1 : toI k i < ((s.length : Nat) : Int) := hob _ (by simp [inb])
      refine OpOK.val fun E ρ a w hG hR => ?_
      rw [← hG] at hx hix
      have heq := (hR.ev hx).str_inv
      have hi := (hR.ev hix).int_inv
      have hlt := toNat_lt' hb0 hb1
      refine ⟨.int .u8 ((s.getD (toI k i).toNat 0).toNat : Int), ?_, .one _ _ rfl (.int .u8 _)⟩
      have hg : (⟨⟨s⟩⟩ : ByteArray)[(toI k i).toNat]? = some (s.getD (toI k i).toNat 0) := by
        have hs : (toI k i).toNat < (⟨⟨s⟩⟩ : ByteArray).size := hlt
        rw [getElem?_pos (⟨⟨s⟩⟩ : ByteArray) (toI k i).toNat hs, List.getD_eq_getElem?_getD, List.getElem?_eq_getElem hlt]
        rfl
      unfold execOp
      simp only [ho, heq, hi, Instr.index, asIntOf, Sem.run_bind, Sem.run_pure, Result.andThen_ok, run_underlying hu]
      rw [if_pos hb0]
      simp only [hg, Sem.run_pure, Result.andThen_ok]
    · cases h
  · rename_i k i n' d xs hix hx
    split at h
    · rename_i n e hce
      have hu := Cfg.arr_ok hT hce
      split at h
      · rename_i ei hei
        split at h
        · rename_i hcond
          have := HP.run_ret h
          subst this
          have hb0 : 0 ≤ toI k i := hob _ (by simp [inb])
          have hb1 : toI k i < (n : Int) := hob _ (by simp [inb])
          refine OpOK.val fun E ρ a w hG hR => ?_
          rw [← hG] at hx hix
          obtain ⟨cs, heq, hrd⟩ := (hR.ev hx).pure_inv rfl
          have hi := (hR.ev hix).int_inv
          have hlen : List.length (α := d.T) xs = n := hrd.1.trans hcond.2.1
          have hlt := toNat_lt' hb0 hb1
          have hg := getD_some (l := (xs : List d.T)) d.dflt hlen hlt
          have h1 := RL.get (R := Reads _ _ d) (fun _ _ hh => Reads.len hh) hrd.2 hg
          have hcl := RL.len (R := Reads _ _ d) (fun _ _ hh => Reads.len hh) hrd.2
          rw [hlen] at hcl
          have hle : (toI k i).toNat * d.sz + d.sz ≤ cs.toList.length := by rw [hcl, ← Nat.succ_mul]; exact Nat.mul_le_mul_right _ hlt
          have hcl2 : ((cs.toList.drop ((toI k i).toNat * d.sz)).take d.sz).length = d.sz := by rw [List.length_take, List.length_drop]; omega
          obtain ⟨V, g1, g2⟩ := run_part (P := P) (hT e ei hei) (w := w) (cs := cs) (q := (toI k i).toNat * d.sz) (RC.ofKd h1) (by rw [hcl2]) (by rw [hcl2]; rw [Array.length_toList] at hle; exact hle) hcond.2.2 (by rw [AV.size_ofKd]; exact hcond.1)
          refine ⟨V, ?_, g2⟩
          unfold execOp
          simp only [ho, heq, hi, Instr.index, asIntOf, Sem.run_bind, Sem.run_pure, Result.andThen_ok, run_underlying hu]
          rw [if_pos ⟨hb0, hb1⟩]
          simp only [Sem.run_bind, (hT e ei hei).sizeOf, Result.andThen_ok, ← hcond.1, g1, Sem.run_pure]
        · cases h
      · cases h
    · cases h
  · cases h
def pField (C : Cfg) (t : TypeId) (x : Option AV) (f : Nat) : HP Res :=
  match C.fld t f, x with
  | some (ft, off, s), some x => match C.ty ft, x.at [f] with
    | some fi, some v => if v.isAgg = fi.td.agg ∧ v.size = fi.sz ∧ x.off [f] = off ∧ x.isAgg = true then .ret { v := some v, obs := x.ob [f] } else .fail
    | _, _ => .fail
  | _, _ => .fail
theorem sound_field (hT : TysOK P C.ty) {t : TypeId} {x : Operand} {f : Nat} (ho : o.op = .field t x f) (h : (pField C t (S.ev C.G x) f).run S.blk = some (r, l)) (hob : ∀ q ∈ r.obs, q) : OpOK P C.G C.pin o S r := by
  unfold pField at h
  split at h
  · rename_i ft off s u hf hx
    split at h
    · rename_i fi v hfi hat
      split at h
      · rename_i hcond
        have := HP.run_ret h
        subst this
        obtain ⟨fields, fd, j, h1, h2, h3, h4, h5, h6⟩ := Cfg.fld_ok hT hf
        refine OpOK.val fun E ρ a w hG hR => ?_
        rw [← hG] at hx
        have hv := hR.ev hx
        obtain ⟨cs, heq, hrc⟩ : ∃ cs : Array Value, a.eval x = .agg cs ∧ RC (ctx E ρ S.blk w) u cs.toList := by
          generalize a.eval x = X at hv
          cases hv with
          | agg _ cs _ hc => exact ⟨cs, rfl, hc⟩
          | one _ _ h0 => rw [hcond.2.2.2] at h0; cases h0
          | tuple l => cases hcond.2.2.2
        obtain ⟨g1, g2⟩ := AV.at_sound hrc hat hob
        have hl := g1.len
        obtain ⟨V, g3, g4⟩ := run_part (P := P) (hT ft fi hfi) (w := w) (cs := cs) (q := u.off [f]) g1 (by rw [hl]) (by rw [hl]; rw [Array.length_toList] at g2; exact g2) hcond.1 hcond.2.1
        refine ⟨V, ?_, g4⟩
        subst h3 h4
        rw [hcond.2.2.1] at g3
        unfold execOp
        simp only [ho, heq, Instr.field, Sem.run_bind, run_underlying h1, Result.andThen_ok, h2, asAgg, Sem.run_pure, g3]
      · cases h
    · cases h
  · cases h
def loB (x : Option (Option AV)) : Option (Nat × List Prop) :=
  match x with
  | none => some (0, [])
  | some (some (.int k i)) => some ((toI k i).toNat, [0 ≤ toI k i])
  | _ => none
def hiB (x : Option (Option AV)) (n : Nat) : Option (Nat × List Prop) :=
  match x with
  | none => some (n, [])
  | some (some (.int k i)) => some ((toI k i).toNat, [0 ≤ toI k i])
  | _ => none
def pSlice (C : Cfg) (t : TypeId) (x : Option AV) (lo hi : Option (Option AV)) : HP Res :=
  match x with
  | some (.str s) => match loB lo, hiB hi s.length with
    | some (a, o1), some (b, o2) => if C.isStr t = true then .ret { v := some (.str ((s.drop a).take (b - a))), obs := (a ≤ b) :: (b ≤ s.length) :: (o1 ++ o2) } else .fail
    | _, _ => .fail
  | some (.pure (.slice own d) xs) => match loB lo, hiB hi (List.length xs), C.slc t with
    | some (a, o1), some (b, o2), some e => match C.ty e with
      | some ei => if ei.sz = d.sz then .ret { v := some (.pure (.slice own d) ((List.drop (α := d.T) a xs).take (b - a))), obs := (a ≤ b) :: (b ≤ List.length xs) :: (o1 ++ o2) } else .fail
      | none => .fail
    | _, _, _ => .fail
  | some (.tsl id p i off sz len) => match loB lo, hiB hi len, C.slc t with
    | some (a, o1), some (b, o2), some e => match C.ty e with
      | some ei => if ei.sz = sz then .ret { v := some (.tsl id p (i + a) (off + a * sz) sz (b - a)), obs := (a ≤ b) :: (b ≤ len) :: (o1 ++ o2) } else .fail
      | none => .fail
    | _, _, _ => .fail
  | some (.ptr id p off) => match C.arr t with
    | some (n, e) => match loB lo, hiB hi n, C.ty e with
      | some (a, o1), some (b, o2), some ei => .get id fun c => match c.at p with
        | some (.pure (.arr N d) xs) => if N = n ∧ d.sz = ei.sz then .ret { v := some (.tsl id p a (off + a * d.sz) d.sz (b - a)), obs := (off = c.off p) :: (a ≤ b) :: (b ≤ n) :: (o1 ++ o2 ++ c.ob p) } else .fail
        | _ => .fail
      | _, _, _ => .fail
    | none => .fail
  | _ => .fail
theorem run_bounds {c : Ctx} {lo hi : Option Operand} {ev : Operand → Option AV} {ρv : Operand → Value} (hev : ∀ x v, ev x = some v → RV c v (ρv x)) {n : Nat} {a b : Nat} {o1 o2 : List Prop} (h1 : loB (lo.map ev) = some (a, o1)) (h2 : hiB (hi.map ev) n = some (b, o2))
    (ho1 : ∀ q ∈ o1, q) (ho2 : ∀ q ∈ o2, q) (hab : a ≤ b) {isS : Bool} {cap : Nat} (hb : b ≤ cap) (w : World) : (Instr.sliceBounds isS n cap (lo.map ρv) (hi.map ρv) none).run P w = .ok (a, b, cap) w := by
  have key : ∀ (x : Operand) (k : IntKind) (i : IntT k) (y : Nat) (code : BoundsCode), ev x = some (.int k i) → 0 ≤ toI k i → (toI k i).toNat ≤ y → (Instr.sliceBound (ρv x) y code).run P w = .ok (toI k i).toNat w := by
    intro x k i y code hx h0 hy
    have := (hev x _ hx).int_inv
    simp only [Instr.sliceBound, this, asIntOf, Sem.run_bind, Sem.run_pure, Result.andThen_ok]
    rw [if_pos ⟨h0, by omega⟩]; rfl
  unfold Instr.sliceBounds
  cases hi with
  | none =>
    simp only [Option.map_none, hiB, Option.some.injEq, Prod.mk.injEq] at h2
    obtain ⟨h2, _⟩ := h2
    subst h2
    cases lo with
    | none =>
      simp only [Option.map_none, loB, Option.some.injEq, Prod.mk.injEq] at h1
      obtain ⟨h1, _⟩ := h1
      subst h1
      rfl
    | some y =>
      simp only [Option.map_some, loB] at h1
      split at h1
      · rename_i e; cases e
      · rename_i k i e
        simp only [Option.some.injEq, Prod.mk.injEq] at h1
        obtain ⟨h1, h3⟩ := h1
        subst h1 h3
        injection e with e
        simp only [Option.map_none, Option.map_some, Sem.run_bind, Sem.run_pure, Result.andThen_ok, Option.isSome_none, Bool.false_eq_true, if_false, key y k i n _ e (ho1 _ (List.mem_singleton.2 rfl)) hab]
      · cases h1
  | some x =>
    simp only [Option.map_some, hiB] at h2
    split at h2
    · rename_i e; cases e
    · rename_i k' i' e'
      simp only [Option.some.injEq, Prod.mk.injEq] at h2
      obtain ⟨h2, h4⟩ := h2
      subst h2 h4
      injection e' with e'
      have kx := fun code => key x k' i' cap code e' (ho2 _ (List.mem_singleton.2 rfl)) hb
      cases lo with
      | none =>
        simp only [Option.map_none, loB, Option.some.injEq, Prod.mk.injEq] at h1
        obtain ⟨h1, _⟩ := h1
        subst h1
        simp only [Option.map_none, Option.map_some, Sem.run_bind, Sem.run_pure, Result.andThen_ok, Option.isSome_none, Bool.false_eq_true, if_false, kx]
      | some y =>
        simp only [Option.map_some, loB] at h1
        split at h1
        · rename_i e; cases e
        · rename_i k i e
          simp only [Option.some.injEq, Prod.mk.injEq] at h1
          obtain ⟨h1, h3⟩ := h1
          subst h1 h3
          injection e with e
          simp only [Option.map_none, Option.map_some, Sem.run_bind, Sem.run_pure, Result.andThen_ok, Option.isSome_none, Bool.false_eq_true, if_false, kx, key y k i _ _ e (ho1 _ (List.mem_singleton.2 rfl)) hab]
        · cases h1
    · cases h2
theorem sound_slice (hT : TysOK P C.ty) {t : TypeId} {x : Operand} {lo hi : Option Operand} (ho : o.op = .slice t x lo hi none) (h : (pSlice C t (S.ev C.G x) (lo.map (S.ev C.G)) (hi.map (S.ev C.G))).run S.blk = some (r, l)) (hob : ∀ q ∈ r.obs, q) : OpOK P C.G C.pin o S r := by
  unfold pSlice at h
  split at h
  · rename_i s hx
    split at h
    · rename_i a o1 b o2 hlo hhi
      split at h
      · rename_i hst
        have hu := Cfg.isStr_ok hT hst
        have := HP.run_ret h
        subst this
        simp only [List.mem_cons, forall_eq_or_imp, List.mem_append] at hob
        obtain ⟨hb1, hb2, hb3⟩ := hob
        refine OpOK.val fun E ρ ac w hG hR => ?_
        rw [← hG] at hx hlo hhi
        have heq := (hR.ev hx).str_inv
        have hb := run_bounds (P := P) (fun x v hv => hR.ev hv) hlo hhi (fun q hq => hb3 q (.inl hq)) (fun q hq => hb3 q (.inr hq)) hb1 (isS := false) (cap := s.length) hb2 w
        refine ⟨.string ⟨⟨(s.drop a).take (b - a)⟩⟩, ?_, .one _ _ rfl (.str _)⟩
        unfold execOp
        have hsz : (⟨⟨s⟩⟩ : ByteArray).size = s.length := rfl
        simp only [ho, heq, Instr.sliceAt, Sem.run_bind, run_underlying hu, Result.andThen_ok, Instr.slice, Option.map_none, Option.isSome_none, Bool.false_eq_true, if_false, hsz, hb, Sem.run_pure, pure_bind]
        congr 2
        apply congrArg
        apply ByteArray.ext
        apply Array.ext'
        rw [Lib.extract_data]
      · cases h
    · cases h
  · rename_i own d xs hx
    split at h
    · rename_i a o1 b o2 e hlo hhi hce
      have hu := Cfg.slc_ok hT hce
      split at h
      · rename_i ei hei
        split at h
        · rename_i hcond
          have := HP.run_ret h
          subst this
          simp only [List.mem_cons, forall_eq_or_imp, List.mem_append] at hob
          obtain ⟨hb1, hb2, hb3⟩ := hob
          refine OpOK.val fun E ρ ac w hG hR => ?_
          rw [← hG] at hx hlo hhi
          obtain ⟨A, cap, e1, e2, e3⟩ := (hR.ev hx).slice_inv
          injection e1 with e1 _
          have hb := run_bounds (P := P) (fun x v hv => hR.ev hv) hlo hhi (fun q hq => hb3 q (.inl hq)) (fun q hq => hb3 q (.inr hq)) hb1 (isS := true) (cap := cap) (by omega) w
          have hlen : ((List.drop (α := d.T) a xs).take (b - a)).length = b - a := by rw [List.length_take, List.length_drop]; omega
          refine ⟨.slice (if cap = a then A else A.map (·.add (a * d.sz))) (b - a) (cap - a), ?_, .one _ _ rfl (.pure _ _ _ ⟨_, cap - a, by rw [hlen], by rw [hlen]; omega, ?_⟩)⟩
          · unfold execOp
            simp only [ho, e1, Instr.sliceAt, Sem.run_bind, run_underlying hu, Result.andThen_ok, Instr.slice, Option.map_none, hb, (hT e ei hei).sizeOf, Sem.run_pure, hcond]
          · rcases Nat.eq_zero_or_pos (b - a) with h0 | h0
            · left; exact List.eq_nil_of_length_eq_zero (by rw [hlen]; exact h0)
            · right
              rcases e3 with e3 | ⟨bk, off, rc, el, fr, flat, f1, f2, f3, f4, f5⟩
              · subst e3; simp at hb2; omega
              · have h6 := RL.take (R := Reads _ _ d) (fun _ _ hh => Reads.len hh) (b - a) (RL.drop (R := Reads _ _ d) (fun _ _ hh => Reads.len hh) a f4)
                have hcl := RL.len (R := Reads _ _ d) (fun _ _ hh => Reads.len hh) f4
                have hle : a * d.sz + (b - a) * d.sz ≤ flat.length := by rw [hcl, ← Nat.add_mul]; exact Nat.mul_le_mul_right _ (by omega)
                have hcl2 : ((flat.drop (a * d.sz)).take ((b - a) * d.sz)).length = (b - a) * d.sz := by rw [List.length_take, List.length_drop]; omega
                refine ⟨bk, off + a * d.sz, rc, el, fr, _, ?_, f2, f3, h6, ?_⟩
                · rw [if_neg (by omega), f1]; simp [add_none]
                · rw [hcl2]
                  conv => rhs; rw [← f5]
                  rw [sub_sub _ _ _ _ _ hle]
        · cases h
      · cases h
    · cases h
  · rename_i id p i off sz len hx
    split at h
    · rename_i a o1 b o2 e hlo hhi hce
      have hu := Cfg.slc_ok hT hce
      split at h
      · rename_i ei hei
        split at h
        · rename_i hcond
          have := HP.run_ret h
          subst this
          simp only [List.mem_cons, forall_eq_or_imp, List.mem_append] at hob
          obtain ⟨hb1, hb2, hb3⟩ := hob
          refine OpOK.val fun E ρ ac w hG hR => ?_
          rw [← hG] at hx hlo hhi
          rcases (hR.ev hx).tsl_inv with ⟨hbn, hr, h0, heq⟩ | ⟨g, o', cap, A, rc, el, fr, hbn, hr, hl, hA, hh, hs, heq⟩
          · subst h0
            have hb := run_bounds (P := P) (fun x v hv => hR.ev hv) hlo hhi (fun q hq => hb3 q (.inl hq)) (fun q hq => hb3 q (.inr hq)) hb1 (isS := true) (cap := 0) hb2 w
            refine ⟨.slice none 0 0, ?_, .one _ _ rfl (.tslv _ _ _ _ _ _ hbn hr (by omega))⟩
            obtain ⟨rfl, rfl⟩ : b = 0 ∧ a = 0 := by omega
            unfold execOp
            simp only [ho, heq, Instr.sliceAt, Sem.run_bind, run_underlying hu, Result.andThen_ok, Instr.slice, Option.map_none, hb, (hT e ei hei).sizeOf, Sem.run_pure, if_true]
          · have hb := run_bounds (P := P) (fun x v hv => hR.ev hv) hlo hhi (fun q hq => hb3 q (.inl hq)) (fun q hq => hb3 q (.inr hq)) hb1 (isS := true) (cap := cap) (by omega) w
            refine ⟨.slice (if cap = a then A else A.map (·.add (a * sz))) (b - a) (cap - a), ?_, .one _ _ rfl (.tsl _ _ _ _ _ _ g o' (cap - a) _ hbn hr (by omega) ?_ rc el fr hh ?_)⟩
            · unfold execOp
              simp only [ho, heq, Instr.sliceAt, Sem.run_bind, run_underlying hu, Result.andThen_ok, Instr.slice, Option.map_none, hb, (hT e ei hei).sizeOf, Sem.run_pure, hcond]
            · intro hpos
              rw [if_neg (by omega), hA (by omega)]
              simp [add_none, Nat.add_assoc]
            · rcases hs with hs | hs
              · left; omega
              · right
                have : a * sz + (cap - a) * sz = cap * sz := by rw [← Nat.add_mul]; congr 1; omega
                omega
        · cases h
      · cases h
    · cases h
  · rename_i id p off hx
    split at h
    · rename_i n e hce
      have hu := Cfg.arr_ok hT hce
      split at h
      · rename_i a o1 b o2 ei hlo hhi hei
        obtain ⟨bk, l', h1, h2, h3⟩ := HP.run_get h
        split at h2
        · rename_i N d xs hat
          split at h2
          · rename_i hcond
            have := HP.run_ret h2
            subst this
            simp only [List.mem_cons, forall_eq_or_imp, List.mem_append] at hob
            obtain ⟨hb0, hb1, hb2, hb3⟩ := hob
            refine OpOK.val fun E ρ ac w hG hR => ?_
            rw [← hG] at hx hlo hhi
            obtain ⟨g, o', hbn, hr, heq⟩ := (hR.ev hx).ptr_inv
            have hb := run_bounds (P := P) (fun x v hv => hR.ev hv) hlo hhi (fun q hq => hb3 q (.inl (.inl hq))) (fun q hq => hb3 q (.inl (.inr hq))) hb1 (isS := false) (cap := n) hb2 w
            obtain ⟨rc, el, lo', hi', cs, f1, f2, f3, f4, f5⟩ := hR.at h1 hr hat (fun q hq => hb3 q (.inr hq)) (fun l e => by cases e)
            have hcl : cs.length = N * d.sz := f2.len
            refine ⟨.slice (some (if n = a then ⟨g, o' + off, none⟩ else ⟨g, o' + off + a * d.sz, none⟩)) (b - a) (n - a), ?_, .one _ _ rfl (.tsl _ _ _ _ _ _ g o' (n - a) _ hbn hr (by omega) ?_ rc el (lo', hi') f1 ?_)⟩
            · unfold execOp
              simp only [ho, heq, Instr.sliceAt, Sem.run_bind, run_underlying hu, Result.andThen_ok, Option.map_none, Instr.sureAddr, hb, (hT e ei hei).sizeOf, Sem.run_pure, hcond.2, add_none]
            · intro hpos
              rw [if_neg (by omega), Nat.add_assoc]
            · right
              have : a * d.sz + (n - a) * d.sz = n * d.sz := by rw [← Nat.add_mul]; congr 1; omega
              have hN := hcond.1
              subst hN
              omega
          · cases h2
        · cases h2
      · cases h
    · cases h
  · cases h
end
end Go.Vc

namespace Go.Vc
section
variable {P : Program} {C : Cfg} {S : AS} {o : Oper} {r : Res} {l : List Nat}
def pArrPtr (C : Cfg) (t : TypeId) (x : Option AV) : HP Res :=
  match C.arr t, x with
  | some (n, _), some (.tsl id p i off sz len) => if 0 < n then .ret { v := some (.arrp id p i off sz n), obs := [n ≤ len] } else .fail
  | some (n, _), some (.pure (.slice own d) xs) => if 0 < n then .ret { v := some (.ept own (.arr n d) (List.take (α := d.T) n xs)), obs := [n ≤ List.length xs] } else .fail
  | _, _ => .fail
theorem sound_arrPtr (hT : TysOK P C.ty) {t : TypeId} {x : Operand} (ho : o.op = .sliceToArrayPointer t x) (h : (pArrPtr C t (S.ev C.G x)).run S.blk = some (r, l)) (hob : ∀ q ∈ r.obs, q) : OpOK P C.G C.pin o S r := by
  unfold pArrPtr at h
  split at h
  · rename_i n e id p i off sz len hce hx
    have hu := Cfg.arr_ok hT hce
    split at h
    · rename_i hn
      have := HP.run_ret h
      subst this
      have hb := hob _ (List.mem_singleton.2 rfl)
      refine OpOK.val fun E ρ ac w hG hR => ?_
      rw [← hG] at hx
      rcases (hR.ev hx).tsl_inv with ⟨hbn, hr, h0, heq⟩ | ⟨g, o', cap, A, rc, el, fr, hbn, hr, hl, hA, hh, hs, heq⟩
      · omega
      · refine ⟨.pointer A, ?_, ?_⟩
        · unfold execOp
          simp only [ho, heq, Instr.arrayAt, Sem.run_bind, run_underlying hu, Result.andThen_ok]
          rw [if_neg (by omega)]; rfl
        · rw [hA (by omega)]
          exact .one _ _ rfl (.arrp _ _ _ _ _ _ g o' hbn hr)
    · cases h
  · rename_i n e own d xs hce hx
    have hu := Cfg.arr_ok hT hce
    split at h
    · rename_i hn
      have := HP.run_ret h
      subst this
      have hb := hob _ (List.mem_singleton.2 rfl)
      refine OpOK.val fun E ρ ac w hG hR => ?_
      rw [← hG] at hx
      obtain ⟨A, cap, e1, e2, e3⟩ := (hR.ev hx).slice_inv
      injection e1 with e1 _
      rcases e3 with e3 | ⟨bk, off, rc, el, fr, flat, f1, f2, f3, f4, f5⟩
      · subst e3; simp at hb; omega
      · have h6 := RL.take (R := Reads _ _ d) (fun _ _ hh => Reads.len hh) n f4
        have hcl := RL.len (R := Reads _ _ d) (fun _ _ hh => Reads.len hh) f4
        have hle : 0 + n * d.sz ≤ flat.length := by rw [hcl, Nat.zero_add]; exact Nat.mul_le_mul_right _ hb
        have hcl2 : (flat.take (n * d.sz)).length = n * d.sz := by rw [List.length_take]; omega
        refine ⟨.pointer A, ?_, ?_⟩
        · unfold execOp
          simp only [ho, e1, Instr.arrayAt, Sem.run_bind, run_underlying hu, Result.andThen_ok]
          rw [if_neg (by omega)]; rfl
        · rw [f1]
          refine .one _ _ rfl (.ept own (.arr n d) _ bk off rc el fr (flat.take (n * d.sz)) f2 f3 ⟨by rw [List.length_take]; omega, h6⟩ ?_)
          rw [hcl2]
          conv => rhs; rw [← f5]
          rw [List.take_take]
          congr 1
          omega
    · cases h
  · cases h
def pExtract (x : Option AV) (i : Nat) : HP Res :=
  match x with
  | some (.tuple l) => retV l[i]?
  | _ => .fail
theorem RVs.get {c : Ctx} : ∀ {l : List AV} {x : List Value} {i : Nat} {v : AV}, RVs c l x → l[i]? = some v → ∃ V, x[i]? = some V ∧ RV c v V
  | _, _, i, v, .nil, h => by simp at h
  | _, _, 0, v, .cons u r x y hv hr, h => by
    simp only [List.getElem?_cons_zero, Option.some.injEq] at h
    subst h
    exact ⟨x, rfl, hv⟩
  | _, _, i + 1, v, .cons u r x y hv hr, h => by
    simp only [List.getElem?_cons_succ] at h ⊢
    exact RVs.get hr h
theorem sound_extract {x : Operand} {i : Nat} (ho : o.op = .extract x i) (h : (pExtract (S.ev C.G x) i).run S.blk = some (r, l)) : OpOK P C.G C.pin o S r := by
  unfold pExtract at h
  split at h
  · rename_i ls hx
    unfold retV at h
    split at h
    · rename_i v hv
      have := HP.run_ret h
      subst this
      refine OpOK.val fun E ρ a w hG hR => ?_
      rw [← hG] at hx
      obtain ⟨vs, heq, hvs⟩ := (hR.ev hx).tuple_inv
      obtain ⟨V, h1, h2⟩ := hvs.get hv
      refine ⟨V, ?_, h2⟩
      unfold execOp
      simp only [ho, heq, Instr.extract, List.getElem?_toArray, h1, Sem.run_bind, Sem.run_pure, Result.andThen_ok]
    · cases h
  · cases h
def pLen (C : Cfg) (t : TypeId) (x : Option AV) : HP Res :=
  match x with
  | some (.str s) => if C.isStr t = true then .ret { v := some (.int .i64 (s.length : Int)) } else .fail
  | some (.pure (.slice _ d) xs) => match C.slc t with | some _ => .ret { v := some (.int .i64 ((List.length (α := d.T) xs : Nat) : Int)) } | none => .fail
  | some (.tsl _ _ _ _ _ len) => match C.slc t with | some _ => .ret { v := some (.int .i64 (len : Int)) } | none => .fail
  | some .nilsl => match C.slc t with | some _ => .ret { v := some (.int .i64 (0 : Int)) } | none => .fail
  | some _ => match C.arr t with | some (n, _) => .ret { v := some (.int .i64 (n : Int)) } | none => .fail
  | none => match C.arr t with | some (n, _) => .ret { v := some (.int .i64 (n : Int)) } | none => .fail
theorem RV.i64 {c : Ctx} (n : Int) : RV c (.int .i64 n) (.int .i64 n) := .one _ _ rfl (.int .i64 n)
theorem exec_builtin1 {b : Builtin} {x : Operand} {t : TypeId} (ho : o.op = .call { callee := .builtin b, args := #[x], argTypes := #[t] }) (a : Act) (w : World) :
    ∃ cs, (execOp a.eval o).run P w = (builtin b #[t] o.type cs #[a.eval x]).run P w := by
  apply Exists.intro
  unfold execOp
  simp only [ho, resolve, invoke, Sem.run_bind, Sem.run_pure, Result.andThen_ok, List.map_toArray, List.map_cons, List.map_nil]
  rfl
theorem exec_builtin2 {b : Builtin} {x y : Operand} {t u : TypeId} (ho : o.op = .call { callee := .builtin b, args := #[x, y], argTypes := #[t, u] }) (a : Act) (w : World) :
    ∃ cs, (execOp a.eval o).run P w = (builtin b #[t, u] o.type cs #[a.eval x, a.eval y]).run P w := by
  apply Exists.intro
  unfold execOp
  simp only [ho, resolve, invoke, Sem.run_bind, Sem.run_pure, Result.andThen_ok, List.map_toArray, List.map_cons, List.map_nil]
  rfl
theorem sound_len (hT : TysOK P C.ty) {t : TypeId} {x : Operand} (ho : o.op = .call { callee := .builtin .len, args := #[x], argTypes := #[t] }) (h : (pLen C t (S.ev C.G x)).run S.blk = some (r, l)) : OpOK P C.G C.pin o S r := by
  have key : ∀ (n : Int) (a : Act) (w : World), (Builtin.len_ #[t] o.type #[a.eval x]).run P w = .ok (goInt n) w → (execOp a.eval o).run P w = .ok (.value (.int .i64 n)) w := by
    intro n a w hl
    obtain ⟨cs, hcs⟩ := exec_builtin1 (P := P) ho a w
    rw [hcs]
    simp only [builtin, Sem.run_bind, hl, Result.andThen_ok, Sem.run_pure, goInt]
  unfold pLen at h
  split at h
  · rename_i s hx
    split at h
    · rename_i hst
      have hu := Cfg.isStr_ok hT hst
      have := HP.run_ret h
      subst this
      refine OpOK.val fun E ρ a w hG hR => ?_
      rw [← hG] at hx
      have heq := (hR.ev hx).str_inv
      refine ⟨_, key _ a w ?_, RV.i64 _⟩
      simp only [heq, Builtin.len_, List.getElem?_toArray, List.getElem?_cons_zero, Sem.run_bind, run_underlying hu, Result.andThen_ok]
      rfl
    · cases h
  · rename_i own d xs hx
    split at h
    · rename_i e hce
      have hu := Cfg.slc_ok hT hce
      have := HP.run_ret h
      subst this
      refine OpOK.val fun E ρ a w hG hR => ?_
      rw [← hG] at hx
      obtain ⟨A, cap, e1, e2, e3⟩ := (hR.ev hx).slice_inv
      injection e1 with e1 _
      refine ⟨_, key _ a w ?_, RV.i64 _⟩
      simp only [e1, Builtin.len_, List.getElem?_toArray, List.getElem?_cons_zero, Sem.run_bind, run_underlying hu, Result.andThen_ok]
      rfl
    · cases h
  · rename_i id p i off sz len hx
    split at h
    · rename_i e hce
      have hu := Cfg.slc_ok hT hce
      have := HP.run_ret h
      subst this
      refine OpOK.val fun E ρ a w hG hR => ?_
      rw [← hG] at hx
      refine ⟨_, key _ a w ?_, RV.i64 _⟩
      rcases (hR.ev hx).tsl_inv with ⟨hbn, hr, h0, heq⟩ | ⟨g, o', cap, A, rc, el, fr, hbn, hr, hl, hA, hh, hs, heq⟩
      · subst h0
        simp only [heq, Builtin.len_, List.getElem?_toArray, List.getElem?_cons_zero, Sem.run_bind, run_underlying hu, Result.andThen_ok]
        rfl
      · simp only [heq, Builtin.len_, List.getElem?_toArray, List.getElem?_cons_zero, Sem.run_bind, run_underlying hu, Result.andThen_ok]
        rfl
    · cases h
  · rename_i hx
    split at h
    · rename_i e hce
      have hu := Cfg.slc_ok hT hce
      have := HP.run_ret h
      subst this
      refine OpOK.val fun E ρ a w hG hR => ?_
      rw [← hG] at hx
      have heq := (hR.ev hx).nilsl_inv
      refine ⟨_, key _ a w ?_, RV.i64 _⟩
      simp only [heq, Builtin.len_, List.getElem?_toArray, List.getElem?_cons_zero, Sem.run_bind, run_underlying hu, Result.andThen_ok]
      rfl
    · cases h
  all_goals
    split at h
    · rename_i n e hce
      have hu := Cfg.arr_ok hT hce
      have := HP.run_ret h
      subst this
      refine OpOK.val fun E ρ a w hG hR => ⟨_, key _ a w ?_, RV.i64 _⟩
      simp only [Builtin.len_, List.getElem?_toArray, List.getElem?_cons_zero, Sem.run_bind, run_underlying hu, Result.andThen_ok]
      rfl
    · cases h
def Cfg.intK (C : Cfg) (t : TypeId) : Option IntKind := match C.ty t with | some i => (match i.td with | .int k => some k | _ => none) | none => none
theorem Cfg.intK_ok (hT : TysOK P C.ty) {t : TypeId} {k : IntKind} (h : C.intK t = some k) : P.underlying t = some (.int k) := by
  unfold Cfg.intK at h
  split at h
  · rename_i i hi
    have hok := (hT t i hi).td
    split at h
    · rename_i k' htd
      rw [htd] at hok
      injection h with h
      subst h
      exact hok
    · cases h
  · cases h
def Cfg.isBytes (C : Cfg) (t : TypeId) : Bool := match C.slc t with | some e => (match C.intK e with | some .u8 => true | _ => false) | none => false
theorem Cfg.isBytes_ok (hT : TysOK P C.ty) {t : TypeId} (h : C.isBytes t = true) : ∃ e, P.underlying t = some (.slice e) ∧ P.underlying e = some (.int .u8) := by
  unfold Cfg.isBytes at h
  split at h
  · rename_i e he
    split at h
    · rename_i hk; exact ⟨e, Cfg.slc_ok hT he, Cfg.intK_ok hT hk⟩
    · cases h
  · cases h
def bytesOfSL : SL → Option (List UInt8)
  | ⟨.int .u8, xs, _⟩ => some xs
  | _ => none
def HP.bind {α β : Type} : HP α → (α → HP β) → HP β
  | .ret a, f => f a
  | .fail, _ => .fail
  | .get id k, f => .get id fun b => (k b).bind f
theorem HP.run_bind {α β : Type} {m : Nat → Slot} : ∀ {p : HP α} {f : α → HP β} {r : β} {l : List Nat}, (p.bind f).run m = some (r, l) → ∃ a l1 l2, p.run m = some (a, l1) ∧ (f a).run m = some (r, l2) ∧ l = l1 ++ l2
  | .ret a, f, r, l, h => ⟨a, [], l, rfl, h, rfl⟩
  | .fail, f, r, l, h => by cases h
  | .get id k, f, r, l, h => by
    obtain ⟨b, l', h1, h2, h3⟩ := HP.run_get (k := fun b => (k b).bind f) h
    obtain ⟨a, l1, l2, h4, h5, h6⟩ := HP.run_bind h2
    refine ⟨a, id :: l1, l2, ?_, h5, by rw [h3, h6]; rfl⟩
    simp only [HP.run, h1, h4]
def pConvert (C : Cfg) (s d : TypeId) (x : Option AV) : HP Res :=
  match x with
  | some (.int k i) => match C.ty s, C.intK d with
    | some _, some k' => .ret { v := some (.int k' (convT k' k i)) }
    | _, _ => .fail
  | some (.str s') => if C.isStr s = true ∧ C.isStr d = true then .ret { v := some (.str s') } else .fail
  | some x => if C.isBytes s = true ∧ C.isStr d = true then (rdSl (.int .u8) x).bind fun r => match bytesOfSL r with
      | some xs => .ret { v := some (.str xs), obs := r.obs }
      | none => .fail
    else .fail
  | none => .fail
theorem TyOK.some {t : TypeId} {i : TyI} (h : TyOK P t i) : ∃ d, P.underlying t = some d := by
  have h1 := h.td
  cases htd : i.td <;> rw [htd] at h1 <;> simp only at h1
  case st fs => obtain ⟨f, h1, _⟩ := h1; exact ⟨_, h1⟩
  case func => obtain ⟨a, b, c, h1⟩ := h1; exact ⟨_, h1⟩
  case iface => obtain ⟨m, h1⟩ := h1; exact ⟨_, h1⟩
  case other => obtain ⟨d, h1, _⟩ := h1; exact ⟨_, h1⟩
  case map k e d => exact ⟨_, h1.hu⟩
  all_goals exact ⟨_, h1⟩
theorem run_convBytes {s d e : TypeId} (hs : P.underlying s = some (.slice e)) (he : P.underlying e = some (.int .u8)) (hd : P.underlying d = some .string) {c : Ctx} {w : World} (hw : c.hp = fun b => w.heap[b]?) {X : Value} {xs : List UInt8} (h : SR c X (.int .u8) xs) :
    (convert s d X).run P w = .ok (.string ⟨⟨xs⟩⟩) w := by
  obtain ⟨A, cap, h1, h2, h3⟩ := h
  rcases h3 with h3 | ⟨g, o, rc, el, fr, flat, f1, f2, f3, f4⟩
  · subst h3
    have hcase : ∀ A' : Option Addr, (convert s d (.slice A' 0 cap)).run P w = .ok (.string ⟨⟨[]⟩⟩) w := by
      intro A'
      cases A' with
      | none => exact run_convert_bytes_nil w s e hs he 0 cap d hd
      | some ad => 
        obtain ⟨b, off, spot⟩ := ad
        simp only [convert, Sem.run_bind, run_underlying hs, run_underlying hd, Result.andThen_ok, run_underlying he, Conv.bytesToString]
        simp [loadCells, loadCellsFrom]
        rfl
    rw [h1]; exact hcase A
  · have hf := RL_u8 f3
    rw [hw] at f2
    have hl : flat.length = xs.length := by rw [hf, List.length_map]
    have := run_convert_bytes_arg (P := P) w s e hs he g o xs.length cap (xs.map fun b => (b.toNat : Int)) (by simp) (fun i hi => by
      rw [cell_of (lo := fr.1) (hi := fr.2) f2, ← Array.getElem?_toList]
      have h5 : flat[i]? = some (.int .u8 ((xs.map fun b => (b.toNat : Int)).getD i 0)) := by
        rw [hf, List.getElem?_map, List.getElem?_eq_getElem hi]
        simp [List.getD_eq_getElem?_getD, List.getElem?_eq_getElem hi]
      rw [← f4, List.getElem?_take_of_lt (by rw [hl]; exact hi), List.getElem?_drop] at h5
      exact h5) d hd
    rw [strOfNums_bytes] at this
    rw [h1, f1]
    exact this
theorem sound_convert (hT : TysOK P C.ty) {s d : TypeId} {x : Operand} (ho : o.op = .convert s d x) (h : (pConvert C s d (S.ev C.G x)).run S.blk = some (r, l)) (hob : ∀ q ∈ r.obs, q) : OpOK P C.G C.pin o S r := by
  unfold pConvert at h
  split at h
  · rename_i k i hx
    split at h
    · rename_i si k' hsi hk
      have hd := Cfg.intK_ok hT hk
      obtain ⟨sd, hs⟩ := (hT s si hsi).some
      have := HP.run_ret h
      subst this
      refine OpOK.val fun E ρ a w hG hR => ?_
      rw [← hG] at hx
      have heq := (hR.ev hx).int_inv
      refine ⟨.int k' (k'.wrap (toI k i)), ?_, by rw [← toI_convT]; exact .one _ _ rfl (.int _ _)⟩
      unfold execOp
      simp only [ho, heq, convert, Sem.run_bind, run_underlying hs, run_underlying hd, Result.andThen_ok, Conv.intToInt, Sem.run_pure]
    · cases h
  · rename_i s' hx
    split at h
    · rename_i hst
      have hs := Cfg.isStr_ok hT hst.1
      have hd := Cfg.isStr_ok hT hst.2
      have := HP.run_ret h
      subst this
      refine OpOK.val fun E ρ a w hG hR => ?_
      rw [← hG] at hx
      have hv := hR.ev hx
      have heq := hv.str_inv
      rw [heq] at hv
      refine ⟨_, ?_, hv⟩
      unfold execOp
      simp only [ho, heq, convert, Sem.run_bind, run_underlying hs, run_underlying hd, Result.andThen_ok, Sem.run_pure]
    · cases h
  · rename_i x' _ _ hx
    split at h
    · rename_i hst
      obtain ⟨e, hs, he⟩ := Cfg.isBytes_ok hT hst.1
      have hd := Cfg.isStr_ok hT hst.2
      obtain ⟨sl, l1, l2, h1, h2, h3⟩ := HP.run_bind h
      split at h2
      · rename_i xs hxs
        have := HP.run_ret h2
        subst this
        refine OpOK.val fun E ρ a w hG hR => ?_
        rw [← hG] at hx
        have hsr := rdSl_sound hR (hR.ev hx) h1 hob
        have hsr' : SR (ctx E ρ S.blk w) (a.eval x) (.int .u8) xs := by
          obtain ⟨d', xs', obs'⟩ := sl
          unfold bytesOfSL at hxs
          split at hxs
          · rename_i e1
            injection e1 with e1 e2 e3
            subst e1
            injection hxs with hxs
            subst hxs
            exact (eq_of_heq e2) ▸ hsr
          · cases hxs
        refine ⟨_, ?_, .one _ _ rfl (.str xs)⟩
        unfold execOp
        simp only [ho]
        rw [Sem.run_bind, run_convBytes hs he hd rfl hsr']; rfl
      · cases h2
    · cases h
  · cases h
end
end Go.Vc

namespace Go.Vc
theorem blk_setAt (S : AS) (n : Nat) (s : Slot) (t : List (Option AV)) : (⟨t, setAt S.heap n s⟩ : AS).blk = upd S.blk n s := by
  funext j
  simp only [AS.blk, setAt_getD, upd]
section
variable {P : Program} {C : Cfg} {S : AS} {o : Oper} {r : Res} {l : List Nat}
theorem OpOK.new {nb : Nat} {b pv : AV} {obs : List Prop} (hnb : S.blk nb = .unborn)
    (h : ∀ (E : Env) (ρ : Nat → Option (Nat × Nat)) (a : Act) (w : World), E.glob = C.G → Rel E ρ S a w → ∃ V w' rc el lo hi flat, (execOp a.eval o).run P w = .ok (.value V) w' ∧ w'.heap = w.heap.push (.cells rc el (lo, hi)) ∧ w'.os = w.os ∧ w'.tape = w.tape ∧ w'.output = w.output ∧
      Fz lo hi rc.size ∧ (∀ c', Ctx.Le some (ctx E ρ S.blk w) c' → RC c' b flat) ∧ (rc.toList.take flat.length = flat ∧ flat.length ≤ rc.size) ∧
      (∀ c' : Ctx, c'.born nb → c'.ρ nb = some (w.heap.size, 0) → c'.hp w.heap.size = some (.cells rc el (lo, hi)) → RV c' pv V)) :
    OpOK P C.G C.pin o S { v := some pv, wr := [(nb, .live b)], obs := obs, new := 1 } := by
  intro E ρ a w hG hpin hR next Q hn
  obtain ⟨V, w', rc, el, lo, hi, flat, h1, h2, h3, h4, h5, h6, h7, h8, h9⟩ := h E ρ a w hG hR
  unfold Oper.wp
  rw [h1, Oper.upon_value]
  have hA : Rel E (upd ρ nb (some (w.heap.size, 0))) ⟨S.tmps, setAt S.heap nb (.live b)⟩ a { w with heap := w.heap.push (.cells rc el (lo, hi)) } :=
    hR.alloc hnb (.cells rc el (lo, hi)) b 0 (fun ρ' c' hc' hρ' hle => .inl ⟨rc, el, lo, hi, flat, by rw [hc']; simp [ctx], h6, h7 c' hle, by rw [List.drop_zero]; exact h8.1, by omega⟩) rfl (fun id => by rw [blk_setAt]) rfl
  have hB : Rel E (upd ρ nb (some (w.heap.size, 0))) ⟨S.tmps, setAt S.heap nb (.live b)⟩ a w' := hA.world h2 h3 h4 h5
  refine hn _ _ _ (hB.put o.dst (some pv) V (fun u hu => ?_))
  injection hu with hu
  subst hu
  refine h9 _ ?_ (upd_same _ _ _) ?_
  · simp only [ctx, blk_setAt, upd_same]; simp
  · simp only [ctx, h2, Array.getElem?_push_size]
def pAlloc (C : Cfg) (e : TypeId) (nb : Nat) : HP Res :=
  match C.ty e with
  | some i => match i.zero with
    | .tuple _ => .fail
    | z => .ret { v := some (.ptr nb [] 0), wr := [(nb, .live z)], new := 1 }
  | none => .fail
theorem sound_alloc (hT : TysOK P C.ty) {e : TypeId} {nb : Nat} (hnb0 : 0 < r.new → S.blk nb = .unborn) (ho : o.op = .alloc e) (h : (pAlloc C e nb).run S.blk = some (r, l)) : OpOK P C.G C.pin o S r := by
  unfold pAlloc at h
  split at h
  · rename_i i hi
    split at h
    · cases h
    · rename_i z hz
      have := HP.run_ret h
      subst this
      obtain ⟨Z, hz1, hz2, hz3⟩ := (hT e i hi).zeroValue
      refine OpOK.new (hnb0 Nat.one_pos) fun E ρ a w hG hR => ⟨_, { w with heap := w.heap.push (.cells Z.cells e) }, Z.cells, e, 0, 0, Z.cells.toList, ?_, rfl, rfl, rfl, rfl, ⟨Nat.le_refl _, fun i _ => by omega⟩, fun c' _ => (hz2 c').cells hz, ⟨by rw [List.take_length], by simp⟩, fun c' hb hr hh => .one _ _ rfl (.ptr nb [] 0 _ _ hb hr)⟩
      unfold execOp
      simp only [ho, Instr.alloc, Sem.run_bind, hz1, Result.andThen_ok, newVar, newRow, run_newObj, Sem.run_pure]
  · cases h
def pBox (x : Option AV) (nb : Nat) : HP Res :=
  match x with
  | some (.tuple _) => .fail
  | some v => .ret { v := some (.ptr nb [] 0), wr := [(nb, .live v)], new := 1 }
  | none => .fail
theorem sound_box {e : TypeId} {x : Operand} {nb : Nat} (hnb0 : 0 < r.new → S.blk nb = .unborn) (ho : o.op = .box e x) (h : (pBox (S.ev C.G x) nb).run S.blk = some (r, l)) : OpOK P C.G C.pin o S r := by
  unfold pBox at h
  split at h
  · cases h
  · rename_i v hnt hx
    have := HP.run_ret h
    subst this
    refine OpOK.new (hnb0 Nat.one_pos) fun E ρ a w hG hR => ?_
    rw [← hG] at hx
    have hv := hR.ev hx
    refine ⟨_, { w with heap := w.heap.push (.cells (a.eval x).cells e) }, (a.eval x).cells, e, 0, 0, (a.eval x).cells.toList, ?_, rfl, rfl, rfl, rfl, ⟨Nat.le_refl _, fun i _ => by omega⟩, fun c' hle => (hv.cells fun l e => hnt l e).mono hle, ⟨by rw [List.take_length], by simp⟩, fun c' hb hr hh => .one _ _ rfl (.ptr nb [] 0 _ _ hb hr)⟩
    unfold execOp
    simp only [ho, Instr.box, newVar, newRow, Sem.run_bind, run_newObj, Result.andThen_ok, Sem.run_pure]
  · cases h
theorem window_splice (rc : List Value) (o L q : Nat) (c : List Value) (hL : o + L ≤ rc.length) (h : q + c.length ≤ L) : ((splice rc (o + q) c).drop o).take L = splice ((rc.drop o).take L) q c := by
  apply List.ext_getElem?
  intro i
  have hlen : ((rc.drop o).take L).length = L := by rw [List.length_take, List.length_drop]; omega
  have key : ∀ (l : List Value) (a : Nat), a + c.length ≤ l.length → ∀ i, (splice l a c)[i]? = if i < a then l[i]? else if i < a + c.length then c[i - a]? else l[i]? := by
    intro l a ha i
    simp only [splice]
    rw [List.append_assoc]
    by_cases h1 : i < a
    · rw [if_pos h1, List.getElem?_append_left (by rw [List.length_take]; omega), List.getElem?_take_of_lt h1]
    · rw [if_neg h1, List.getElem?_append_right (by rw [List.length_take]; omega), List.length_take, Nat.min_eq_left (by omega)]
      by_cases h2 : i < a + c.length
      · rw [if_pos h2, List.getElem?_append_left (by omega)]
      · rw [if_neg h2, List.getElem?_append_right (by omega), List.getElem?_drop]
        congr 1; omega
  rw [List.getElem?_take]
  by_cases hi : i < L
  · rw [if_pos hi, List.getElem?_drop, key _ _ (by omega), key _ _ (by omega), List.getElem?_take_of_lt hi, List.getElem?_drop]
    by_cases h1 : i < q
    · rw [if_pos (by omega), if_pos h1]
    · rw [if_neg (by omega), if_neg h1]
      by_cases h2 : i < q + c.length
      · rw [if_pos (by omega), if_pos h2]; congr 1; omega
      · rw [if_neg (by omega), if_neg h2]
  · rw [if_neg hi, List.getElem?_eq_none (by rw [splice_length _ _ _ (by omega)]; omega)]
theorem Rel.store {E : Env} {ρ : Nat → Option (Nat × Nat)} {a : Act} {w : World} (hR : Rel E ρ S a w) {id : Nat} {b b' u : AV} {g o' : Nat} {p : List Nat} {cu : List Value} (h1 : S.blk id = .live b) (hr : ρ id = some (g, o'))
    (hset : b.set p u = some b') (hn : ∀ l, b ≠ .tuple l) (hob : ∀ q ∈ b.ob p, q) (hu : RC (ctx E ρ S.blk w) u cu) (hone : ∀ x ∈ cu, x.oneCell' = true) (dst : Option Nat) :
    ∃ w', (storeCells ⟨g, o' + b.off p, none⟩ cu).run P w = .ok () w' ∧ w'.heap.size = w.heap.size ∧ Rel E ρ ⟨S.tmps, setAt S.heap id (.live b')⟩ a w' := by
  obtain ⟨rc, el, lo, hi, flat, f1, f2, f3, f4, f5⟩ := hR.block h1 hr hn
  obtain ⟨g1, g2⟩ := AV.set_sound hu f3 hset hob
  have hrc : (o' + b.off p) + 0 + cu.length ≤ rc.size := by omega
  have hst := run_storeCells (P := P) cu w rc (o' + b.off p) 0 f1 f2.2 hone hrc
  refine ⟨_, hst, by simp, ?_⟩
  have hsz : (splice rc.toList (o' + b.off p + 0) cu).toArray.size = rc.size := by
    rw [List.size_toArray, splice_length _ _ _ (by rw [Array.length_toList]; omega), Array.length_toList]
  refine hR.write h1 hr f1 f2 hsz (fun c' hle => ⟨splice flat (b.off p) cu, ?_, ?_, ?_⟩) rfl (fun j => by rw [blk_setAt]) rfl
  · obtain ⟨k1, k2⟩ := AV.set_sound (hu.mono hle) (f3.mono hle) hset hob
    exact k1
  · have hl : (splice flat (b.off p) cu).length = flat.length := splice_length _ _ _ g2
    rw [hl]
    show ((splice rc.toList (o' + b.off p + 0) cu).drop o').take flat.length = _
    rw [Nat.add_zero, window_splice _ _ _ _ _ (by rw [Array.length_toList]; omega) g2, f4]
  · rw [splice_length _ _ _ g2, hsz]; exact f5
def pStore (C : Cfg) (t : TypeId) (x y : Option AV) : HP Res :=
  match C.ty t, x, y with
  | some i, some (.ptr id p off), some v => .get id fun b => match b.set p v with
    | some b' => if v.size = i.sz ∧ v.isTup = false ∧ b.isTup = false then .ret { v := none, wr := [(id, .live b')], obs := (off = b.off p) :: b.ob p } else .fail
    | none => .fail
  | _, _, _ => .fail
theorem sound_store (hT : TysOK P C.ty) {t : TypeId} {x y : Operand} (ho : o.op = .store t x y) (h : (pStore C t (S.ev C.G x) (S.ev C.G y)).run S.blk = some (r, l)) (hob : ∀ q ∈ r.obs, q) : OpOK P C.G C.pin o S r := by
  unfold pStore at h
  split at h
  · rename_i i id p off v hi hx hy
    obtain ⟨b, l', h1, h2, h3⟩ := HP.run_get h
    split at h2
    · rename_i b' hset
      split at h2
      · rename_i hsz
        have := HP.run_ret h2
        subst this
        simp only [List.mem_cons, forall_eq_or_imp] at hob
        intro E ρ a w hG hpin hR next Q hn
        rw [← hG] at hx hy
        obtain ⟨g, o', hb, hr, heq⟩ := (hR.ev hx).ptr_inv
        have hv := hR.ev hy
        have hnt := AV.not_tup hsz.2.1
        have hc := hv.cells hnt
        obtain ⟨w', k1, k2, k3⟩ := hR.store (P := P) h1 hr hset (AV.not_tup hsz.2.2) hob.2 hc hc.one o.dst
        unfold Oper.wp
        have hl := hc.len
        have hrun : (execOp a.eval o).run P w = .ok .skip w' := by
          unfold execOp
          simp only [ho, heq, Instr.storeAt, Instr.sureAddr, Sem.run_bind, Sem.run_pure, Result.andThen_ok, storeVar, (hT t i hi).sizeOf, hob.1]
          rw [if_neg (by rw [← hsz.1, ← hl, Array.length_toList]; simp)]
          simp only [Sem.run_pure, Result.andThen_ok, k1]
        rw [hrun, Oper.upon_skip]
        exact hn _ _ _ (k3.put o.dst none _ (fun u hu => by cases hu))
      · cases h2
    · cases h2
  · cases h
end
end Go.Vc
