/- Part of a proof: noughts behind a short secret play no part in a sum -/
import Derived.Test.YticgfjalikmniaaDoorVc3
/- Vc, part Zp: a slice over an array of its own becomes a row that stays as it is. -/
namespace Go.Vc
set_option linter.unusedVariables false
set_option linter.unusedSimpArgs false
set_option linter.unusedSectionVars false

/-- What becomes of a value when the block is let go: slices over it are rows then. -/
def AV.rl (ow : Bool) (id : Nat) (d : Kd) (xs : List d.T) : AV → AV
  | .ptr i p o => if i = id then .dead else .ptr i p o
  | .arrp i p a o s n => if i = id then .dead else .arrp i p a o s n
  | .map i => if i = id then .dead else .map i
  | .tsl i [] a o s n => if i = id then .pure (.slice ow d) (List.take n (List.drop a xs)) else .tsl i [] a o s n
  | .tsl i (q :: p) a o s n => if i = id then .dead else .tsl i (q :: p) a o s n
  | .func fn a b => .func fn (rlL ow id d xs a) (rlL ow id d xs b)
  | .iface t v => .iface t (rl ow id d xs v)
  | .agg l => .agg (rlL ow id d xs l)
  | .tuple l => .tuple (rlL ow id d xs l)
  | v => v
where rlL (ow : Bool) (id : Nat) (d : Kd) (xs : List d.T) : List AV → List AV
  | [] => []
  | v :: r => rl ow id d xs v :: rlL ow id d xs r
/-- What has to be known of them. -/
def AV.rlO (id : Nat) (d : Kd) (N : Nat) : AV → List Prop
  | .tsl i [] a o s n => if i = id then [o = a * d.sz, s = d.sz, a + n ≤ N] else []
  | .func _ a b => rlOL id d N a ++ rlOL id d N b
  | .iface _ v => rlO id d N v
  | .agg l => rlOL id d N l
  | .tuple l => rlOL id d N l
  | _ => []
where rlOL (id : Nat) (d : Kd) (N : Nat) : List AV → List Prop
  | [] => []
  | v :: r => rlO id d N v ++ rlOL id d N r
theorem AV.rl_isAgg (ow : Bool) (id : Nat) (d : Kd) (xs : List d.T) (v : AV) : (v.rl ow id d xs).isAgg = v.isAgg := by
  cases v with
  | ptr i p o => simp only [AV.rl]; split <;> rfl
  | arrp i p a o s n => simp only [AV.rl]; split <;> rfl
  | map i => simp only [AV.rl]; split <;> rfl
  | tsl i p a o s n => cases p <;> simp only [AV.rl] <;> split <;> rfl
  | _ => rfl

structure Ctx.Rl (id : Nat) (d : Kd) (N : Nat) (xs : List d.T) (c c' : Ctx) : Prop where
  hp : c'.hp = c.hp
  ok : ∀ own b, c.ok own b → c'.ok own b
  ρ : c'.ρ = c.ρ
  born : ∀ i, c.born i → i ≠ id → c'.born i
  len : xs.length = N
  here : ∀ g o, c.ρ id = some (g, o) → ∃ rc el fr flat, c.hp g = some (.cells rc el fr) ∧ c'.ok true g ∧ RL (Reads c'.ok c'.hp d) xs flat ∧ (rc.toList.drop o).take flat.length = flat

theorem take_drop_len {α : Type} (xs : List α) (a n : Nat) (h : a + n ≤ xs.length) : (List.take n (List.drop a xs)).length = n := by
  rw [List.length_take, List.length_drop]; omega
theorem rl_tsl {ow : Bool} {id : Nat} {d : Kd} {N : Nat} {xs : List d.T} {c c' : Ctx} (h : Ctx.Rl id d N xs c c') {a o s n g og cap : Nat} {A : Option Addr} (hr : c.ρ id = some (g, og)) (hl : n ≤ cap) (hA : 0 < cap → A = some ⟨g, og + o, none⟩)
    (h1 : o = a * d.sz) (h2 : s = d.sz) (h3 : a + n ≤ N) : RC c' (.pure (.slice ow d) (List.take n (List.drop a xs))) [.slice A n cap] := by
  have hlen := take_drop_len xs a n (by rw [h.len]; exact h3)
  refine .pure _ _ _ ⟨A, cap, by rw [hlen], by rw [hlen]; exact hl, ?_⟩
  by_cases hc : cap = 0
  · refine .inl (List.eq_nil_of_length_eq_zero ?_)
    rw [hlen]; omega
  · obtain ⟨rc, el, fr, flat, e1, e2, e3, e4⟩ := h.here g og hr
    have hk : ∀ x cs, Reads c'.ok c'.hp d x cs → cs.length = d.sz := fun x cs hh => hh.len
    have hfl := RL.len hk e3
    refine .inr ⟨g, og + o, rc, el, fr, (flat.drop (a * d.sz)).take (n * d.sz), hA (by omega), (by cases ow; exact c'.weak g e2; exact e2), by rw [h.hp]; exact e1, RL.take hk n (RL.drop hk a e3), ?_⟩
    have hl2 : ((flat.drop (a * d.sz)).take (n * d.sz)).length = n * d.sz := by
      rw [List.length_take, List.length_drop, hfl, h.len]
      have : (a + n) * d.sz ≤ N * d.sz := Nat.mul_le_mul_right _ h3
      rw [Nat.add_mul] at this
      omega
    rw [hl2, h1]
    conv => rhs; rw [← e4]
    refine (sub_sub _ _ _ _ _ ?_).symm
    rw [hfl, h.len]
    have : (a + n) * d.sz ≤ N * d.sz := Nat.mul_le_mul_right _ h3
    rw [Nat.add_mul] at this
    omega
mutual
theorem RC.rl {ow : Bool} {id : Nat} {d : Kd} {N : Nat} {xs : List d.T} {c c' : Ctx} (h : Ctx.Rl id d N xs c c') : ∀ {v : AV} {cs : List Value}, RC c v cs → (∀ q ∈ v.rlO id d N, q) → RC c' (v.rl ow id d xs) cs
  | _, _, .int k x, _ => .int k x
  | _, _, .bool b, _ => .bool b
  | _, _, .str l, _ => .str l
  | _, _, .pure d x cs hr, _ => .pure d x cs (hr.mono fun own b h1 _ => ⟨h.ok own b h1, by rw [h.hp]⟩)
  | _, _, .nilp, _ => .nilp
  | _, _, .ptr i p off g o hb hr, _ => by
    simp only [AV.rl]
    split
    · exact .dead _ rfl
    · rename_i hne; exact .ptr i p off g o (h.born i hb hne) (by rw [h.ρ]; exact hr)
  | _, _, .arrp i p a off sz n g o hb hr, _ => by
    simp only [AV.rl]
    split
    · exact .dead _ rfl
    · rename_i hne; exact .arrp i p a off sz n g o (h.born i hb hne) (by rw [h.ρ]; exact hr)
  | _, _, .ept own d x b o rc el fr flat hok hh hr hf, _ => .ept own d x b o rc el fr flat (h.ok own b hok) (by rw [h.hp]; exact hh) (hr.mono fun own b h1 _ => ⟨h.ok own b h1, by rw [h.hp]⟩) hf
  | _, _, .nilsl, _ => .nilsl
  | _, _, .tsl i [] a off sz len g o cap A hb hr hl hA rc el fr hh hs, ho => by
    simp only [AV.rl]
    split
    · rename_i he
      subst he
      simp only [AV.rlO, if_true, List.mem_cons, List.not_mem_nil, or_false, forall_eq_or_imp, forall_eq] at ho
      exact rl_tsl h hr hl hA ho.1 ho.2.1 ho.2.2
    · rename_i hne; exact .tsl i [] a off sz len g o cap A (h.born i hb hne) (by rw [h.ρ]; exact hr) hl hA rc el fr (by rw [h.hp]; exact hh) hs
  | _, _, .tsl i (q :: p) a off sz len g o cap A hb hr hl hA rc el fr hh hs, ho => by
    simp only [AV.rl]
    split
    · exact .dead _ rfl
    · rename_i hne; exact .tsl i (q :: p) a off sz len g o cap A (h.born i hb hne) (by rw [h.ρ]; exact hr) hl hA rc el fr (by rw [h.hp]; exact hh) hs
  | _, _, .tslv i [] a off sz len hb hr h0, _ => by
    simp only [AV.rl]
    split
    · subst h0
      exact .pure _ _ _ ⟨none, 0, rfl, Nat.le_refl _, .inl rfl⟩
    · rename_i hne; exact .tslv i [] a off sz len (h.born i hb hne) (by rw [h.ρ]; exact hr) h0
  | _, _, .tslv i (q :: p) a off sz len hb hr h0, _ => by
    simp only [AV.rl]
    split
    · exact .dead _ rfl
    · rename_i hne; exact .tslv i (q :: p) a off sz len (h.born i hb hne) (by rw [h.ρ]; exact hr) h0
  | _, _, .nmap, _ => .nmap
  | _, _, .map i g hb hr, _ => by
    simp only [AV.rl]
    split
    · exact .dead _ rfl
    · rename_i hne; exact .map i g (h.born i hb hne) (by rw [h.ρ]; exact hr)
  | _, _, .nilFunc, _ => .nilFunc
  | _, _, .func fn a b x y ha hb, ho => .func fn _ _ x y (RVs.rl h ha fun q hq => ho q (List.mem_append_left _ hq)) (RVs.rl h hb fun q hq => ho q (List.mem_append_right _ hq))
  | _, _, .nilIface, _ => .nilIface
  | _, _, .iface t v x hv, ho => .iface t _ x (RV.rl h hv ho)
  | _, _, .agg l cs hl, ho => .agg _ cs (RCs.rl h hl ho)
  | _, _, .dead x hx, _ => .dead x hx
theorem RCs.rl {ow : Bool} {id : Nat} {d : Kd} {N : Nat} {xs : List d.T} {c c' : Ctx} (h : Ctx.Rl id d N xs c c') : ∀ {v : List AV} {cs : List Value}, RCs c v cs → (∀ q ∈ AV.rlO.rlOL id d N v, q) → RCs c' (AV.rl.rlL ow id d xs v) cs
  | _, _, .nil, _ => .nil
  | _, _, .cons v r c1 c2 hv hr, ho => .cons _ _ c1 c2 (RC.rl h hv fun q hq => ho q (List.mem_append_left _ hq)) (RCs.rl h hr fun q hq => ho q (List.mem_append_right _ hq))
theorem RV.rl {ow : Bool} {id : Nat} {d : Kd} {N : Nat} {xs : List d.T} {c c' : Ctx} (h : Ctx.Rl id d N xs c c') : ∀ {v : AV} {x : Value}, RV c v x → (∀ q ∈ v.rlO id d N, q) → RV c' (v.rl ow id d xs) x
  | _, _, .one v x hv hc, ho => .one _ x (by rw [AV.rl_isAgg]; exact hv) (RC.rl h hc ho)
  | _, _, .agg v a hv hc, ho => .agg _ a (by rw [AV.rl_isAgg]; exact hv) (RC.rl h hc ho)
  | _, _, .tuple l x hl, ho => .tuple _ x (RVs.rl h hl ho)
theorem RVs.rl {ow : Bool} {id : Nat} {d : Kd} {N : Nat} {xs : List d.T} {c c' : Ctx} (h : Ctx.Rl id d N xs c c') : ∀ {v : List AV} {x : List Value}, RVs c v x → (∀ q ∈ AV.rlO.rlOL id d N v, q) → RVs c' (AV.rl.rlL ow id d xs v) x
  | _, _, .nil, _ => .nil
  | _, _, .cons v r x y hv hr, ho => .cons _ _ x y (RV.rl h hv fun q hq => ho q (List.mem_append_left _ hq)) (RVs.rl h hr fun q hq => ho q (List.mem_append_right _ hq))
end
def Slot.rl (ow : Bool) (id : Nat) (d : Kd) (xs : List d.T) : Slot → Slot
  | .live b => .live (b.rl ow id d xs) | s => s
def relS (S : AS) (ow : Bool) (id : Nat) (d : Kd) (xs : List d.T) : AS := ⟨S.tmps.map (Option.map (AV.rl ow id d xs)), (setAt S.heap id .dead).map (Slot.rl ow id d xs)⟩
def tmO (id : Nat) (d : Kd) (N : Nat) : List (Option AV) → List Prop
  | [] => [] | some v :: r => v.rlO id d N ++ tmO id d N r | none :: r => tmO id d N r
def hpO (id : Nat) (d : Kd) (N : Nat) : List Slot → List Prop
  | [] => [] | .live b :: r => b.rlO id d N ++ hpO id d N r | _ :: r => hpO id d N r
theorem tmO_mem {id : Nat} {d : Kd} {N : Nat} : ∀ {l : List (Option AV)} {i : Nat} {v : AV}, l[i]? = some (some v) → ∀ q ∈ v.rlO id d N, q ∈ tmO id d N l
  | [], i, v, h, q, hq => by simp at h
  | none :: r, 0, v, h, q, hq => by simp at h
  | some u :: r, 0, v, h, q, hq => by
    simp only [List.getElem?_cons_zero, Option.some.injEq] at h
    subst h
    exact List.mem_append_left _ hq
  | none :: r, i + 1, v, h, q, hq => tmO_mem (l := r) (by simpa using h) q hq
  | some u :: r, i + 1, v, h, q, hq => List.mem_append_right _ (tmO_mem (l := r) (by simpa using h) q hq)
theorem hpO_mem {id : Nat} {d : Kd} {N : Nat} : ∀ {l : List Slot} {i : Nat} {b : AV}, l[i]? = some (.live b) → ∀ q ∈ b.rlO id d N, q ∈ hpO id d N l
  | [], i, v, h, q, hq => by simp at h
  | .unborn :: r, 0, v, h, q, hq => by simp at h
  | .dead :: r, 0, v, h, q, hq => by simp at h
  | .live u :: r, 0, v, h, q, hq => by
    simp only [List.getElem?_cons_zero, Option.some.injEq, Slot.live.injEq] at h
    subst h
    exact List.mem_append_left _ hq
  | .unborn :: r, i + 1, v, h, q, hq => hpO_mem (l := r) (by simpa using h) q hq
  | .dead :: r, i + 1, v, h, q, hq => hpO_mem (l := r) (by simpa using h) q hq
  | .live u :: r, i + 1, v, h, q, hq => List.mem_append_right _ (hpO_mem (l := r) (by simpa using h) q hq)
theorem relS_blk (S : AS) (ow : Bool) (id : Nat) (d : Kd) (xs : List d.T) (i : Nat) : (relS S ow id d xs).blk i = if i = id then .dead else (S.blk i).rl ow id d xs := by
  have h : (relS S ow id d xs).blk i = ((setAt S.heap id .dead).getD i .unborn).rl ow id d xs := by
    simp only [relS, AS.blk, List.getD_eq_getElem?_getD, List.getElem?_map]
    cases (setAt S.heap id .dead)[i]? <;> rfl
  rw [h, setAt_getD]
  split <;> rfl
section
variable {C : Cfg2} {S : AS}
/-- A block is let go: slices over it are rows then that stay as they are. -/
theorem Wk.rel {ow : Bool} {id : Nat} {d : Kd} {N : Nat} {xs : List d.T} (hb : S.blk id = .live (.pure (.arr N d) xs)) (ho : Obs (tmO id d N S.tmps ++ hpO id d N S.heap)) (hp : C.pin.contains id = false) : Wk C S (relS S ow id d xs) := by
  intro E ρ a w hG hpin hR
  have hob := Obs.all ho
  have hlive : ∀ {i : Nat} {b : AV}, (relS S ow id d xs).blk i = .live b → i ≠ id ∧ ∃ b0, S.blk i = .live b0 ∧ b = b0.rl ow id d xs := by
    intro i b h
    rw [relS_blk] at h
    split at h
    · cases h
    · rename_i hne
      refine ⟨hne, ?_⟩
      cases hs : S.blk i with
      | unborn => rw [hs] at h; cases h
      | dead => rw [hs] at h; cases h
      | live b0 => rw [hs] at h; injection h with h; exact ⟨b0, rfl, h.symm⟩
  have hok : ∀ own b, (ctx E ρ S.blk w).ok own b → (ctx E ρ (relS S ow id d xs).blk w).ok own b := fun own b h => ⟨fun i bl o hl => by
    obtain ⟨_, b0, h0, _⟩ := hlive hl
    exact h.1 i b0 o h0, h.2⟩
  have hbid := hR.hb id _ hb
  have hRl : Ctx.Rl id d N xs (ctx E ρ S.blk w) (ctx E ρ (relS S ow id d xs).blk w) := by
    refine ⟨rfl, hok, rfl, fun i hi hne e => ?_, ?_, fun g o hr => ?_⟩
    · have e' : (relS S ow id d xs).blk i = .unborn := e
      rw [relS_blk, if_neg hne] at e'
      have hi' : S.blk i ≠ .unborn := hi
      cases hs : S.blk i with
      | unborn => exact hi' hs
      | dead => rw [hs] at e'; cases e'
      | live b0 => rw [hs] at e'; cases e'
    · cases hr : ρ id with
      | none =>
        rw [hr] at hbid
        exact hbid.2.trans hbid.1.symm
      | some p =>
        rw [hr] at hbid
        obtain ⟨rc, el, lo, hi, flat, q1, q2, q3, q4, q5⟩ := hbid
        cases q3 with
        | pure _ _ _ hr => exact hr.1
    · have hr' : ρ id = some (g, o) := hr
      rw [hr'] at hbid
      obtain ⟨rc, el, lo, hi, flat, q1, q2, q3, q4, q5⟩ := hbid
      refine ⟨rc, el, (lo, hi), flat, q1, ⟨fun i bl o' hl hρ => ?_, fun _ => (hR.nf id _ g o hb hr').1⟩, ?_, q4⟩
      · obtain ⟨hne, b0, h0, _⟩ := hlive hl
        exact hne (hR.inj i id b0 _ g o' o h0 hb hρ hr')
      · cases q3 with
        | pure _ _ _ hrd => exact hrd.2.imp fun _ _ hh => hh.mono fun own b h1 _ => ⟨hok own b h1, rfl⟩
  refine ⟨ρ, ?_, hR.df, fun i v hv => ?_, fun i b h => ?_, fun i i' b b' g o o' h h' hr hr' => ?_, fun i b g o h hr => ?_, hR.fr, fun i hi => ?_, fun g pd hg => ?_⟩
  · rw [← hR.len]; simp [relS]
  · have hv' : (S.tmps.map (Option.map (AV.rl ow id d xs)))[i]? = some (some v) := hv
    rw [List.getElem?_map] at hv'
    cases hx : S.tmps[i]? with
    | none => rw [hx] at hv'; cases hv'
    | some x =>
      rw [hx] at hv'
      cases x with
      | none => simp at hv'
      | some v0 =>
        simp only [Option.map_some, Option.some.injEq] at hv'
        subst hv'
        obtain ⟨V, h1, h2⟩ := hR.tm i v0 hx
        exact ⟨V, h1, RV.rl hRl h2 fun q hq => hob q (List.mem_append_left _ (tmO_mem hx q hq))⟩
  · obtain ⟨hne, b0, h0, rfl⟩ := hlive h
    have h1 := hR.hb i b0 h0
    have hin : S.heap[i]? = some (.live b0) := by
      have h2 : S.heap.getD i .unborn = .live b0 := h0
      rw [List.getD_eq_getElem?_getD] at h2
      cases hx : S.heap[i]? with
      | none => rw [hx] at h2; cases h2
      | some y => rw [hx] at h2; simp only [Option.getD_some] at h2; rw [h2]
    cases hr : ρ i with
    | none =>
      rw [hr] at h1
      cases b0 with
      | pure dk x => exact h1
      | _ => exact h1.elim
    | some p =>
      rw [hr] at h1
      obtain ⟨rc, el, lo, hi, flat, q1, q2, q3, q4, q5⟩ := h1
      exact ⟨rc, el, lo, hi, flat, q1, q2, RC.rl hRl q3 fun q hq => hob q (List.mem_append_right _ (hpO_mem hin q hq)), q4, q5⟩
  · obtain ⟨_, b0, h0, _⟩ := hlive h
    obtain ⟨_, b1, h2, _⟩ := hlive h'
    exact hR.inj i i' b0 b1 g o o' h0 h2 hr hr'
  · obtain ⟨_, b0, h0, _⟩ := hlive h
    exact hR.nf i b0 g o h0 hr
  · obtain ⟨h1, h2⟩ := hR.pn i hi
    have hne : i ≠ id := fun e => by
      subst e
      have := hpin i hi
      rw [← List.contains_iff_mem] at this
      rw [this] at hp; cases hp
    refine ⟨?_, h2⟩
    rw [relS_blk, if_neg hne]
    cases hs : S.blk i with
    | unborn => exact absurd hs h1
    | dead => intro e; cases e
    | live b0 => intro e; cases e
  · exact RV.rl (ow := ow) hRl (hR.gl g pd hg) fun q hq => by cases hq
theorem Tri.rel {P : Program} {c : Code} {Q : Exit → AS → Prop} (ow : Bool) (id : Nat) {d : Kd} {N : Nat} {xs : List d.T} {S1 : AS} (hb : S.blk id = .live (.pure (.arr N d) xs)) (ho : Obs (tmO id d N S.tmps ++ hpO id d N S.heap)) (hp : C.pin.contains id = false)
    (hS : relS S ow id d xs = S1) (hq : Tri P C S1 c Q) : Tri P C S c Q := Tri.weak (Wk.rel hb ho hp) (hS ▸ hq)
end
/-- A nil slice in a slot, as a slice over an array of no elements. -/
theorem Wk.phT {C : Cfg2} {S : AS} {j : Nat} {d : Kd} {sz : Nat} (hj : S.tmps[j]? = some (some .nilsl)) : Wk C S ⟨S.tmps.set j (some (.tsl S.heap.length [] 0 0 sz 0)), setAt S.heap S.heap.length (.live (.pure (.arr 0 d) []))⟩ := by
  intro E ρ a w hG hpin hR
  let S' : AS := ⟨S.tmps.set j (some (.tsl S.heap.length [] 0 0 sz 0)), setAt S.heap S.heap.length (.live (.pure (.arr 0 d) []))⟩
  have hblk : ∀ i, S'.blk i = if i = S.heap.length then .live (.pure (.arr 0 d) []) else S.blk i := fun i => by
    show (setAt S.heap S.heap.length (.live (.pure (.arr 0 d) []))).getD i .unborn = _
    rw [setAt_getD]; rfl
  have hle : Ctx.Le some (ctx E ρ S.blk w) (ctx E (phR S ρ) S'.blk w) := by
    refine ⟨fun own b hok _ => ⟨⟨fun i bl o hb hr => ?_, hok.2⟩, rfl⟩, fun i k hb hk => ?_, fun i k g o hb hk hr rc el fr hc => ⟨rc, el, fr, hc, Nat.le_refl _⟩⟩
    · rw [hblk] at hb
      simp only [phR] at hr
      split at hr
      · cases hr
      · rename_i hne
        rw [if_neg hne] at hb
        exact hok.1 i _ o hb hr
    · injection hk with hk
      subst hk
      have hne : i ≠ S.heap.length := fun e => hb (by rw [e]; exact blk_nb S)
      refine ⟨?_, by show phR S ρ i = ρ i; simp only [phR, if_neg hne]⟩
      show S'.blk i ≠ .unborn
      rw [hblk, if_neg hne]
      exact hb
  refine ⟨phR S ρ, ?_, hR.df, fun i v hv => ?_, fun i b hb => ?_, fun i i' b b' g o o' hb hb' hr hr' => ?_, fun i b g o hb hr => ?_, hR.fr, fun i hi => ?_, fun g pd hg => ?_⟩
  · rw [← hR.len]; simp
  · have hv' : (S.tmps.set j (some (.tsl S.heap.length [] 0 0 sz 0)))[i]? = some (some v) := hv
    rw [List.getElem?_set] at hv'
    split at hv'
    · rename_i e
      subst e
      split at hv'
      · injection hv' with hv'
        injection hv' with hv'
        subst hv'
        obtain ⟨V, h1, h2⟩ := hR.tm j _ hj
        refine ⟨V, h1, ?_⟩
        rw [h2.nilsl_inv]
        refine .one _ _ rfl (.tslv _ _ _ _ _ _ ?_ ?_ rfl)
        · show S'.blk S.heap.length ≠ .unborn
          rw [hblk, if_pos rfl]
          intro e; cases e
        · show phR S ρ S.heap.length = none
          simp only [phR, if_true]
      · cases hv'
    · obtain ⟨V, h1, h2⟩ := hR.tm i v hv'
      refine ⟨V, h1, ?_⟩
      have := RV.tr hle h2
      rwa [AV.tr_some] at this
  · rw [hblk] at hb
    split at hb
    · rename_i e
      injection hb with hb
      subst hb e
      simp only [phR, if_true]
      exact ⟨rfl, rfl⟩
    · rename_i hne
      have hρ : phR S ρ i = ρ i := by simp only [phR, if_neg hne]
      rw [hρ]
      have := hR.hb i b hb
      cases hri : ρ i with
      | none => rw [hri] at this; exact this
      | some p =>
        obtain ⟨g, o⟩ := p
        rw [hri] at this
        obtain ⟨rc, el, lo, hi, flat, q1, q2, q3, q4, q5⟩ := this
        refine ⟨rc, el, lo, hi, flat, q1, q2, ?_, q4, q5⟩
        have := RC.tr hle q3
        rwa [AV.tr_some] at this
  · have hne : i ≠ S.heap.length := fun e => by simp only [phR, if_pos e] at hr; cases hr
    have hne' : i' ≠ S.heap.length := fun e => by simp only [phR, if_pos e] at hr'; cases hr'
    rw [hblk, if_neg hne] at hb
    rw [hblk, if_neg hne'] at hb'
    simp only [phR, if_neg hne] at hr
    simp only [phR, if_neg hne'] at hr'
    exact hR.inj i i' b b' g o o' hb hb' hr hr'
  · have hne : i ≠ S.heap.length := fun e => by simp only [phR, if_pos e] at hr; cases hr
    rw [hblk, if_neg hne] at hb
    simp only [phR, if_neg hne] at hr
    exact hR.nf i b g o hb hr
  · obtain ⟨h1, h2⟩ := hR.pn i hi
    have hne : i ≠ S.heap.length := fun e => h1 (by rw [e]; exact blk_nb S)
    refine ⟨?_, by simp only [phR, if_neg hne]; exact h2⟩
    rw [hblk, if_neg hne]
    exact h1
  · have := RV.tr hle (hR.gl g pd hg)
    rwa [AV.tr_some] at this
theorem Tri.phT {P : Program} {C : Cfg2} {S S1 : AS} {c : Code} {Q : Exit → AS → Prop} (j : Nat) (d : Kd) (sz : Nat) (hj : S.tmps[j]? = some (some .nilsl)) (hS : (⟨S.tmps.set j (some (.tsl S.heap.length [] 0 0 sz 0)), setAt S.heap S.heap.length (.live (.pure (.arr 0 d) []))⟩ : AS) = S1)
    (hq : Tri P C S1 c Q) : Tri P C S c Q := Tri.weak (Wk.phT hj) (hS ▸ hq)
attribute [go_sem] AV.rl AV.rl.rlL AV.rlO AV.rlO.rlOL Slot.rl relS tmO hpO
end Go.Vc

/- Vc, part Zq: a block gets another name. -/
namespace Go.Vc
set_option linter.unusedVariables false
set_option linter.unusedSimpArgs false
set_option linter.unusedSectionVars false
def mvF (i j : Nat) : Nat → Option Nat := fun k => if k = j then some i else if k = i then none else some k
def mvS (S : AS) (i j : Nat) : AS := ⟨S.tmps.map (Option.map (AV.tr (mvF i j))), setAt (setAt (S.heap.map (Slot.tr (mvF i j))) i ((S.blk j).tr (mvF i j))) j .dead⟩
theorem tr_unborn {f : Nat → Option Nat} {s : Slot} : s.tr f = .unborn ↔ s = .unborn := by cases s <;> simp [Slot.tr]
theorem mvS_blk (S : AS) {i j : Nat} (hij : i ≠ j) (k : Nat) : (mvS S i j).blk k = if k = j then .dead else if k = i then (S.blk j).tr (mvF i j) else (S.blk k).tr (mvF i j) := by
  simp only [mvS, AS.blk, setAt_getD]
  split
  · rfl
  · split
    · rfl
    · simp only [List.getD_eq_getElem?_getD, List.getElem?_map]
      cases S.heap[k]? <;> rfl
def mvR (ρ : Nat → Option (Nat × Nat)) (i j : Nat) : Nat → Option (Nat × Nat) := fun k => if k = i then ρ j else ρ k
section
variable {C : Cfg2} {S : AS}
/-- Block j is called i from now on. -/
theorem Wk.mv {i j : Nat} (hij : i ≠ j) (hj : S.blk j ≠ .unborn) (hp : (C.pin.contains i || C.pin.contains j) = false) : Wk C S (mvS S i j) := by
  intro E ρ a w hG hpin hR
  simp only [Bool.or_eq_false_iff] at hp
  have hlive : ∀ {k : Nat} {b : AV}, (mvS S i j).blk k = .live b → k ≠ j ∧ ∃ k0 b0, S.blk k0 = .live b0 ∧ b = b0.tr (mvF i j) ∧ mvR ρ i j k = ρ k0 ∧ (k = i → k0 = j) ∧ (k ≠ i → k0 = k) := by
    intro k b h
    rw [mvS_blk S hij] at h
    split at h
    · cases h
    · rename_i hkj
      refine ⟨hkj, ?_⟩
      split at h
      · rename_i hki
        cases hs : S.blk j with
        | unborn => rw [hs] at h; cases h
        | dead => rw [hs] at h; cases h
        | live b0 => rw [hs] at h; injection h with h; exact ⟨j, b0, hs, h.symm, by simp [mvR, hki], fun _ => rfl, fun e => absurd hki e⟩
      · rename_i hki
        cases hs : S.blk k with
        | unborn => rw [hs] at h; cases h
        | dead => rw [hs] at h; cases h
        | live b0 => rw [hs] at h; injection h with h; exact ⟨k, b0, hs, h.symm, by simp [mvR, hki], fun e => absurd e hki, fun _ => rfl⟩
  have hle : Ctx.Le (mvF i j) (ctx E ρ S.blk w) (ctx E (mvR ρ i j) (mvS S i j).blk w) := by
    refine ⟨fun own b hok _ => ⟨⟨fun k bl o hb hr => ?_, hok.2⟩, rfl⟩, fun k m hb hk => ?_, fun k m g o hb hk hr rc el fr hc => ⟨rc, el, fr, hc, Nat.le_refl _⟩⟩
    · obtain ⟨_, k0, b0, h0, _, h1, _⟩ := hlive hb
      rw [h1] at hr
      exact hok.1 k0 b0 o h0 hr
    · have hk' : mvF i j k = some m := hk
      simp only [mvF] at hk'
      have hb' : S.blk k ≠ .unborn := hb
      split at hk'
      · rename_i hkj
        injection hk' with hk'
        subst hk' hkj
        refine ⟨?_, by show mvR ρ _ _ _ = ρ _; simp [mvR]⟩
        show (mvS S _ _).blk _ ≠ .unborn
        rw [mvS_blk S hij, if_neg hij, if_pos rfl]
        exact fun e => hj (tr_unborn.1 e)
      · split at hk'
        · cases hk'
        · rename_i hkj hki
          injection hk' with hk'
          subst hk'
          refine ⟨?_, by show mvR ρ _ _ _ = ρ _; simp [mvR, hki]⟩
          show (mvS S _ _).blk _ ≠ .unborn
          rw [mvS_blk S hij, if_neg hkj, if_neg hki]
          exact fun e => hb' (tr_unborn.1 e)
  refine ⟨mvR ρ i j, ?_, hR.df, fun t v hv => ?_, fun k b hb => ?_, fun k k' b b' g o o' hb hb' hr hr' => ?_, fun k b g o hb hr => ?_, hR.fr, fun k hk => ?_, fun g pd hg => ?_⟩
  · rw [← hR.len]; simp [mvS]
  · have hv' : (S.tmps.map (Option.map (AV.tr (mvF i j))))[t]? = some (some v) := hv
    rw [List.getElem?_map] at hv'
    cases hx : S.tmps[t]? with
    | none => rw [hx] at hv'; cases hv'
    | some x =>
      rw [hx] at hv'
      cases x with
      | none => simp at hv'
      | some v0 =>
        simp only [Option.map_some, Option.some.injEq] at hv'
        subst hv'
        obtain ⟨V, h1, h2⟩ := hR.tm t v0 hx
        exact ⟨V, h1, RV.tr hle h2⟩
  · obtain ⟨_, k0, b0, h0, rfl, h1, _⟩ := hlive hb
    have h2 := hR.hb k0 b0 h0
    rw [h1]
    cases hr : ρ k0 with
    | none =>
      rw [hr] at h2
      cases b0 with
      | pure dk x => exact h2
      | _ => exact h2.elim
    | some p =>
      obtain ⟨g, o⟩ := p
      rw [hr] at h2
      obtain ⟨rc, el, lo, hi, flat, q1, q2, q3, q4, q5⟩ := h2
      exact ⟨rc, el, lo, hi, flat, q1, q2, RC.tr hle q3, q4, q5⟩
  · obtain ⟨hkj, k0, b0, h0, _, h1, e1, e2⟩ := hlive hb
    obtain ⟨hkj', k1, b1, h2, _, h3, e3, e4⟩ := hlive hb'
    rw [h1] at hr
    rw [h3] at hr'
    have := hR.inj k0 k1 b0 b1 g o o' h0 h2 hr hr'
    by_cases hk : k = i <;> by_cases hk' : k' = i
    · rw [hk, hk']
    · exact absurd ((e4 hk').symm.trans (this.symm.trans (e1 hk))) hkj'
    · exact absurd ((e2 hk).symm.trans (this.trans (e3 hk'))) hkj
    · rw [← e2 hk, ← e4 hk', this]
  · obtain ⟨_, k0, b0, h0, _, h1, _⟩ := hlive hb
    rw [h1] at hr
    exact hR.nf k0 b0 g o h0 hr
  · obtain ⟨h1, h2⟩ := hR.pn k hk
    have hki : k ≠ i := fun e => by
      subst e
      have := hpin k hk
      rw [← List.contains_iff_mem] at this
      rw [this] at hp; cases hp.1
    have hkj : k ≠ j := fun e => by
      subst e
      have := hpin k hk
      rw [← List.contains_iff_mem] at this
      rw [this] at hp; cases hp.2
    refine ⟨?_, by simp only [mvR, if_neg hki]; exact h2⟩
    rw [mvS_blk S hij, if_neg hkj, if_neg hki]
    exact fun e => h1 (tr_unborn.1 e)
  · exact RV.tr hle (hR.gl g pd hg)
theorem Tri.mv {P : Program} {c : Code} {Q : Exit → AS → Prop} (i j : Nat) {S1 : AS} (hij : i ≠ j) (hj : S.blk j ≠ .unborn) (hp : (C.pin.contains i || C.pin.contains j) = false) (hS : mvS S i j = S1) (hq : Tri P C S1 c Q) : Tri P C S c Q :=
  Tri.weak (Wk.mv hij hj hp) (hS ▸ hq)
end
attribute [go_sem] mvS mvF
end Go.Vc
