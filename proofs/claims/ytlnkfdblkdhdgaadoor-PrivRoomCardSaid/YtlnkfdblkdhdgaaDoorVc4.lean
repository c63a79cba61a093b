/- Part of a proof: No more boxes are open than there is room for; what is acknowledged makes room for as many -/
import Derived.Test.YtlnkfdblkdhdgaaDoorVc3
import Derived.Lib.Bytealg
import Derived.Below
import Derived.Laws.AppendOwn
set_option linter.unusedVariables false
set_option linter.unusedSimpArgs false
set_option linter.unusedSectionVars false
namespace Go.Vc
def AV.rl (ow : Bool) (id : Nat) (d : Kd) (xs : List d.T) : AV → AV
  | .ptr i p o => if i = id then .dead else .ptr i p o
  | .arrp i p a o s n => if i = id then .dead else .arrp i p a o s n
  | .map i => if i = id then .dead else .map i
  | .tsl i [] a o s n => if i = id then .pure (.slice ow d) (List.take n (List.drop a xs)) else .tsl i [] a o s n
  | .tsl i (q :: p) a o s n => if i = id then .dead else .tsl i (q :: p) a o s n
  | .func fn a b => .func fn (rlL ow id d xs a) (rlL ow id d xs b)
  | .iface t v => .iface t (rl ow id d xs v)
  | .agg l => .agg (rlL ow id d xs l)
  | .tuple l => .tuple (rlL ow id d xs l)
  | v => v
where rlL (ow : Bool) (id : Nat) (d : Kd) (xs : List d.T) : List AV → List AV
  | [] => []
  | v :: r => rl ow id d xs v :: rlL ow id d xs r
def AV.rlO (id : Nat) (d : Kd) (N : Nat) : AV → List Prop
  | .tsl i [] a o s n => if i = id then [o = a * d.sz, s = d.sz, a + n ≤ N] else []
  | .func _ a b => rlOL id d N a ++ rlOL id d N b
  | .iface _ v => rlO id d N v
  | .agg l => rlOL id d N l
  | .tuple l => rlOL id d N l
  | _ => []
where rlOL (id : Nat) (d : Kd) (N : Nat) : List AV → List Prop
  | [] => []
  | v :: r => rlO id d N v ++ rlOL id d N r
theorem AV.rl_isAgg (ow : Bool) (id : Nat) (d : Kd) (xs : List d.T) (v : AV) : (v.rl ow id d xs).isAgg = v.isAgg := by
  cases v with
  | ptr i p o => simp only [AV.rl]; split <;> rfl
  | arrp i p a o s n => simp only [AV.rl]; split <;> rfl
  | map i => simp only [AV.rl]; split <;> rfl
  | tsl i p a o s n => cases p <;> simp only [AV.rl] <;> split <;> rfl
  | _ => rfl
structure Ctx.Rl (id : Nat) (d : Kd) (N : Nat) (xs : List d.T) (c c' : Ctx) : Prop where
  hp : c'.hp = c.hp
  ok : ∀ own b, c.ok own b → c'.ok own b
  ρ : c'.ρ = c.ρ
  born : ∀ i, c.born i → i ≠ id → c'.born i
  len : xs.length = N
  here : ∀ g o, c.ρ id = some (g, o) → ∃ rc el fr flat, c.hp g = some (.cells rc el fr) ∧ c'.ok true g ∧ RL (Reads c'.ok c'.hp d) xs flat ∧ (rc.toList.drop o).take flat.length = flat
theorem take_drop_len {α : Type} (xs : List α) (a n : Nat) (h : a + n ≤ xs.length) : (List.take n (List.drop a xs)).length = n := by
  rw [List.length_take, List.length_drop]; omega
theorem rl_tsl {ow : Bool} {id : Nat} {d : Kd} {N : Nat} {xs : List d.T} {c c' : Ctx} (h : Ctx.Rl id d N xs c c') {a o s n g og cap : Nat} {A : Option Addr} (hr : c.ρ id = some (g, og)) (hl : n ≤ cap) (hA : 0 < cap → A = some ⟨g, og + o, none⟩)
    (h1 : o = a * d.sz) (h2 : s = d.sz) (h3 : a + n ≤ N) : RC c' (.pure (.slice ow d) (List.take n (List.drop a xs))) [.slice A n cap] := by
  have hlen := take_drop_len xs a n (by rw [h.len]; exact h3)
  refine .pure _ _ _ ⟨A, cap, by rw [hlen], by rw [hlen]; exact hl, ?_⟩
  by_cases hc : cap = 0
  · refine .inl (List.eq_nil_of_length_eq_zero ?_)
    rw [hlen]; omega
  · obtain ⟨rc, el, fr, flat, e1, e2, e3, e4⟩ := h.here g og hr
    have hk : ∀ x cs, Reads c'.ok c'.hp d x cs → cs.length = d.sz := fun x cs hh => hh.len
    have hfl := RL.len hk e3
    refine .inr ⟨g, og + o, rc, el, fr, (flat.drop (a * d.sz)).take (n * d.sz), hA (by omega), (by cases ow; exact c'.weak g e2; exact e2), by rw [h.hp]; exact e1, RL.take hk n (RL.drop hk a e3), ?_⟩
    have hl2 : ((flat.drop (a * d.sz)).take (n * d.sz)).length = n * d.sz := by
      rw [List.length_take, List.length_drop, hfl, h.len]
      have : (a + n) * d.sz ≤ N * d.sz := Nat.mul_le_mul_right _ h3
      rw [Nat.add_mul] at this
      omega
    rw [hl2, h1]
    conv => rhs; rw [← e4]
    refine (sub_sub _ _ _ _ _ ?_).symm
    rw [hfl, h.len]
    have : (a + n) * d.sz ≤ N * d.sz := Nat.mul_le_mul_right _ h3
    rw [Nat.add_mul] at this
    omega
mutual
theorem RC.rl {ow : Bool} {id : Nat} {d : Kd} {N : Nat} {xs : List d.T} {c c' : Ctx} (h : Ctx.Rl id d N xs c c') : ∀ {v : AV} {cs : List Value}, RC c v cs → (∀ q ∈ v.rlO id d N, q) → RC c' (v.rl ow id d xs) cs
  | _, _, .int k x, _ => .int k x
  | _, _, .bool b, _ => .bool b
  | _, _, .str l, _ => .str l
  | _, _, .pure d x cs hr, _ => .pure d x cs (hr.mono fun own b h1 _ => ⟨h.ok own b h1, by rw [h.hp]⟩)
  | _, _, .nilp, _ => .nilp
  | _, _, .ptr i p off g o hb hr, _ => by
    simp only [AV.rl]
    split
    · exact .dead _ rfl
    · rename_i hne; exact .ptr i p off g o (h.born i hb hne) (by rw [h.ρ]; exact hr)
  | _, _, .arrp i p a off sz n g o hb hr, _ => by
    simp only [AV.rl]
    split
    · exact .dead _ rfl
    · rename_i hne; exact .arrp i p a off sz n g o (h.born i hb hne) (by rw [h.ρ]; exact hr)
  | _, _, .ept own d x b o rc el fr flat hok hh hr hf, _ => .ept own d x b o rc el fr flat (h.ok own b hok) (by rw [h.hp]; exact hh) (hr.mono fun own b h1 _ => ⟨h.ok own b h1, by rw [h.hp]⟩) hf
  | _, _, .nilsl, _ => .nilsl
  | _, _, .tsl i [] a off sz len g o cap A hb hr hl hA rc el fr hh hs, ho => by
    simp only [AV.rl]
    split
    · rename_i he
      subst he
      simp only [AV.rlO, if_true, List.mem_cons, List.not_mem_nil, or_false, forall_eq_or_imp, forall_eq] at ho
      exact rl_tsl h hr hl hA ho.1 ho.2.1 ho.2.2
    · rename_i hne; exact .tsl i [] a off sz len g o cap A (h.born i hb hne) (by rw [h.ρ]; exact hr) hl hA rc el fr (by rw [h.hp]; exact hh) hs
  | _, _, .tsl i (q :: p) a off sz len g o cap A hb hr hl hA rc el fr hh hs, ho => by
    simp only [AV.rl]
    split
    · exact .dead _ rfl
    · rename_i hne; exact .tsl i (q :: p) a off sz len g o cap A (h.born i hb hne) (by rw [h.ρ]; exact hr) hl hA rc el fr (by rw [h.hp]; exact hh) hs
  | _, _, .tslv i [] a off sz len hb hr h0, _ => by
    simp only [AV.rl]
    split
    · subst h0
      exact .pure _ _ _ ⟨none, 0, rfl, Nat.le_refl _, .inl rfl⟩
    · rename_i hne; exact .tslv i [] a off sz len (h.born i hb hne) (by rw [h.ρ]; exact hr) h0
  | _, _, .tslv i (q :: p) a off sz len hb hr h0, _ => by
    simp only [AV.rl]
    split
    · exact .dead _ rfl
    · rename_i hne; exact .tslv i (q :: p) a off sz len (h.born i hb hne) (by rw [h.ρ]; exact hr) h0
  | _, _, .nmap, _ => .nmap
  | _, _, .map i g hb hr, _ => by
    simp only [AV.rl]
    split
    · exact .dead _ rfl
    · rename_i hne; exact .map i g (h.born i hb hne) (by rw [h.ρ]; exact hr)
  | _, _, .nilFunc, _ => .nilFunc
  | _, _, .func fn a b x y ha hb, ho => .func fn _ _ x y (RVs.rl h ha fun q hq => ho q (List.mem_append_left _ hq)) (RVs.rl h hb fun q hq => ho q (List.mem_append_right _ hq))
  | _, _, .nilIface, _ => .nilIface
  | _, _, .iface t v x hv, ho => .iface t _ x (RV.rl h hv ho)
  | _, _, .agg l cs hl, ho => .agg _ cs (RCs.rl h hl ho)
  | _, _, .dead x hx, _ => .dead x hx
theorem RCs.rl {ow : Bool} {id : Nat} {d : Kd} {N : Nat} {xs : List d.T} {c c' : Ctx} (h : Ctx.Rl id d N xs c c') : ∀ {v : List AV} {cs : List Value}, RCs c v cs → (∀ q ∈ AV.rlO.rlOL id d N v, q) → RCs c' (AV.rl.rlL ow id d xs v) cs
  | _, _, .nil, _ => .nil
  | _, _, .cons v r c1 c2 hv hr, ho => .cons _ _ c1 c2 (RC.rl h hv fun q hq => ho q (List.mem_append_left _ hq)) (RCs.rl h hr fun q hq => ho q (List.mem_append_right _ hq))
theorem RV.rl {ow : Bool} {id : Nat} {d : Kd} {N : Nat} {xs : List d.T} {c c' : Ctx} (h : Ctx.Rl id d N xs c c') : ∀ {v : AV} {x : Value}, RV c v x → (∀ q ∈ v.rlO id d N, q) → RV c' (v.rl ow id d xs) x
  | _, _, .one v x hv hc, ho => .one _ x (by rw [AV.rl_isAgg]; exact hv) (RC.rl h hc ho)
  | _, _, .agg v a hv hc, ho => .agg _ a (by rw [AV.rl_isAgg]; exact hv) (RC.rl h hc ho)
  | _, _, .tuple l x hl, ho => .tuple _ x (RVs.rl h hl ho)
theorem RVs.rl {ow : Bool} {id : Nat} {d : Kd} {N : Nat} {xs : List d.T} {c c' : Ctx} (h : Ctx.Rl id d N xs c c') : ∀ {v : List AV} {x : List Value}, RVs c v x → (∀ q ∈ AV.rlO.rlOL id d N v, q) → RVs c' (AV.rl.rlL ow id d xs v) x
  | _, _, .nil, _ => .nil
  | _, _, .cons v r x y hv hr, ho => .cons _ _ x y (RV.rl h hv fun q hq => ho q (List.mem_append_left _ hq)) (RVs.rl h hr fun q hq => ho q (List.mem_append_right _ hq))
end
def Slot.rl (ow : Bool) (id : Nat) (d : Kd) (xs : List d.T) : Slot → Slot
  | .live b => .live (b.rl ow id d xs) | s => s
def relS (S : AS) (ow : Bool) (id : Nat) (d : Kd) (xs : List d.T) : AS := ⟨S.tmps.map (Option.map (AV.rl ow id d xs)), (setAt S.heap id .dead).map (Slot.rl ow id d xs)⟩
def tmO (id : Nat) (d : Kd) (N : Nat) : List (Option AV) → List Prop
  | [] => [] | some v :: r => v.rlO id d N ++ tmO id d N r | none :: r => tmO id d N r
def hpO (id : Nat) (d : Kd) (N : Nat) : List Slot → List Prop
  | [] => [] | .live b :: r => b.rlO id d N ++ hpO id d N r | _ :: r => hpO id d N r
theorem tmO_mem {id : Nat} {d : Kd} {N : Nat} : ∀ {l : List (Option AV)} {i : Nat} {v : AV}, l[i]? = some (some v) → ∀ q ∈ v.rlO id d N, q ∈ tmO id d N l
  | [], i, v, h, q, hq => by simp at h
  | none :: r, 0, v, h, q, hq => by simp at h
  | some u :: r, 0, v, h, q, hq => by
    simp only [List.getElem?_cons_zero, Option.some.injEq] at h
    subst h
    exact List.mem_append_left _ hq
  | none :: r, i + 1, v, h, q, hq => tmO_mem (l := r) (by simpa using h) q hq
  | some u :: r, i + 1, v, h, q, hq => List.mem_append_right _ (tmO_mem (l := r) (by simpa using h) q hq)
theorem hpO_mem {id : Nat} {d : Kd} {N : Nat} : ∀ {l : List Slot} {i : Nat} {b : AV}, l[i]? = some (.live b) → ∀ q ∈ b.rlO id d N, q ∈ hpO id d N l
  | [], i, v, h, q, hq => by simp at h
  | .unborn :: r, 0, v, h, q, hq => by simp at h
  | .dead :: r, 0, v, h, q, hq => by simp at h
  | .live u :: r, 0, v, h, q, hq => by
    simp only [List.getElem?_cons_zero, Option.some.injEq, Slot.live.injEq] at h
    subst h
    exact List.mem_append_left _ hq
  | .unborn :: r, i + 1, v, h, q, hq => hpO_mem (l := r) (by simpa using h) q hq
  | .dead :: r, i + 1, v, h, q, hq => hpO_mem (l := r) (by simpa using h) q hq
  | .live u :: r, i + 1, v, h, q, hq => List.mem_append_right _ (hpO_mem (l := r) (by simpa using h) q hq)
theorem relS_blk (S : AS) (ow : Bool) (id : Nat) (d : Kd) (xs : List d.T) (i : Nat) : (relS S ow id d xs).blk i = if i = id then .dead else (S.blk i).rl ow id d xs := by
  have h : (relS S ow id d xs).blk i = ((setAt S.heap id .dead).getD i .unborn).rl ow id d xs := by
    simp only [relS, AS.blk, List.getD_eq_getElem?_getD, List.getElem?_map]
    cases (setAt S.heap id .dead)[i]? <;> rfl
  rw [h, setAt_getD]
  split <;> rfl
section
variable {C : Cfg2} {S : AS}
theorem Wk.rel {ow : Bool} {id : Nat} {d : Kd} {N : Nat} {xs : List d.T} (hb : S.blk id = .live (.pure (.arr N d) xs)) (ho : Obs (tmO id d N S.tmps ++ hpO id d N S.heap)) (hp : C.pin.contains id = false) : Wk C S (relS S ow id d xs) := by
  intro E ρ a w hG hpin hR
  have hob := Obs.all ho
  have hlive : ∀ {i : Nat} {b : AV}, (relS S ow id d xs).blk i = .live b → i ≠ id ∧ ∃ b0, S.blk i = .live b0 ∧ b = b0.rl ow id d xs := by
    intro i b h
    rw [relS_blk] at h
    split at h
    · cases h
    · rename_i hne
      refine ⟨hne, ?_⟩
      cases hs : S.blk i with
      | unborn => rw [hs] at h; cases h
      | dead => rw [hs] at h; cases h
      | live b0 => rw [hs] at h; injection h with h; exact ⟨b0, rfl, h.symm⟩
  have hok : ∀ own b, (ctx E ρ S.blk w).ok own b → (ctx E ρ (relS S ow id d xs).blk w).ok own b := fun own b h => ⟨fun i bl o hl => by
    obtain ⟨_, b0, h0, _⟩ := hlive hl
    exact h.1 i b0 o h0, h.2⟩
  have hbid := hR.hb id _ hb
  have hRl : Ctx.Rl id d N xs (ctx E ρ S.blk w) (ctx E ρ (relS S ow id d xs).blk w) := by
    refine ⟨rfl, hok, rfl, fun i hi hne e => ?_, ?_, fun g o hr => ?_⟩
    · have e' : (relS S ow id d xs).blk i = .unborn := e
      rw [relS_blk, if_neg hne] at e'
      have hi' : S.blk i ≠ .unborn := hi
      cases hs : S.blk i with
      | unborn => exact hi' hs
      | dead => rw [hs] at e'; cases e'
      | live b0 => rw [hs] at e'; cases e'
    · cases hr : ρ id with
      | none =>
        rw [hr] at hbid
        exact hbid.2.trans hbid.1.symm
      | some p =>
        rw [hr] at hbid
        obtain ⟨rc, el, lo, hi, flat, q1, q2, q3, q4, q5⟩ := hbid.cl (fun l e => by cases e)
        cases q3 with
        | pure _ _ _ hr => exact hr.1
    · have hr' : ρ id = some (g, o) := hr
      rw [hr'] at hbid
      obtain ⟨rc, el, lo, hi, flat, q1, q2, q3, q4, q5⟩ := hbid.cl (fun l e => by cases e)
      refine ⟨rc, el, (lo, hi), flat, q1, ⟨fun i bl o' hl hρ => ?_, fun _ => (hR.nf id _ g o hb hr').1⟩, ?_, q4⟩
      · obtain ⟨hne, b0, h0, _⟩ := hlive hl
        exact hne (hR.inj i id b0 _ g o' o h0 hb hρ hr')
      · cases q3 with
        | pure _ _ _ hrd => exact hrd.2.imp fun _ _ hh => hh.mono fun own b h1 _ => ⟨hok own b h1, rfl⟩
  refine ⟨ρ, ?_, hR.df, fun i v hv => ?_, fun i b h => ?_, fun i i' b b' g o o' h h' hr hr' => ?_, fun i b g o h hr => ?_, hR.fr, fun i hi => ?_, fun g pd hg => ?_⟩
  · rw [← hR.len]; simp [relS]
  · have hv' : (S.tmps.map (Option.map (AV.rl ow id d xs)))[i]? = some (some v) := hv
    rw [List.getElem?_map] at hv'
    cases hx : S.tmps[i]? with
    | none => rw [hx] at hv'; cases hv'
    | some x =>
      rw [hx] at hv'
      cases x with
      | none => simp at hv'
      | some v0 =>
        simp only [Option.map_some, Option.some.injEq] at hv'
        subst hv'
        obtain ⟨V, h1, h2⟩ := hR.tm i v0 hx
        exact ⟨V, h1, RV.rl hRl h2 fun q hq => hob q (List.mem_append_left _ (tmO_mem hx q hq))⟩
  · obtain ⟨hne, b0, h0, rfl⟩ := hlive h
    have h1 := hR.hb i b0 h0
    have hin : S.heap[i]? = some (.live b0) := by
      have h2 : S.heap.getD i .unborn = .live b0 := h0
      rw [List.getD_eq_getElem?_getD] at h2
      cases hx : S.heap[i]? with
      | none => rw [hx] at h2; cases h2
      | some y => rw [hx] at h2; simp only [Option.getD_some] at h2; rw [h2]
    cases hr : ρ i with
    | none =>
      rw [hr] at h1
      cases b0 with
      | pure dk x => exact h1
      | _ => exact h1.elim
    | some p =>
      rw [hr] at h1
      rcases h1 with ⟨rc, el, lo, hi, flat, q1, q2, q3, q4, q5⟩ | ⟨k0, dd, ks, es, clock, k1, k2, k3⟩
      · exact .inl ⟨rc, el, lo, hi, flat, q1, q2, RC.rl hRl q3 fun q hq => hob q (List.mem_append_right _ (hpO_mem hin q hq)), q4, q5⟩
      · subst k1
        exact .inr ⟨k0, dd, ks, es, clock, rfl, k2, k3⟩
  · obtain ⟨_, b0, h0, _⟩ := hlive h
    obtain ⟨_, b1, h2, _⟩ := hlive h'
    exact hR.inj i i' b0 b1 g o o' h0 h2 hr hr'
  · obtain ⟨_, b0, h0, _⟩ := hlive h
    exact hR.nf i b0 g o h0 hr
  · obtain ⟨h1, h2⟩ := hR.pn i hi
    have hne : i ≠ id := fun e => by
      subst e
      have := hpin i hi
      rw [← List.contains_iff_mem] at this
      rw [this] at hp; cases hp
    refine ⟨?_, h2⟩
    rw [relS_blk, if_neg hne]
    cases hs : S.blk i with
    | unborn => exact absurd hs h1
    | dead => intro e; cases e
    | live b0 => intro e; cases e
  · exact RV.rl (ow := ow) hRl (hR.gl g pd hg) fun q hq => by cases hq
theorem Tri.rel {P : Program} {c : Code} {Q : Exit → AS → Prop} (ow : Bool) (id : Nat) {d : Kd} {N : Nat} {xs : List d.T} {S1 : AS} (hb : S.blk id = .live (.pure (.arr N d) xs)) (ho : Obs (tmO id d N S.tmps ++ hpO id d N S.heap)) (hp : C.pin.contains id = false)
    (hS : relS S ow id d xs = S1) (hq : Tri P C S1 c Q) : Tri P C S c Q := Tri.weak (Wk.rel hb ho hp) (hS ▸ hq)
end
theorem Wk.phT {C : Cfg2} {S : AS} {j : Nat} {d : Kd} {sz : Nat} (hj : S.tmps[j]? = some (some .nilsl)) : Wk C S ⟨S.tmps.set j (some (.tsl S.heap.length [] 0 0 sz 0)), setAt S.heap S.heap.length (.live (.pure (.arr 0 d) []))⟩ := by
  intro E ρ a w hG hpin hR
  let S' : AS := ⟨S.tmps.set j (some (.tsl S.heap.length [] 0 0 sz 0)), setAt S.heap S.heap.length (.live (.pure (.arr 0 d) []))⟩
  have hblk : ∀ i, S'.blk i = if i = S.heap.length then .live (.pure (.arr 0 d) []) else S.blk i := fun i => by
    show (setAt S.heap S.heap.length (.live (.pure (.arr 0 d) []))).getD i .unborn = _
    rw [setAt_getD]; rfl
  have hle : Ctx.Le some (ctx E ρ S.blk w) (ctx E (phR S ρ) S'.blk w) := by
    refine ⟨fun own b hok _ => ⟨⟨fun i bl o hb hr => ?_, hok.2⟩, rfl⟩, fun i k hb hk => ?_, fun i k g o hb hk hr rc el fr hc => ⟨rc, el, fr, hc, Nat.le_refl _⟩⟩
    · rw [hblk] at hb
      simp only [phR] at hr
      split at hr
      · cases hr
      · rename_i hne
        rw [if_neg hne] at hb
        exact hok.1 i _ o hb hr
    · injection hk with hk
      subst hk
      have hne : i ≠ S.heap.length := fun e => hb (by rw [e]; exact blk_nb S)
      refine ⟨?_, by show phR S ρ i = ρ i; simp only [phR, if_neg hne]⟩
      show S'.blk i ≠ .unborn
      rw [hblk, if_neg hne]
      exact hb
  refine ⟨phR S ρ, ?_, hR.df, fun i v hv => ?_, fun i b hb => ?_, fun i i' b b' g o o' hb hb' hr hr' => ?_, fun i b g o hb hr => ?_, hR.fr, fun i hi => ?_, fun g pd hg => ?_⟩
  · rw [← hR.len]; simp
  · have hv' : (S.tmps.set j (some (.tsl S.heap.length [] 0 0 sz 0)))[i]? = some (some v) := hv
    rw [List.getElem?_set] at hv'
    split at hv'
    · rename_i e
      subst e
      split at hv'
      · injection hv' with hv'
        injection hv' with hv'
        subst hv'
        obtain ⟨V, h1, h2⟩ := hR.tm j _ hj
        refine ⟨V, h1, ?_⟩
        rw [h2.nilsl_inv]
        refine .one _ _ rfl (.tslv _ _ _ _ _ _ ?_ ?_ rfl)
        · show S'.blk S.heap.length ≠ .unborn
          rw [hblk, if_pos rfl]
          intro e; cases e
        · show phR S ρ S.heap.length = none
          simp only [phR, if_true]
      · cases hv'
    · obtain ⟨V, h1, h2⟩ := hR.tm i v hv'
      refine ⟨V, h1, ?_⟩
      have := RV.tr hle h2
      rwa [AV.tr_some] at this
  · rw [hblk] at hb
    split at hb
    · rename_i e
      injection hb with hb
      subst hb e
      simp only [phR, if_true]
      exact ⟨rfl, rfl⟩
    · rename_i hne
      have hρ : phR S ρ i = ρ i := by simp only [phR, if_neg hne]
      rw [hρ]
      have := hR.hb i b hb
      cases hri : ρ i with
      | none => rw [hri] at this; exact this
      | some p =>
        obtain ⟨g, o⟩ := p
        rw [hri] at this
        rcases this with ⟨rc, el, lo, hi, flat, q1, q2, q3, q4, q5⟩ | this
        · refine .inl ⟨rc, el, lo, hi, flat, q1, q2, ?_, q4, q5⟩
          have := RC.tr hle q3
          rwa [AV.tr_some] at this
        · exact .inr this
  · have hne : i ≠ S.heap.length := fun e => by simp only [phR, if_pos e] at hr; cases hr
    have hne' : i' ≠ S.heap.length := fun e => by simp only [phR, if_pos e] at hr'; cases hr'
    rw [hblk, if_neg hne] at hb
    rw [hblk, if_neg hne'] at hb'
    simp only [phR, if_neg hne] at hr
    simp only [phR, if_neg hne'] at hr'
    exact hR.inj i i' b b' g o o' hb hb' hr hr'
  · have hne : i ≠ S.heap.length := fun e => by simp only [phR, if_pos e] at hr; cases hr
    rw [hblk, if_neg hne] at hb
    simp only [phR, if_neg hne] at hr
    exact hR.nf i b g o hb hr
  · obtain ⟨h1, h2⟩ := hR.pn i hi
    have hne : i ≠ S.heap.length := fun e => h1 (by rw [e]; exact blk_nb S)
    refine ⟨?_, by simp only [phR, if_neg hne]; exact h2⟩
    rw [hblk, if_neg hne]
    exact h1
  · have := RV.tr hle (hR.gl g pd hg)
    rwa [AV.tr_some] at this
theorem Tri.phT {P : Program} {C : Cfg2} {S S1 : AS} {c : Code} {Q : Exit → AS → Prop} (j : Nat) (d : Kd) (sz : Nat) (hj : S.tmps[j]? = some (some .nilsl)) (hS : (⟨S.tmps.set j (some (.tsl S.heap.length [] 0 0 sz 0)), setAt S.heap S.heap.length (.live (.pure (.arr 0 d) []))⟩ : AS) = S1)
    (hq : Tri P C S1 c Q) : Tri P C S c Q := Tri.weak (Wk.phT hj) (hS ▸ hq)
attribute [go_sem] AV.rl AV.rl.rlL AV.rlO AV.rlO.rlOL Slot.rl relS tmO hpO
end Go.Vc

namespace Go.Vc
def mvF (i j : Nat) : Nat → Option Nat := fun k => if k = j then some i else if k = i then none else some k
def mvS (S : AS) (i j : Nat) : AS := ⟨S.tmps.map (Option.map (AV.tr (mvF i j))), setAt (setAt (S.heap.map (Slot.tr (mvF i j))) i ((S.blk j).tr (mvF i j))) j .dead⟩
theorem tr_unborn {f : Nat → Option Nat} {s : Slot} : s.tr f = .unborn ↔ s = .unborn := by cases s <;> simp [Slot.tr]
theorem mvS_blk (S : AS) {i j : Nat} (hij : i ≠ j) (k : Nat) : (mvS S i j).blk k = if k = j then .dead else if k = i then (S.blk j).tr (mvF i j) else (S.blk k).tr (mvF i j) := by
  simp only [mvS, AS.blk, setAt_getD]
  split
  · rfl
  · split
    · rfl
    · simp only [List.getD_eq_getElem?_getD, List.getElem?_map]
      cases S.heap[k]? <;> rfl
def mvR (ρ : Nat → Option (Nat × Nat)) (i j : Nat) : Nat → Option (Nat × Nat) := fun k => if k = i then ρ j else ρ k
section
variable {C : Cfg2} {S : AS}
theorem Wk.mv {i j : Nat} (hij : i ≠ j) (hj : S.blk j ≠ .unborn) (hp : (C.pin.contains i || C.pin.contains j) = false) : Wk C S (mvS S i j) := by
  intro E ρ a w hG hpin hR
  simp only [Bool.or_eq_false_iff] at hp
  have hlive : ∀ {k : Nat} {b : AV}, (mvS S i j).blk k = .live b → k ≠ j ∧ ∃ k0 b0, S.blk k0 = .live b0 ∧ b = b0.tr (mvF i j) ∧ mvR ρ i j k = ρ k0 ∧ (k = i → k0 = j) ∧ (k ≠ i → k0 = k) := by
    intro k b h
    rw [mvS_blk S hij] at h
    split at h
    · cases h
    · rename_i hkj
      refine ⟨hkj, ?_⟩
      split at h
      · rename_i hki
        cases hs : S.blk j with
        | unborn => rw [hs] at h; cases h
        | dead => rw [hs] at h; cases h
        | live b0 => rw [hs] at h; injection h with h; exact ⟨j, b0, hs, h.symm, by simp [mvR, hki], fun _ => rfl, fun e => absurd hki e⟩
      · rename_i hki
        cases hs : S.blk k with
        | unborn => rw [hs] at h; cases h
        | dead => rw [hs] at h; cases h
        | live b0 => rw [hs] at h; injection h with h; exact ⟨k, b0, hs, h.symm, by simp [mvR, hki], fun e => absurd e hki, fun _ => rfl⟩
  have hle : Ctx.Le (mvF i j) (ctx E ρ S.blk w) (ctx E (mvR ρ i j) (mvS S i j).blk w) := by
    refine ⟨fun own b hok _ => ⟨⟨fun k bl o hb hr => ?_, hok.2⟩, rfl⟩, fun k m hb hk => ?_, fun k m g o hb hk hr rc el fr hc => ⟨rc, el, fr, hc, Nat.le_refl _⟩⟩
    · obtain ⟨_, k0, b0, h0, _, h1, _⟩ := hlive hb
      rw [h1] at hr
      exact hok.1 k0 b0 o h0 hr
    · have hk' : mvF i j k = some m := hk
      simp only [mvF] at hk'
      have hb' : S.blk k ≠ .unborn := hb
      split at hk'
      · rename_i hkj
        injection hk' with hk'
        subst hk' hkj
        refine ⟨?_, by show mvR ρ _ _ _ = ρ _; simp [mvR]⟩
        show (mvS S _ _).blk _ ≠ .unborn
        rw [mvS_blk S hij, if_neg hij, if_pos rfl]
        exact fun e => hj (tr_unborn.1 e)
      · split at hk'
        · cases hk'
        · rename_i hkj hki
          injection hk' with hk'
          subst hk'
          refine ⟨?_, by show mvR ρ _ _ _ = ρ _; simp [mvR, hki]⟩
          show (mvS S _ _).blk _ ≠ .unborn
          rw [mvS_blk S hij, if_neg hkj, if_neg hki]
          exact fun e => hb' (tr_unborn.1 e)
  refine ⟨mvR ρ i j, ?_, hR.df, fun t v hv => ?_, fun k b hb => ?_, fun k k' b b' g o o' hb hb' hr hr' => ?_, fun k b g o hb hr => ?_, hR.fr, fun k hk => ?_, fun g pd hg => ?_⟩
  · rw [← hR.len]; simp [mvS]
  · have hv' : (S.tmps.map (Option.map (AV.tr (mvF i j))))[t]? = some (some v) := hv
    rw [List.getElem?_map] at hv'
    cases hx : S.tmps[t]? with
    | none => rw [hx] at hv'; cases hv'
    | some x =>
      rw [hx] at hv'
      cases x with
      | none => simp at hv'
      | some v0 =>
        simp only [Option.map_some, Option.some.injEq] at hv'
        subst hv'
        obtain ⟨V, h1, h2⟩ := hR.tm t v0 hx
        exact ⟨V, h1, RV.tr hle h2⟩
  · obtain ⟨_, k0, b0, h0, rfl, h1, _⟩ := hlive hb
    have h2 := hR.hb k0 b0 h0
    rw [h1]
    cases hr : ρ k0 with
    | none =>
      rw [hr] at h2
      cases b0 with
      | pure dk x => exact h2
      | _ => exact h2.elim
    | some p =>
      obtain ⟨g, o⟩ := p
      rw [hr] at h2
      rcases h2 with ⟨rc, el, lo, hi, flat, q1, q2, q3, q4, q5⟩ | ⟨k0, dd, ks, es, clock, k1, k2, k3⟩
      · exact .inl ⟨rc, el, lo, hi, flat, q1, q2, RC.tr hle q3, q4, q5⟩
      · subst k1
        exact .inr ⟨k0, dd, ks, es, clock, rfl, k2, k3⟩
  · obtain ⟨hkj, k0, b0, h0, _, h1, e1, e2⟩ := hlive hb
    obtain ⟨hkj', k1, b1, h2, _, h3, e3, e4⟩ := hlive hb'
    rw [h1] at hr
    rw [h3] at hr'
    have := hR.inj k0 k1 b0 b1 g o o' h0 h2 hr hr'
    by_cases hk : k = i <;> by_cases hk' : k' = i
    · rw [hk, hk']
    · exact absurd ((e4 hk').symm.trans (this.symm.trans (e1 hk))) hkj'
    · exact absurd ((e2 hk).symm.trans (this.trans (e3 hk'))) hkj
    · rw [← e2 hk, ← e4 hk', this]
  · obtain ⟨_, k0, b0, h0, _, h1, _⟩ := hlive hb
    rw [h1] at hr
    exact hR.nf k0 b0 g o h0 hr
  · obtain ⟨h1, h2⟩ := hR.pn k hk
    have hki : k ≠ i := fun e => by
      subst e
      have := hpin k hk
      rw [← List.contains_iff_mem] at this
      rw [this] at hp; cases hp.1
    have hkj : k ≠ j := fun e => by
      subst e
      have := hpin k hk
      rw [← List.contains_iff_mem] at this
      rw [this] at hp; cases hp.2
    refine ⟨?_, by simp only [mvR, if_neg hki]; exact h2⟩
    rw [mvS_blk S hij, if_neg hkj, if_neg hki]
    exact fun e => h1 (tr_unborn.1 e)
  · exact RV.tr hle (hR.gl g pd hg)
theorem Tri.mv {P : Program} {c : Code} {Q : Exit → AS → Prop} (i j : Nat) {S1 : AS} (hij : i ≠ j) (hj : S.blk j ≠ .unborn) (hp : (C.pin.contains i || C.pin.contains j) = false) (hS : mvS S i j = S1) (hq : Tri P C S1 c Q) : Tri P C S c Q :=
  Tri.weak (Wk.mv hij hj hp) (hS ▸ hq)
end
attribute [go_sem] mvS mvF
end Go.Vc

namespace Go.Vc
section
variable {P : Program} {C : Cfg2} {ops : Array Oper} {o : Oper} {rest : List Oper} {S S1 S2 : AS} {b : Bool} {j d : Nat} {w : Bool}
theorem set_same {l : List (Option AV)} {d : Nat} {x : Option AV} (h : l.getD d none = x) (hx : x ≠ none) : l.set d x = l := by
  rw [List.getD_eq_getElem?_getD] at h
  cases hl : l[d]? with
  | none => rw [hl] at h; exact absurd h.symm hx
  | some y =>
    rw [hl] at h
    simp only [Option.getD_some] at h
    subst h
    obtain ⟨hlt, he⟩ := List.getElem?_eq_some_iff.1 hl
    rw [← he]
    exact List.set_getElem_self hlt
theorem RunT.gd {K : AS → Prop} (hg : o.guard = some (j, w)) (hd : (ops[j]?).bind (·.dst) = some d) (hs : S.tmps.getD d none = some (.bool b))
    (h1 : (⟨S.tmps.set d (some (.bool true)), S.heap⟩ : AS) = S1) (h2 : (⟨S.tmps.set d (some (.bool false)), S.heap⟩ : AS) = S2)
    (ht : b = true → RunT C ops (o :: rest) S1 K) (hf : b = false → RunT C ops (o :: rest) S2 K) : RunT C ops (o :: rest) S K := by
  cases b with
  | true =>
    have := ht rfl
    rw [← h1, set_same hs (by intro e; cases e)] at this
    exact this
  | false =>
    have := hf rfl
    rw [← h2, set_same hs (by intro e; cases e)] at this
    exact this
theorem RunD.gd {K : AS → List FP → Prop} (hg : o.guard = some (j, w)) (hd : (ops[j]?).bind (·.dst) = some d) (hs : S.tmps.getD d none = some (.bool b))
    (h1 : (⟨S.tmps.set d (some (.bool true)), S.heap⟩ : AS) = S1) (h2 : (⟨S.tmps.set d (some (.bool false)), S.heap⟩ : AS) = S2)
    (ht : b = true → RunD C ops (o :: rest) S1 K) (hf : b = false → RunD C ops (o :: rest) S2 K) : RunD C ops (o :: rest) S K := by
  cases b with
  | true =>
    have := ht rfl
    rw [← h1, set_same hs (by intro e; cases e)] at this
    exact this
  | false =>
    have := hf rfl
    rw [← h2, set_same hs (by intro e; cases e)] at this
    exact this
theorem Tri.join {x y : Code} {Q : Exit → AS → Prop} {σ : Type} (I : σ → AS) (K : σ → Prop) (hx : Tri P C S x (Then (fun S' => ∃ s, K s ∧ Wk C S' (I s)) Q)) (hy : ∀ s, K s → Tri P C (I s) y Q) : Tri P C S x (Then (fun S' => Tri P C S' y Q) Q) :=
  hx.mono fun e S' h => by
    cases e with
    | normal =>
      obtain ⟨s, k, hw⟩ := h
      exact Tri.weak hw (hy s k)
    | _ => exact h
end
end Go.Vc

namespace Go.Vc
section
variable {P : Program} {G : Nat → Option PD}
theorem ESumOK.val {f : FuncId} {fn : Func} {e : Array Value → Sem Value} (hf : P.funcs[f]? = some fn) (hname : (fn.name == "runtime.NumGoroutine") = false) (hb : fn.body.isNone = true) (hn : Extern.findNext fn = none) (he : Extern.find fn = some e)
    {sum : List AV → Nat → HP Res} (hrun : ∀ args nb mem r l, (sum args nb).run mem = some (r, l) → ∃ v obs, r = { v := some v, obs := obs } ∧ ∀ c V w, RVs c args V → ∃ X, (e V.toArray).run P w = .ok X w ∧ RV c v X) : ESumOK P G f sum :=
  ⟨fun S args nb r l h ho hnew E ρ a w hG hk hR V hV => by
    obtain ⟨v, obs, rfl, hx⟩ := hrun args nb _ r l h
    obtain ⟨X, h1, h2⟩ := hx _ V w hV
    refine ⟨X, w, ρ, ?_, fun dst => ?_⟩
    · rw [run_callFunc_extern hf hname hb hn he, h1]; rfl
    · exact hR.put dst (some v) X (fun u hu => by injection hu with hu; subst hu; exact h2)⟩
def sIdxB : List AV → Nat → HP Res := fun args _ => match args with
  | [.str s, .int .u8 c] => .ret { v := some (.int .i64 (Lib.indexByte s c)) }
  | _ => .fail
def sCntB : List AV → Nat → HP Res := fun args _ => match args with
  | [.str s, .int .u8 c] => .ret { v := some (.int .i64 ((Lib.countByte s c : Nat) : Int)) }
  | _ => .fail
theorem u8_back (c : UInt8) : ((toI .u8 c).toNat).toUInt8 = c := by
  show (((UInt8.toNat c : Nat) : Int).toNat).toUInt8 = c
  rw [Int.toNat_natCast]
  exact UInt8.ofNat_toNat
theorem idxB_ok {f : FuncId} {fn : Func} (hf : P.funcs[f]? = some fn) (hname : (fn.name == "runtime.NumGoroutine") = false) (hb : fn.body.isNone = true) (hn : Extern.findNext fn = none) (he : Extern.find fn = some Extern.BytealgIndexByte.indexByte) : ESumOK P G f sIdxB := by
  refine ESumOK.val hf hname hb hn he fun args nb mem r l h => ?_
  unfold sIdxB at h
  split at h
  · rename_i s c
    have := HP.run_ret h
    subst this
    refine ⟨_, [], rfl, fun ctx V w hV => ?_⟩
    cases hV with
    | cons _ _ X1 _ h1 hr =>
      cases hr with
      | cons _ _ X2 _ h2 hr =>
        cases hr
        have e1 := h1.str_inv
        have e2 := h2.int_inv
        subst e1 e2
        refine ⟨_, Lib.run_indexByteString (P := P) ⟨⟨s⟩⟩ _ w, ?_⟩
        rw [u8_back]
        exact .one _ _ rfl (.int .i64 (Lib.indexByte s c))
  · cases h
theorem cntB_ok {f : FuncId} {fn : Func} (hf : P.funcs[f]? = some fn) (hname : (fn.name == "runtime.NumGoroutine") = false) (hb : fn.body.isNone = true) (hn : Extern.findNext fn = none) (he : Extern.find fn = some Extern.BytealgCount.count) : ESumOK P G f sCntB := by
  refine ESumOK.val hf hname hb hn he fun args nb mem r l h => ?_
  unfold sCntB at h
  split at h
  · rename_i s c
    have := HP.run_ret h
    subst this
    refine ⟨_, [], rfl, fun ctx V w hV => ?_⟩
    cases hV with
    | cons _ _ X1 _ h1 hr =>
      cases hr with
      | cons _ _ X2 _ h2 hr =>
        cases hr
        have e1 := h1.str_inv
        have e2 := h2.int_inv
        subst e1 e2
        refine ⟨_, Lib.run_countString (P := P) ⟨⟨s⟩⟩ _ w, ?_⟩
        rw [u8_back]
        exact .one _ _ rfl (.int .i64 ((Lib.countByte s c : Nat) : Int))
  · cases h
end
structure ExtC where
  sum : List AV → Nat → HP Res
def xIdxB : ExtC := ⟨sIdxB⟩
def xCntB : ExtC := ⟨sCntB⟩
attribute [go_sem] sIdxB sCntB xIdxB xCntB
end Go.Vc

namespace Go.Vc
open Go.RowKit (Below)
section
variable {P : Program}
theorem RVs.of_get {c : Ctx} : ∀ {l : List AV} {x : List Value}, l.length = x.length → (∀ (i : Nat) (v : AV), l[i]? = some v → ∃ X, x[i]? = some X ∧ RV c v X) → RVs c l x
  | [], [], _, _ => .nil
  | [], _ :: _, h, _ => by simp at h
  | _ :: _, [], h, _ => by simp at h
  | v :: l, X :: x, h, hh => by
    refine .cons _ _ _ _ ?_ (RVs.of_get (by simpa using h) fun i u hu => ?_)
    · obtain ⟨Y, h1, h2⟩ := hh 0 v rfl
      simp only [List.getElem?_cons_zero, Option.some.injEq] at h1
      subst h1; exact h2
    · obtain ⟨Y, h1, h2⟩ := hh (i + 1) u (by simpa using hu)
      exact ⟨Y, by simpa using h1, h2⟩
theorem Con.sumOKv {f : FuncId} {fn : Func} {c : Code} (K : Con) (hf : P.funcs[f]? = some fn) (hb : fn.body = some c) (hname : (fn.name == "runtime.NumGoroutine") = false)
    (hInv : InvOK K) (hm : K.m = 0)
    (hcalls : ∀ p, (∀ q ∈ K.pre p, q) → (K.out p).fin = [] ∧ (K.out p).v.strict = true ∧ ∀ (x : Ctx) (w : World) (V : List Value), x.hp = (fun b => w.heap[b]?) → RVs x (K.args p) V →
      Calls P f V.toArray w fun e w' => ∃ X, e = .returned X ∧ Below w.heap.size w w' ∧ ∀ x', RV x' (K.out p).v X) : FSumOK P (fun _ => none) f K.sum := by
  refine ⟨fun args w => by
    have h1 : fn.name ≠ "runtime.NumGoroutine" := by simpa using hname
    simp [callFunc, hf, h1, hb], ?_⟩
  intro S args nb r l hrun hobs hnew E ρ a w hG hpin hR V hV
  obtain ⟨q, l1, l2, h1, h2, h3⟩ := HP.run_bind hrun
  obtain ⟨p, ids, obs⟩ := q
  have := HP.run_ret h2
  subst this
  have ho1 : ∀ q ∈ obs, q := fun q hq => hobs q (List.mem_append_left _ hq)
  have ho2 : ∀ q ∈ K.pre p, q := fun q hq => hobs q (List.mem_append_right _ hq)
  have I := hInv _ _ _ _ _ _ h1 ho1
  obtain ⟨hfin, hst, hc⟩ := hcalls p ho2
  have hs := call_start hR I hV 0
  have e0 : V.toArray ++ Array.replicate (0 - V.toArray.size) undef = V.toArray := by simp
  rw [e0] at hs
  have hlen : (K.args p).length = V.length := by
    have := hs.len
    simpa [Con.start] using this
  have hargs := RVs.of_get hlen fun i v hv => by
    obtain ⟨X, h4, h5⟩ := hs.tm i v (by
      simp only [Con.start, Nat.zero_sub, List.replicate_zero, List.append_nil, List.getElem?_map, hv, Option.map_some])
    exact ⟨X, by simpa using h4, h5⟩
  refine (hc _ w V rfl hargs).mono fun e w' ⟨X, he, hB, hx⟩ => ⟨X, _, he, call_end (ρ2 := fun _ => none) (obs := obs) (nb := nb) hR I hnew hpin (by rw [hm]; exact Nat.zero_le _) hst (by rw [hfin]; rfl) ?_⟩
  rw [hfin]
  have hno : ∀ (ts : List (Option AV)) (id : Nat) (b : AV), ¬ AS.blk ⟨ts, List.map Slot.live []⟩ id = .live b := fun ts id b h => by cases id <;> cases h
  refine ⟨rfl, rfl, fun i v hv => ?_, fun id b h => (hno _ _ _ h).elim, fun id id' b b' g o o' h => (hno _ _ _ h).elim, fun id b g o h => (hno _ _ _ h).elim, ?_, fun i hi => ?_, fun g pd h => ?_⟩
  · cases i with
    | zero =>
      simp only [List.getElem?_cons_zero, Option.some.injEq] at hv
      subst hv
      exact ⟨X, rfl, hx _⟩
    | succ i => simp at hv
  · exact ⟨hB.os, hB.tape, hB.output, hB.size, fun k hk _ => hB.block k hk, fun k rc el fr h => ⟨rc, el, fr, (hB.block k (Array.getElem?_eq_some_iff.1 h).1).trans h, Nat.le_refl _⟩⟩
  · exfalso
    have : i ∈ K.pins := hi
    simp [Con.pins, hm] at this
  · have : E.glob g = some pd := h
    rw [hG] at this
    cases this
theorem Reads.strs {ok : Bool → Nat → Prop} {hp : Nat → Option Obj} : ∀ {x : List (List UInt8)} {flat : List Value}, RL (Reads ok hp .str) x flat → flat = x.map fun l => .string ⟨⟨l⟩⟩
  | [], _, h => h
  | l :: r, _, ⟨c1, c2, e, h1, h2⟩ => by
    rw [e, Reads.strs h2, show c1 = [.string ⟨⟨l⟩⟩] from h1]; rfl
def Kd.zf : Kd → AV
  | .slice _ _ => .nilsl
  | d => .ofKd d d.dflt
def Kd.zfs : Kd → List AV
  | .pair a b => a.zf :: b.zfs
  | _ => []
def Kd.stOk : Kd → Bool
  | .pair _ b => b.stOk | .unit => true | _ => false
theorem Kd.zf_RC (c : Ctx) : ∀ d : Kd, RC c d.zf d.zcells
  | .slice _ _ => .nilsl
  | .int k => RC.ofKd (d := .int k) (Kd.zero_reads (.int k))
  | .bool => RC.ofKd (d := .bool) (Kd.zero_reads .bool)
  | .str => RC.ofKd (d := .str) (Kd.zero_reads .str)
  | .arr n d => RC.ofKd (d := .arr n d) (Kd.zero_reads (.arr n d))
  | .st d => RC.ofKd (d := .st d) (Kd.zero_reads (.st d))
  | .pair a b => RC.ofKd (d := .pair a b) (Kd.zero_reads (.pair a b))
  | .unit => RC.ofKd (d := .unit) (Kd.zero_reads .unit)
theorem Kd.zfs_RCs (c : Ctx) : ∀ d : Kd, d.stOk = true → RCs c d.zfs d.zcells
  | .pair a b, h => .cons _ _ _ _ (Kd.zf_RC c a) (Kd.zfs_RCs c b h)
  | .unit, _ => .nil
  | .int _, h => by cases h
  | .bool, h => by cases h
  | .str, h => by cases h
  | .arr _ _, h => by cases h
  | .st _, h => by cases h
  | .slice _ _, h => by cases h
def TyI.kdz (td : TD) (d : Kd) (bytes : Nat) : TyI := ⟨td, (Kd.st d).sz, bytes, .agg d.zfs, some (.st d), false⟩
theorem TyOK.kdz {P : Program} {t : TypeId} {td : TD} {d : Kd} {bytes : Nat} (htd : match td with
    | .int k => P.underlying t = Option.some (.int k) | .bool => P.underlying t = Option.some .bool | .str => P.underlying t = Option.some .string
    | .ptr e => P.underlying t = Option.some (.pointer e) | .slice e => P.underlying t = Option.some (.slice e) | .arr n e => P.underlying t = Option.some (.array n e)
    | .st fs => ∃ fields, P.underlying t = Option.some (.struct fields) ∧ fields.toList.mapM (fun f => (P.info? f.type).map fun i => (f.offset, i.size)) = Option.some (fs.map (·.2)) ∧ fields.toList.map (·.type) = fs.map (·.1)
    | .func => ∃ a b c, P.underlying t = Option.some (.func a b c)
    | .iface => ∃ m, P.underlying t = Option.some (.interface m)
    | .other => ∃ d, P.underlying t = Option.some d ∧ (match d with | .struct _ => False | .array _ _ => False | _ => True)
    | .map k e d => MapLaw P t k e d)
    (hs : d.stOk = true) (hi : tyInfo P t = Option.some ((Kd.st d).sz, bytes, Option.some (Kd.st d).zval)) : TyOK P t (TyI.kdz td d bytes) := by
  refine TyOK.of htd hi (fun c => ?_) fun d' hd' c => ?_
  · exact .agg _ _ rfl (.agg _ _ (by simpa [Kd.zval, Kd.isAgg, Kd.zcells] using Kd.zfs_RCs c d hs))
  · injection hd' with hd'
    subst hd'
    rw [Kd.zval_cells]
    exact RC.ofKd (Kd.zero_reads (.st d))
attribute [go_sem] TyI.kdz Kd.zf Kd.zfs
end
end Go.Vc

namespace Go.Vc
open Go.RowKit (Below)
section
variable {P : Program}
theorem Con.sumOKn {f : FuncId} {fn : Func} {c : Code} (K : Con) (hf : P.funcs[f]? = some fn) (hb : fn.body = some c) (hname : (fn.name == "runtime.NumGoroutine") = false)
    (hInv : InvOK K) (hm : K.m = 0)
    (hcalls : ∀ p, (∀ q ∈ K.pre p, q) → (K.out p).fin = [] ∧ (K.out p).v.strict = true ∧ ∀ (x : Ctx) (w : World) (V : List Value), x.hp = (fun b => w.heap[b]?) → RVs x (K.args p) V →
      Calls P f V.toArray w fun e w' => ∃ X, e = .returned X ∧ Below w.heap.size w w' ∧ ∀ x' : Ctx, x'.hp = (fun b => w'.heap[b]?) → (∀ own b, w.heap.size ≤ b → x'.ok own b) → RV x' (K.out p).v X) : FSumOK P (fun _ => none) f K.sum := by
  refine ⟨fun args w => by
    have h1 : fn.name ≠ "runtime.NumGoroutine" := by simpa using hname
    simp [callFunc, hf, h1, hb], ?_⟩
  intro S args nb r l hrun hobs hnew E ρ a w hG hpin hR V hV
  obtain ⟨q, l1, l2, h1, h2, h3⟩ := HP.run_bind hrun
  obtain ⟨p, ids, obs⟩ := q
  have := HP.run_ret h2
  subst this
  have ho1 : ∀ q ∈ obs, q := fun q hq => hobs q (List.mem_append_left _ hq)
  have ho2 : ∀ q ∈ K.pre p, q := fun q hq => hobs q (List.mem_append_right _ hq)
  have I := hInv _ _ _ _ _ _ h1 ho1
  obtain ⟨hfin, hst, hc⟩ := hcalls p ho2
  have hs := call_start hR I hV 0
  have e0 : V.toArray ++ Array.replicate (0 - V.toArray.size) undef = V.toArray := by simp
  rw [e0] at hs
  have hlen : (K.args p).length = V.length := by
    have := hs.len
    simpa [Con.start] using this
  have hargs := RVs.of_get hlen fun i v hv => by
    obtain ⟨X, h4, h5⟩ := hs.tm i v (by
      simp only [Con.start, Nat.zero_sub, List.replicate_zero, List.append_nil, List.getElem?_map, hv, Option.map_some])
    exact ⟨X, by simpa using h4, h5⟩
  refine (hc _ w V rfl hargs).mono fun e w' ⟨X, he, hB, hx⟩ => ⟨X, _, he, call_end (ρ2 := fun _ => none) (obs := obs) (nb := nb) hR I hnew hpin (by rw [hm]; exact Nat.zero_le _) hst (by rw [hfin]; rfl) ?_⟩
  rw [hfin]
  have hno : ∀ (ts : List (Option AV)) (id : Nat) (b : AV), ¬ AS.blk ⟨ts, List.map Slot.live []⟩ id = .live b := fun ts id b h => by cases id <;> cases h
  refine ⟨rfl, rfl, fun i v hv => ?_, fun id b h => (hno _ _ _ h).elim, fun id id' b b' g o o' h => (hno _ _ _ h).elim, fun id b g o h => (hno _ _ _ h).elim, ?_, fun i hi => ?_, fun g pd h => ?_⟩
  · cases i with
    | zero =>
      simp only [List.getElem?_cons_zero, Option.some.injEq] at hv
      subst hv
      refine ⟨X, rfl, hx _ rfl fun own b hb' => ⟨fun id bl o h => (hno _ _ _ h).elim, fun _ hF => ?_⟩⟩
      have := callEnv_hF hR (sg0 ids) K.m b hF
      omega
    | succ i => simp at hv
  · exact ⟨hB.os, hB.tape, hB.output, hB.size, fun k hk _ => hB.block k hk, fun k rc el fr h => ⟨rc, el, fr, (hB.block k (Array.getElem?_eq_some_iff.1 h).1).trans h, Nat.le_refl _⟩⟩
  · exfalso
    have : i ∈ K.pins := hi
    simp [Con.pins, hm] at this
  · have : E.glob g = some pd := h
    rw [hG] at this
    cases this
theorem Reads.u8s {ok : Bool → Nat → Prop} {hp : Nat → Option Obj} : ∀ {x : List UInt8} {flat : List Value}, RL (Reads ok hp (.int .u8)) x flat → flat = x.map fun b => .int .u8 (UInt8.toNat b : Int)
  | [], _, h => h
  | l :: r, _, ⟨c1, c2, e, h1, h2⟩ => by
    rw [e, Reads.u8s h2, show c1 = [.int .u8 (UInt8.toNat l : Int)] from h1]; rfl
theorem RL.u8s {ok : Bool → Nat → Prop} {hp : Nat → Option Obj} : ∀ (x : List UInt8), RL (Reads ok hp (.int .u8)) x (x.map fun b => .int .u8 (UInt8.toNat b : Int))
  | [] => rfl
  | b :: r => ⟨[.int .u8 (UInt8.toNat b : Int)], _, rfl, rfl, RL.u8s r⟩
end
end Go.Vc

namespace Go.Vc
def ofLs (d : Kd) : List AV → Option (List d.T)
  | [] => some []
  | v :: r => match d.of v, ofLs d r with
    | some x, some y => some (x :: y)
    | _, _ => none
theorem ofLs_sound {c : Ctx} {d : Kd} : ∀ {l : List AV} {cs : List Value} {xs : List d.T}, ofLs d l = some xs → RCs c l cs → xs.length = l.length ∧ RL (Reads c.ok c.hp d) xs cs
  | [], _, xs, h, .nil => by
    injection h with h
    subst h
    exact ⟨rfl, rfl⟩
  | v :: r, _, xs, h, .cons _ _ c1 c2 hv hr => by
    rw [ofLs] at h
    split at h
    · rename_i x y h1 h2
      injection h with h
      subst h
      obtain ⟨k1, k2⟩ := ofLs_sound h2 hr
      exact ⟨by simp [k1], c1, c2, rfl, Kd.of_sound h1 hv, k2⟩
    · cases h
theorem Wk.fold {C : Cfg2} {S : AS} {id : Nat} {l : List AV} {d : Kd} {xs : List d.T} (hb : S.blk id = .live (.agg l)) (hx : ofLs d l = some xs) : Wk C S ⟨S.tmps, setAt S.heap id (.live (.pure (.arr l.length d) xs))⟩ := by
  intro E ρ a w hG hpin hR
  let S' : AS := ⟨S.tmps, setAt S.heap id (.live (.pure (.arr l.length d) xs))⟩
  have hblk : ∀ i, S'.blk i = if i = id then .live (.pure (.arr l.length d) xs) else S.blk i := fun i => by
    show (setAt S.heap id (.live (.pure (.arr l.length d) xs))).getD i .unborn = _
    rw [setAt_getD]; rfl
  have hlive : ∀ i bl, S'.blk i = .live bl → ∃ bl', S.blk i = .live bl' := fun i bl h => by
    rw [hblk] at h
    split at h
    · rename_i e
      subst e
      exact ⟨_, hb⟩
    · exact ⟨_, h⟩
  have hborn : ∀ i, S.blk i ≠ .unborn → S'.blk i ≠ .unborn := fun i h => by
    rw [hblk]
    split
    · intro e; cases e
    · exact h
  have hle : Ctx.Le some (ctx E ρ S.blk w) (ctx E ρ S'.blk w) := by
    refine ⟨fun own b hok _ => ⟨⟨fun i bl o hb hr => ?_, hok.2⟩, rfl⟩, fun i k hb hk => ?_, fun i k g o hb hk hr rc el fr hc => ⟨rc, el, fr, hc, Nat.le_refl _⟩⟩
    · obtain ⟨bl', h'⟩ := hlive i bl hb
      exact hok.1 i bl' o h' hr
    · injection hk with hk
      subst hk
      exact ⟨hborn _ hb, rfl⟩
  refine ⟨ρ, hR.len, hR.df, fun i v hv => ?_, fun i b h => ?_, fun i i' b b' g o o' h h' hr hr' => ?_, fun i b g o h hr => ?_, hR.fr, fun i hi => ?_, fun g pd hg => ?_⟩
  · obtain ⟨V, h1, h2⟩ := hR.tm i v hv
    refine ⟨V, h1, ?_⟩
    have := RV.tr hle h2
    rwa [AV.tr_some] at this
  · rw [hblk] at h
    split at h
    · rename_i e
      injection h with h
      subst h e
      have := hR.hb i _ hb
      cases hri : ρ i with
      | none =>
        rw [hri] at this
        exact this.elim
      | some p =>
        obtain ⟨g, o⟩ := p
        rw [hri] at this
        obtain ⟨rc, el, lo, hi, flat, q1, q2, q3, q4, q5⟩ := this.cl (fun l e => by cases e)
        refine .inl ⟨rc, el, lo, hi, flat, q1, q2, ?_, q4, q5⟩
        have q3' := RC.tr hle q3
        rw [AV.tr_some] at q3'
        cases q3' with
        | agg _ _ hcs =>
          obtain ⟨k1, k2⟩ := ofLs_sound hx hcs
          exact .pure _ _ _ ⟨k1, k2⟩
    · have := hR.hb i b h
      cases hri : ρ i with
      | none => rw [hri] at this; exact this
      | some p =>
        obtain ⟨g, o⟩ := p
        rw [hri] at this
        rcases this with ⟨rc, el, lo, hi, flat, q1, q2, q3, q4, q5⟩ | this
        · refine .inl ⟨rc, el, lo, hi, flat, q1, q2, ?_, q4, q5⟩
          have := RC.tr hle q3
          rwa [AV.tr_some] at this
        · exact .inr this
  · obtain ⟨_, k⟩ := hlive _ _ h
    obtain ⟨_, k'⟩ := hlive _ _ h'
    exact hR.inj i i' _ _ g o o' k k' hr hr'
  · obtain ⟨_, k⟩ := hlive _ _ h
    exact hR.nf i _ g o k hr
  · obtain ⟨h1, h2⟩ := hR.pn i hi
    exact ⟨hborn _ h1, h2⟩
  · have := RV.tr hle (hR.gl g pd hg)
    rwa [AV.tr_some] at this
theorem Tri.fold {P : Program} {C : Cfg2} {S S1 : AS} {c : Code} {Q : Exit → AS → Prop} (id : Nat) {l : List AV} (d : Kd) {xs : List d.T} (hb : S.blk id = .live (.agg l)) (hx : ofLs d l = some xs)
    (hS : (⟨S.tmps, setAt S.heap id (.live (.pure (.arr l.length d) xs))⟩ : AS) = S1) (hq : Tri P C S1 c Q) : Tri P C S c Q := Tri.weak (Wk.fold hb hx) (hS ▸ hq)
attribute [go_sem] ofLs
def TyI.kda (e : TypeId) (n : Nat) (bytes : Nat) : TyI := ⟨.arr n e, n, bytes, .agg (List.replicate n .nilsl), none, false⟩
theorem nils_RCs (c : Ctx) : ∀ n, RCs c (List.replicate n .nilsl) (List.replicate n (.slice none 0 0))
  | 0 => .nil
  | n + 1 => by
    rw [List.replicate_succ, List.replicate_succ]
    exact .cons _ _ [.slice none 0 0] _ .nilsl (nils_RCs c n)
theorem TyOK.kda {P : Program} {t e : TypeId} {n bytes : Nat} (hu : P.underlying t = Option.some (.array n e)) (hi : tyInfo P t = Option.some (n, bytes, Option.some (.agg (List.replicate n (.slice none 0 0)).toArray))) : TyOK P t (TyI.kda e n bytes) := by
  refine TyOK.of (td := .arr n e) hu hi (fun c => ?_) (fun d hd => by cases hd)
  exact .agg _ _ rfl (.agg _ _ (nils_RCs c n))
attribute [go_sem] TyI.kda
end Go.Vc

namespace Go.Vc
open Go.RowKit (Below)
section
variable {P : Program}
theorem Con.sumOKt {f : FuncId} {fn : Func} {c : Code} (K : Con) (hf : P.funcs[f]? = some fn) (hb : fn.body = some c) (hname : (fn.name == "runtime.NumGoroutine") = false)
    (hInv : InvOK K) (hm : K.m = 0)
    (hcalls : ∀ p, (∀ q ∈ K.pre p, q) → ∃ xs : List UInt8, K.out p = ⟨.tsl 0 [] 0 0 1 xs.length, [.pure (.arr xs.length (.int .u8)) xs]⟩ ∧ ∀ (x : Ctx) (w : World) (V : List Value), x.hp = (fun b => w.heap[b]?) → RVs x (K.args p) V →
      Calls P f V.toArray w fun e w' => ∃ X, e = .returned X ∧ Below w.heap.size w w' ∧ ((X = .slice none 0 0 ∧ xs = []) ∨ ∃ (g cap : Nat) (cur : Array Value) (el : TypeId), X = .slice (some ⟨g, 0, none⟩) xs.length cap ∧ w.heap.size ≤ g ∧ w'.heap[g]? = some (.cells cur el (0, 0)) ∧ xs.length ≤ cap ∧ cap ≤ cur.size ∧
        cur.toList.take xs.length = xs.map fun b => Value.int .u8 (UInt8.toNat b : Int))) : FSumOK P (fun _ => none) f K.sum := by
  refine ⟨fun args w => by
    have h1 : fn.name ≠ "runtime.NumGoroutine" := by simpa using hname
    simp [callFunc, hf, h1, hb], ?_⟩
  intro S args nb r l hrun hobs hnew E ρ a w hG hpin hR V hV
  obtain ⟨q, l1, l2, h1, h2, h3⟩ := HP.run_bind hrun
  obtain ⟨p, ids, obs⟩ := q
  have := HP.run_ret h2
  subst this
  have ho1 : ∀ q ∈ obs, q := fun q hq => hobs q (List.mem_append_left _ hq)
  have ho2 : ∀ q ∈ K.pre p, q := fun q hq => hobs q (List.mem_append_right _ hq)
  have I := hInv _ _ _ _ _ _ h1 ho1
  obtain ⟨xs, hout, hc⟩ := hcalls p ho2
  have hs := call_start hR I hV 0
  have e0 : V.toArray ++ Array.replicate (0 - V.toArray.size) undef = V.toArray := by simp
  rw [e0] at hs
  have hlen : (K.args p).length = V.length := by
    have := hs.len
    simpa [Con.start] using this
  have hargs := RVs.of_get hlen fun i v hv => by
    obtain ⟨X, h4, h5⟩ := hs.tm i v (by
      simp only [Con.start, Nat.zero_sub, List.replicate_zero, List.append_nil, List.getElem?_map, hv, Option.map_some])
    exact ⟨X, by simpa using h4, h5⟩
  refine (hc _ w V rfl hargs).mono fun e w' ⟨X, he, hB, hx⟩ => ?_
  have hb1 : ∀ (ts : List (Option AV)) (id : Nat) (b : AV), AS.blk ⟨ts, List.map Slot.live [.pure (.arr xs.length (.int .u8)) xs]⟩ id = .live b → id = 0 ∧ b = .pure (.arr xs.length (.int .u8)) xs := fun ts id b h => by
    cases id with
    | zero => injection h with h; exact ⟨rfl, h.symm⟩
    | succ id => cases id <;> cases h
  have hpin0 : ∀ i, i ∈ K.pins → False := fun i hi => by simp [Con.pins, hm] at hi
  rcases hx with ⟨hX, hx0⟩ | ⟨g, cap, cur, el, hX, hg, hh, hn, hsz, htk⟩
  · refine ⟨X, _, he, call_end (ρ2 := fun _ => none) (obs := obs) (nb := nb) hR I hnew hpin (by rw [hm]; exact Nat.zero_le _) (by rw [hout]; rfl) (by rw [hout]; rfl) ?_⟩
    rw [hout]
    refine ⟨rfl, rfl, fun i v hv => ?_, fun id b h => ?_, fun id id' b b' g o o' h h' hr => (by cases hr), fun id b g o h hr => (by cases hr), ?_, fun i hi => (hpin0 i hi).elim, fun gg pd h => ?_⟩
    · cases i with
      | zero =>
        simp only [List.getElem?_cons_zero, Option.some.injEq] at hv
        subst hv
        refine ⟨X, rfl, ?_⟩
        rw [hX]
        exact .one _ _ rfl (.tslv 0 [] 0 0 1 _ (by intro e; cases e) rfl (by rw [hx0]; rfl))
      | succ i => simp at hv
    · obtain ⟨h5, h6⟩ := hb1 _ _ _ h
      subst h6
      exact ⟨by rw [hx0]; rfl, by rw [hx0]; rfl⟩
    · exact ⟨hB.os, hB.tape, hB.output, hB.size, fun k hk _ => hB.block k hk, fun k rc el fr h => ⟨rc, el, fr, (hB.block k (Array.getElem?_eq_some_iff.1 h).1).trans h, Nat.le_refl _⟩⟩
    · have : E.glob gg = some pd := h
      rw [hG] at this
      cases this
  · refine ⟨X, _, he, call_end (ρ2 := fun i => if i = 0 then some (g, 0) else none) (obs := obs) (nb := nb) hR I hnew hpin (by rw [hm]; exact Nat.zero_le _) (by rw [hout]; rfl) (by rw [hout]; rfl) ?_⟩
    rw [hout]
    refine ⟨rfl, rfl, fun i v hv => ?_, fun id b h => ?_, fun id id' b b' g o o' h h' _ _ => (hb1 _ _ _ h).1.trans (hb1 _ _ _ h').1.symm, fun id b g' o h hr => ?_, ?_, fun i hi => (hpin0 i hi).elim, fun gg pd h => ?_⟩
    · cases i with
      | zero =>
        simp only [List.getElem?_cons_zero, Option.some.injEq] at hv
        subst hv
        refine ⟨X, rfl, ?_⟩
        rw [hX]
        exact .one _ _ rfl (.tsl 0 [] 0 0 1 _ g 0 cap (some ⟨g, 0, none⟩) (by intro e; cases e) rfl hn (fun _ => rfl) cur el (0, 0) hh (.inr (by omega)))
      | succ i => simp at hv
    · obtain ⟨h5, h6⟩ := hb1 _ _ _ h
      subst h5 h6
      refine .inl ⟨cur, el, 0, 0, xs.map fun b => Value.int .u8 (UInt8.toNat b : Int), hh, ⟨Nat.le_refl _, fun i _ => by omega⟩, .pure _ _ _ ⟨rfl, RL.u8s xs⟩, ?_, ?_⟩
      · rw [List.drop_zero, List.length_map]; exact htk
      · rw [List.length_map]; omega
    · obtain ⟨h5, _⟩ := hb1 _ _ _ h
      subst h5
      have hr' : some (g, 0) = some (g', o) := hr
      injection hr' with hr'
      injection hr' with hr' _
      subst hr'
      refine ⟨fun hF => ?_, .inl hg⟩
      have := callEnv_hF hR (sg0 ids) K.m g hF
      omega
    · exact ⟨hB.os, hB.tape, hB.output, hB.size, fun k hk _ => hB.block k hk, fun k rc el fr h => ⟨rc, el, fr, (hB.block k (Array.getElem?_eq_some_iff.1 h).1).trans h, Nat.le_refl _⟩⟩
    · have : E.glob gg = some pd := h
      rw [hG] at this
      cases this
end
end Go.Vc

namespace Go.Vc
open Go.RowKit (Below)
section
variable {P : Program} {G : Nat → Option PD}
theorem Con.sumOKg {f : FuncId} {fn : Func} {c : Code} (K : Con) (hf : P.funcs[f]? = some fn) (hb : fn.body = some c) (hname : (fn.name == "runtime.NumGoroutine") = false)
    (hInv : InvOK K) (hm : K.m = 0)
    (hcalls : ∀ p, (∀ q ∈ K.pre p, q) → (K.out p).fin = [] ∧ (K.out p).v.strict = true ∧ ∀ (x : Ctx) (w : World) (V : List Value), x.hp = (fun b => w.heap[b]?) → RVs x (K.args p) V →
      Calls P f V.toArray w fun e w' => ∃ X, e = .returned X ∧ Below w.heap.size w w' ∧ ∀ x' : Ctx, x'.hp = (fun b => w'.heap[b]?) → (∀ own b, w.heap.size ≤ b → x'.ok own b) → RV x' (K.out p).v X) : FSumOK P G f K.sum := by
  refine ⟨fun args w => by
    have h1 : fn.name ≠ "runtime.NumGoroutine" := by simpa using hname
    simp [callFunc, hf, h1, hb], ?_⟩
  intro S args nb r l hrun hobs hnew E ρ a w hG hpin hR V hV
  obtain ⟨q, l1, l2, h1, h2, h3⟩ := HP.run_bind hrun
  obtain ⟨p, ids, obs⟩ := q
  have := HP.run_ret h2
  subst this
  have ho1 : ∀ q ∈ obs, q := fun q hq => hobs q (List.mem_append_left _ hq)
  have ho2 : ∀ q ∈ K.pre p, q := fun q hq => hobs q (List.mem_append_right _ hq)
  have I := hInv _ _ _ _ _ _ h1 ho1
  obtain ⟨hfin, hst, hc⟩ := hcalls p ho2
  have hs := call_start hR I hV 0
  have e0 : V.toArray ++ Array.replicate (0 - V.toArray.size) undef = V.toArray := by simp
  rw [e0] at hs
  have hlen : (K.args p).length = V.length := by
    have := hs.len
    simpa [Con.start] using this
  have hargs := RVs.of_get hlen fun i v hv => by
    obtain ⟨X, h4, h5⟩ := hs.tm i v (by
      simp only [Con.start, Nat.zero_sub, List.replicate_zero, List.append_nil, List.getElem?_map, hv, Option.map_some])
    exact ⟨X, by simpa using h4, h5⟩
  refine (hc _ w V rfl hargs).mono fun e w' ⟨X, he, hB, hx⟩ => ⟨X, _, he, call_end (ρ2 := fun _ => none) (obs := obs) (nb := nb) hR I hnew hpin (by rw [hm]; exact Nat.zero_le _) hst (by rw [hfin]; rfl) ?_⟩
  rw [hfin]
  have hno : ∀ (ts : List (Option AV)) (id : Nat) (b : AV), ¬ AS.blk ⟨ts, List.map Slot.live []⟩ id = .live b := fun ts id b h => by cases id <;> cases h
  refine ⟨rfl, rfl, fun i v hv => ?_, fun id b h => (hno _ _ _ h).elim, fun id id' b b' g o o' h => (hno _ _ _ h).elim, fun id b g o h => (hno _ _ _ h).elim, ?_, fun i hi => ?_, fun g pd h => ?_⟩
  · cases i with
    | zero =>
      simp only [List.getElem?_cons_zero, Option.some.injEq] at hv
      subst hv
      refine ⟨X, rfl, hx _ rfl fun own b hb' => ⟨fun id bl o h => (hno _ _ _ h).elim, fun _ hF => ?_⟩⟩
      have := callEnv_hF hR (sg0 ids) K.m b hF
      omega
    | succ i => simp at hv
  · exact ⟨hB.os, hB.tape, hB.output, hB.size, fun k hk _ => hB.block k hk, fun k rc el fr h => ⟨rc, el, fr, (hB.block k (Array.getElem?_eq_some_iff.1 h).1).trans h, Nat.le_refl _⟩⟩
  · exfalso
    have : i ∈ K.pins := hi
    simp [Con.pins, hm] at this
  · have h9 := hs.gl g pd h
    have h10 := RV.tr (f := fun _ => none) (c' := ctx (callEnv E ρ S w (sg0 ids) K.m K.pins (callEnv_hF hR (sg0 ids) K.m)) (fun _ => none) (AS.mk [some (K.out p).v] (List.map Slot.live [])).blk w') ?_ h9
    · exact h10
    · refine ⟨fun own b hok hne => ⟨⟨fun id bl o h => (hno _ _ _ h).elim, hok.2⟩, ?_⟩, fun id j _ hj => (by cases hj), fun id j g o _ hj => (by cases hj)⟩
      refine hB.block b ?_
      have hne' : w.heap[b]? ≠ none := hne
      rcases Nat.lt_or_ge b w.heap.size with hlt | hge
      · exact hlt
      · exact (hne' (Array.getElem?_eq_none hge)).elim
end
end Go.Vc
