/- Part of a proof: No more boxes are open than there is room for; what is acknowledged makes room for as many -/
import Derived.Test.YtlnkfdblkdhdgaaDoorVc1
import Derived.Laws.MakeOwn
import Derived.Laws.Append
import Derived.Laws.StructEq
import Derived.Laws.Pointers
import Derived.DeepKeys
import Derived.Tactics
set_option linter.unusedVariables false
set_option linter.unusedSimpArgs false
set_option linter.unusedSectionVars false
namespace Go.Vc
def setAll (pl : Nat → Option (Nat × Nat)) (z : AV) : List (Nat × AV) → Option (AV × List Prop)
  | [] => some (z, [])
  | (i, v) :: r => match pl i, z.set [i] v with
    | some (off, s), some z' => if v.isTup = false ∧ z.off [i] = off ∧ v.size = s then
        match setAll pl z' r with | some (z'', obs) => some (z'', z.ob [i] ++ obs) | none => none
      else none
    | _, _ => none
def evParts (ev : Operand → Option AV) : List (Nat × Operand) → Option (List (Nat × AV))
  | [] => some []
  | (i, x) :: r => match ev x, evParts ev r with | some v, some l => some ((i, v) :: l) | _, _ => none
theorem foldl_set (off : Nat) : ∀ (vs : List Value) (k : Nat) (cs : Array Value), off + k + vs.length ≤ cs.size →
    ((vs.zipIdx k).foldl (fun (cs : Array Value) (x : Value × Nat) => cs.setIfInBounds (off + x.2) x.1) cs).toList = splice cs.toList (off + k) vs
  | [], k, cs, h => by simp [splice]
  | v :: vs, k, cs, h => by
    simp only [List.length_cons] at h
    simp only [List.zipIdx_cons, List.foldl_cons]
    rw [foldl_set off vs (k + 1) _ (by simp only [Array.size_setIfInBounds]; omega), Array.toList_setIfInBounds, ← Nat.add_assoc, splice_cons _ _ _ _ (by rw [Array.length_toList]; omega)]
theorem fill_sound {c : Ctx} {ev : Operand → Option AV} {ρv : Operand → Value} (hev : ∀ x v, ev x = some v → RV c v (ρv x)) {pl : Nat → Option (Nat × Nat)} : ∀ {parts : List (Nat × Operand)} {ps : List (Nat × AV)} {z z' : AV} {obs : List Prop} {cells : Array Value},
    evParts ev parts = some ps → setAll pl z ps = some (z', obs) → (∀ q ∈ obs, q) → RC c z cells.toList → ∃ cells', Instr.fill pl cells (parts.map fun (i, x) => (i, ρv x)) = some cells' ∧ RC c z' cells'.toList
  | [], ps, z, z', obs, cells, h1, h2, ho, hr => by
    simp only [evParts, Option.some.injEq] at h1
    subst h1
    simp only [setAll, Option.some.injEq, Prod.mk.injEq] at h2
    rw [← h2.1]
    exact ⟨cells, rfl, hr⟩
  | (i, x) :: r, ps, z, z', obs, cells, h1, h2, ho, hr => by
    simp only [evParts] at h1
    split at h1
    · rename_i v l hv hl
      injection h1 with h1
      subst h1
      simp only [setAll] at h2
      split at h2
      · rename_i off s z1 hpl hset
        split at h2
        · rename_i hcond
          split at h2
          · rename_i z2 obs2 hrest
            simp only [Option.some.injEq, Prod.mk.injEq] at h2
            obtain ⟨e1, e2⟩ := h2
            subst e1 e2
            have hc := (hev x v hv).cells (AV.not_tup hcond.1)
            obtain ⟨g1, g2⟩ := AV.set_sound hc hr hset (fun q hq => ho q (List.mem_append_left _ hq))
            have hlen := hc.len
            have hfold : RC c z1 (((ρv x).cells.zipIdx.foldl (fun (cs : Array Value) (x : Value × Nat) => cs.setIfInBounds (off + x.2) x.1) cells)).toList := by
              have := foldl_set off (ρv x).cells.toList 0 cells (by rw [← hcond.2.1]; rw [Array.length_toList] at g2 ⊢; omega)
              rw [← Array.foldl_toList, Array.toList_zipIdx, this, Nat.add_zero, ← hcond.2.1]
              exact g1
            obtain ⟨cells', k1, k2⟩ := fill_sound hev hl hrest (fun q hq => ho q (List.mem_append_right _ hq)) hfold
            refine ⟨cells', ?_, k2⟩
            have hs1 : (ρv x).cells.size = s := by rw [← Array.length_toList, hlen, hcond.2.2]
            simp only [List.map_cons, Instr.fill, hpl]
            rw [if_neg]
            · exact k1
            · rw [hs1]
              simp only [ne_eq, not_true_eq_false, decide_false, Bool.false_or, decide_eq_true_eq]
              rw [← hcond.2.1]
              rw [Array.length_toList] at g2
              simp only [Array.length_toList] at g2
              omega
          · cases h2
        · cases h2
      · cases h2
    · cases h1
section
variable {P : Program} {C : Cfg} {S : AS} {o : Oper} {r : Res} {l : List Nat}
def Cfg.places (C : Cfg) (t : TypeId) : Option (Nat → Option (Nat × Nat)) :=
  match C.ty t with
  | some i => match i.td with
    | .st fs => some fun j => (fs.map (·.2))[j]?
    | .arr _ e => match C.ty e with | some ei => some fun j => some (j * ei.sz, ei.sz) | none => none
    | _ => none
  | none => none
def pBuild (C : Cfg) (ev : Operand → Option AV) (t : TypeId) (parts : Array (Nat × Operand)) : HP Res :=
  match C.ty t, C.places t, evParts ev parts.toList with
  | some i, some pl, some ps => match setAll pl i.zero ps with
    | some (v, obs) => if v.isAgg = true ∧ i.zero.isTup = false then .ret { v := some v, obs := obs } else .fail
    | none => .fail
  | _, _, _ => .fail
theorem sound_build (hT : TysOK P C.ty) {t : TypeId} {parts : Array (Nat × Operand)} (ho : o.op = .build t parts) (h : (pBuild C (S.ev C.G) t parts).run S.blk = some (r, l)) (hob : ∀ q ∈ r.obs, q) : OpOK P C.G C.pin o S r := by
  unfold pBuild at h
  split at h
  · rename_i i pl ps hi hpl hps
    split at h
    · rename_i v obs hset
      split at h
      · rename_i hcond
        have := HP.run_ret h
        subst this
        refine OpOK.val fun E ρ a w hG hR => ?_
        rw [← hG] at hps
        obtain ⟨j, Z, j1, j2, j3, j4, j5, j6⟩ := (hT t i hi).info
        have hz := (j5 (ctx E ρ S.blk w)).cells (AV.not_tup hcond.2)
        obtain ⟨cells', k1, k2⟩ := fill_sound (fun x v hv => hR.ev hv) hps hset hob hz
        have hbuilt : P.built t (parts.map fun (i, x) => (i, a.eval x)).toList = some cells' := by
          rw [Array.toList_map]
          unfold Program.built
          unfold Cfg.places at hpl
          rw [hi] at hpl
          simp only at hpl
          have htd := (hT t i hi).td
          cases htd' : i.td <;> rw [htd'] at htd hpl <;> simp only [reduceCtorEq] at hpl
          · rename_i n e
            split at hpl
            · rename_i ei hei
              injection hpl with hpl
              subst hpl
              obtain ⟨je, Ze, e1, e2, e3, e4, e5, e6⟩ := (hT e ei hei).info
              simp only at htd
              simp only [j1, htd, j4, e1, e2]
              exact k1
            · cases hpl
          · rename_i fs
            injection hpl with hpl
            subst hpl
            obtain ⟨fields, f1, f2, f3⟩ := htd
            simp only [j1, f1, j4, f2]
            have e : (fun (x : Nat) => ((fs.map (·.2)).toArray)[x]?) = fun (x : Nat) => (fs.map (·.2))[x]? := by funext x; simp
            rw [e]
            exact k1
        refine ⟨.agg cells', ?_, .agg _ _ hcond.1 k2⟩
        unfold execOp
        simp only [ho]
        rw [Sem.run_bind, run_build w t _ cells' hbuilt]; rfl
      · cases h
    · cases h
  · cases h
theorem RL_of_chunks {α : Type} {R : α → List Value → Prop} {k : Nat} : ∀ {xs : List α} {cs : List Value}, cs.length = xs.length * k → (∀ i x, xs[i]? = some x → R x ((cs.drop (i * k)).take k)) → RL R xs cs
  | [], cs, hl, _ => List.eq_nil_of_length_eq_zero (by simpa using hl)
  | x :: xs, cs, hl, h => by
    rw [List.length_cons, Nat.add_mul, Nat.one_mul] at hl
    refine ⟨cs.take k, cs.drop k, (List.take_append_drop _ _).symm, by simpa using h 0 x rfl, RL_of_chunks (k := k) (by rw [List.length_drop]; omega) fun i y hy => ?_⟩
    have := h (i + 1) y (by simpa using hy)
    rw [List.drop_drop, show k + i * k = (i + 1) * k by rw [Nat.add_mul, Nat.one_mul, Nat.add_comm]]
    exact this
theorem made_chunk (z : Array Value) (n i : Nat) (hi : i < n) : (((Array.range (n * z.size)).map (z[· % z.size]!)).toList.drop (i * z.size)).take z.size = z.toList := by
  apply List.ext_getElem?
  intro j
  rw [List.getElem?_take]
  by_cases hj : j < z.size
  · rw [if_pos hj, List.getElem?_drop, Array.getElem?_toList, Array.getElem?_toList, Array.getElem?_map]
    have h1 : i * z.size + j < n * z.size := by
      have : (i + 1) * z.size ≤ n * z.size := Nat.mul_le_mul_right _ hi
      rw [Nat.add_mul, Nat.one_mul] at this
      omega
    rw [Array.getElem?_range, if_pos h1]
    simp only [Option.map_some]
    have h2 : (i * z.size + j) % z.size = j := by rw [Nat.add_comm, Nat.add_mul_mod_self_right, Nat.mod_eq_of_lt hj]
    rw [h2, getElem!_pos z j hj, Array.getElem?_eq_getElem hj]
  · rw [if_neg hj, List.getElem?_eq_none (by rw [Array.length_toList]; omega)]
theorem made_reads {ok hp} {d : Kd} {z : Array Value} (hz : Reads ok hp d d.dflt z.toList) (n : Nat) : RL (Reads ok hp d) (List.replicate n d.dflt) ((Array.range (n * z.size)).map (z[· % z.size]!)).toList := by
  have hs : z.size = d.sz := by rw [← Array.length_toList]; exact hz.len
  refine RL_of_chunks (k := z.size) (by simp) fun i x hx => ?_
  have hi : i < n := by have := (List.getElem?_eq_some_iff.1 hx).1; simpa using this
  have hx' : x = d.dflt := by
    have := (List.getElem?_eq_some_iff.1 hx).2
    simpa using this.symm
  rw [made_chunk z n i hi, hx']
  exact hz
theorem RC.ofKd_reads {c : Ctx} {d : Kd} {x : d.T} {cs : List Value} (h : RC c (.ofKd d x) cs) : Reads c.ok c.hp d x cs := by
  cases d <;> simp only [AV.ofKd] at h <;> cases h <;> first | rfl | assumption
theorem nils_RC (c : Ctx) : ∀ n, RCs c (List.replicate n .nilsl) (List.replicate n (.slice none 0 0))
  | 0 => .nil
  | n + 1 => .cons _ _ [.slice none 0 0] _ .nilsl (nils_RC c n)
def pBuildSlice (C : Cfg) (ev : Operand → Option AV) (t : TypeId) (len : Nat) (parts : Array (Nat × Operand)) (nb : Nat) : HP Res :=
  match C.slc t, evParts ev parts.toList with
  | some e, some ps => match C.ty e with
    | some ei => match ei.kd with
      | some d => match setAll (fun j => some (j * ei.sz, ei.sz)) (.pure (.arr len d) (List.replicate len d.dflt)) ps with
        | some (v, obs) => if len * ei.sz ≤ 16777216 ∧ d.sz = ei.sz ∧ ei.zero.isTup = false then .ret { v := some (.tsl nb [] 0 0 d.sz len), wr := [(nb, .live v)], obs := obs, new := 1 } else .fail
        | none => .fail
      | none => match ei.zero with
        | .nilsl => match setAll (fun j => some (j * ei.sz, ei.sz)) (.agg (List.replicate len .nilsl)) ps with
          | some (v, obs) => if len * ei.sz ≤ 16777216 ∧ ei.sz = 1 ∧ v.size = len then .ret { v := some (.tsl nb [] 0 0 1 len), wr := [(nb, .live v)], obs := obs, new := 1 } else .fail
          | none => .fail
        | _ => .fail
    | none => .fail
  | _, _ => .fail
theorem setAll_arr {pl : Nat → Option (Nat × Nat)} {n : Nat} {d : Kd} : ∀ {ps : List (Nat × AV)} {x : List d.T} {v : AV} {obs : List Prop}, setAll pl (.pure (.arr n d) x) ps = some (v, obs) → v.size = n * d.sz ∧ v.isTup = false
  | [], x, v, obs, h => by
    simp only [setAll, Option.some.injEq, Prod.mk.injEq] at h
    rw [← h.1]; exact ⟨rfl, rfl⟩
  | (i, u) :: r, x, v, obs, h => by
    simp only [setAll] at h
    split at h
    · rename_i off s z' hpl hset
      split at h
      · split at h
        · rename_i z2 obs2 hrest
          simp only [Option.some.injEq, Prod.mk.injEq] at h
          rw [← h.1]
          simp only [AV.set, Kd.set] at hset
          split at hset
          · rename_i y hy
            injection hset with hset
            subst hset
            exact setAll_arr hrest
          · simp [AV.setX] at hset
        · cases h
      · cases h
    · cases h
theorem sound_buildSlice (hT : TysOK P C.ty) {t : TypeId} {len : Nat} {parts : Array (Nat × Operand)} {nb : Nat} (hnb0 : 0 < r.new → S.blk nb = .unborn) (ho : o.op = .buildSlice t len parts) (h : (pBuildSlice C (S.ev C.G) t len parts nb).run S.blk = some (r, l)) (hob : ∀ q ∈ r.obs, q) : OpOK P C.G C.pin o S r := by
  unfold pBuildSlice at h
  split at h
  · rename_i e ps hce hps
    have hu := Cfg.slc_ok hT hce
    split at h
    · rename_i ei hei
      split at h
      · rename_i d hd
        split at h
        · rename_i v obs hset
          split at h
          · rename_i hcond
            have := HP.run_ret h
            subst this
            refine OpOK.new (hnb0 Nat.one_pos) fun E ρ a w hG hR => ?_
            rw [← hG] at hps
            obtain ⟨Z, z1, z2, z3⟩ := (hT e ei hei).zeroValue
            have hzs : Z.cells.size = ei.sz := by
              have := (z3 d hd (ctx E ρ S.blk w)).len
              rw [Array.length_toList, AV.size_ofKd] at this
              rw [this, hcond.2.1]
            have hz0 := (z3 d hd (ctx E ρ S.blk w)).ofKd_reads
            have hread := made_reads hz0 len
            have hrc : RC (ctx E ρ S.blk w) (.pure (.arr len d) (List.replicate len d.dflt)) ((Array.range (len * Z.cells.size)).map (Z.cells[· % Z.cells.size]!)).toList := .pure _ _ _ ⟨by simp, hread⟩
            obtain ⟨cells', k1, k2⟩ := fill_sound (fun x v hv => hR.ev hv) hps hset hob hrc
            obtain ⟨hvs, hvt⟩ := setAll_arr hset
            have hcl := k2.len
            rw [Array.length_toList, hvs] at hcl
            refine ⟨.slice (some ⟨w.heap.size, 0, none⟩) len len, { w with heap := w.heap.push (.cells cells' e) }, cells', e, 0, 0, cells'.toList, ?_, rfl, rfl, rfl, rfl, ⟨Nat.le_refl _, fun i _ => by omega⟩, fun c' hle => k2.mono hle, ⟨by rw [List.take_length], by simp⟩, fun c' hb hr hh => .one _ _ rfl (.tsl nb [] 0 0 d.sz len w.heap.size 0 len _ hb hr (Nat.le_refl _) (fun _ => rfl) cells' e (0, 0) hh (.inr (by omega)))⟩
            have hfill : Instr.fill (fun i => some (i * ei.sz, ei.sz)) ((Array.range (len * ei.sz)).map ((if len * ei.sz = 0 then #[] else Z.cells)[· % (if len * ei.sz = 0 then #[] else Z.cells).size]!)) (parts.map fun (i, x) => (i, a.eval x)).toList = some cells' := by
              rw [Array.toList_map, ← k1, hzs]
              congr 1
              by_cases h0 : len * ei.sz = 0
              · rw [if_pos h0, h0]; simp
              · rw [if_neg h0, hzs]
            unfold execOp
            simp only [ho, Instr.buildSlice, Sem.run_bind, run_underlying hu, Result.andThen_ok, (hT e ei hei).sizeOf]
            rw [if_neg (by have := hcond.1; omega)]
            by_cases h0 : len * ei.sz = 0
            · simp only [h0, if_true, pure_bind] at hfill ⊢
              simp only [hfill, newRow, Sem.run_bind, run_newObj, Result.andThen_ok, Sem.run_pure]
            · simp only [h0, if_false] at hfill ⊢
              simp only [Sem.run_bind, z1, Result.andThen_ok, Sem.run_pure, hfill, newRow, run_newObj]
          · cases h
        · cases h
      · rename_i hkd
        split at h
        · rename_i hz
          split at h
          · rename_i v obs hset
            split at h
            · rename_i hcond
              have := HP.run_ret h
              subst this
              refine OpOK.new (hnb0 Nat.one_pos) fun E ρ a w hG hR => ?_
              rw [← hG] at hps
              obtain ⟨Z, z1, z2, z3⟩ := (hT e ei hei).zeroValue
              have hZ : Z = .slice none 0 0 := by
                have := z2 (ctx E ρ S.blk w)
                rw [hz] at this
                cases this with
                | one _ _ _ hc => cases hc; rfl
                | agg _ _ h0 _ => cases h0
              subst hZ
              have hrc : RC (ctx E ρ S.blk w) (.agg (List.replicate len .nilsl)) ((Array.range len).map (fun i => (.slice none 0 0 : Value))).toList := by
                refine .agg _ _ ?_
                rw [Array.toList_map, Array.toList_range, List.map_const', List.length_range]
                exact nils_RC _ len
              obtain ⟨cells', k1, k2⟩ := fill_sound (fun x v hv => hR.ev hv) hps hset hob hrc
              have hcl := k2.len
              rw [Array.length_toList, hcond.2.2] at hcl
              refine ⟨.slice (some ⟨w.heap.size, 0, none⟩) len len, { w with heap := w.heap.push (.cells cells' e) }, cells', e, 0, 0, cells'.toList, ?_, rfl, rfl, rfl, rfl, ⟨Nat.le_refl _, fun i _ => by omega⟩, fun c' hle => k2.mono hle, ⟨by rw [List.take_length], by simp⟩, fun c' hb hr hh => .one _ _ rfl (.tsl nb [] 0 0 1 len w.heap.size 0 len _ hb hr (Nat.le_refl _) (fun _ => rfl) cells' e (0, 0) hh (.inr (by omega)))⟩
              have hfill : Instr.fill (fun i => some (i * ei.sz, ei.sz)) ((Array.range (len * ei.sz)).map ((if len * ei.sz = 0 then #[] else (Value.slice none 0 0).cells)[· % (if len * ei.sz = 0 then #[] else (Value.slice none 0 0).cells).size]!)) (parts.map fun (i, x) => (i, a.eval x)).toList = some cells' := by
                rw [Array.toList_map, ← k1]
                congr 1
                rw [hcond.2.1, Nat.mul_one]
                by_cases h0 : len = 0
                · rw [if_pos h0, h0]; simp
                · rw [if_neg h0]
                  refine Array.map_congr_left fun i _ => ?_
                  show (#[Value.slice none 0 0] : Array Value)[i % 1]! = _
                  rw [Nat.mod_one]; rfl
              unfold execOp
              simp only [ho, Instr.buildSlice, Sem.run_bind, run_underlying hu, Result.andThen_ok, (hT e ei hei).sizeOf]
              rw [if_neg (by have := hcond.1; omega)]
              by_cases h0 : len * ei.sz = 0
              · simp only [h0, if_true, pure_bind] at hfill ⊢
                simp only [hfill, newRow, Sem.run_bind, run_newObj, Result.andThen_ok, Sem.run_pure]
              · simp only [h0, if_false] at hfill ⊢
                simp only [Sem.run_bind, z1, Result.andThen_ok, Sem.run_pure, hfill, newRow, run_newObj]
            · cases h
          · cases h
        · cases h
    · cases h
  · cases h
def pMakeSlice (C : Cfg) (t : TypeId) (x y : Option AV) (nb : Nat) : HP Res :=
  match C.slc t, x, y with
  | some e, some (.int k n), some (.int k' n') => match C.ty e with
    | some ei => match ei.kd with
      | some d => if d.sz = ei.sz then .ret { v := some (.tsl nb [] 0 0 d.sz (toI k n).toNat), wr := [(nb, .live (.pure (.arr (toI k n).toNat d) (List.replicate (toI k n).toNat d.dflt)))], obs := [toI k' n' = toI k n, 0 ≤ toI k n, (ei.bytes : Int) * toI k n ≤ 281474976710656, toI k n ≤ 9223372036854775807], new := 1 } else .fail
      | none => .fail
    | none => .fail
  | _, _, _ => .fail
theorem sound_makeSlice (hT : TysOK P C.ty) {t : TypeId} {x y : Operand} {nb : Nat} (hnb0 : 0 < r.new → S.blk nb = .unborn) (ho : o.op = .makeSlice t x y) (h : (pMakeSlice C t (S.ev C.G x) (S.ev C.G y) nb).run S.blk = some (r, l)) (hob : ∀ q ∈ r.obs, q) : OpOK P C.G C.pin o S r := by
  unfold pMakeSlice at h
  split at h
  · rename_i e k n k' n' hce hx hy
    have hu := Cfg.slc_ok hT hce
    split at h
    · rename_i ei hei
      split at h
      · rename_i d hd
        split at h
        · rename_i hcond
          have := HP.run_ret h
          subst this
          simp only [List.mem_cons, forall_eq_or_imp, List.not_mem_nil, false_implies, implies_true, and_true] at hob
          obtain ⟨hb1, hb2, hb3, hb4⟩ := hob
          refine OpOK.new (hnb0 Nat.one_pos) fun E ρ a w hG hR => ?_
          rw [← hG] at hx hy
          obtain ⟨j, Z, j1, j2, j3, j4, j5, j6⟩ := (hT e ei hei).info
          have hz0 := (j6 d hd (ctx E ρ S.blk w)).ofKd_reads
          have hzs : Z.cells.size = ei.sz := by
            have := hz0.len
            rw [Array.length_toList] at this
            rw [this, hcond]
          have hread := made_reads hz0 (toI k n).toNat
          have hx' := (hR.ev hx).int_inv
          have hy' := (hR.ev hy).int_inv
          have hrc : RC (ctx E ρ S.blk w) (.pure (.arr (toI k n).toNat d) (List.replicate (toI k n).toNat d.dflt)) ((Array.range ((toI k n).toNat * Z.cells.size)).map (Z.cells[· % Z.cells.size]!)).toList := .pure _ _ _ ⟨by simp, hread⟩
          have hrun := run_make (P := P) w t e j Z hu j1 j4 k k' (toI k n) (toI k n) hb2 (Int.le_refl _) (by rw [j3]; exact hb3) hb4
          have hcells : madeCells Z.cells ((toI k n).toNat * j.size) = (Array.range ((toI k n).toNat * Z.cells.size)).map (Z.cells[· % Z.cells.size]!) := by rw [madeCells, j2, hzs]
          rw [hcells] at hrun
          refine ⟨.slice (some ⟨w.heap.size, 0, none⟩) (toI k n).toNat (toI k n).toNat, { w with heap := w.heap.push (.cells ((Array.range ((toI k n).toNat * Z.cells.size)).map (Z.cells[· % Z.cells.size]!)) e) }, _, e, 0, 0, _, ?_, rfl, rfl, rfl, rfl, ⟨Nat.le_refl _, fun i _ => by omega⟩, fun c' hle => hrc.mono hle, ⟨by rw [List.take_length], by simp⟩, fun c' hb hr hh => .one _ _ rfl (.tsl nb [] 0 0 d.sz _ w.heap.size 0 _ _ hb hr (Nat.le_refl _) (fun _ => rfl) _ e (0, 0) hh (.inr (by simp [hzs, hcond])))⟩
          unfold execOp
          simp only [ho, hx', hy', hb1]
          rw [Sem.run_bind, hrun]; rfl
        · cases h
      · cases h
    · cases h
  · cases h
end
end Go.Vc

namespace Go.Vc
section
variable {P : Program} {C : Cfg} {S : AS} {o : Oper} {r : Res} {l : List Nat}
def srcSl (C : Cfg) (d : Kd) (t : TypeId) : Option AV → HP SL
  | some (.str s) => if C.isStr t = true then .ret ⟨.int .u8, s, []⟩ else .fail
  | some x => match C.slc t with | some _ => rdSl d x | none => .fail
  | none => .fail
structure SrcOK (P : Program) (c : Ctx) (t : TypeId) (X : Value) (d : Kd) (ys : List d.T) : Prop where
  notInt : ∃ u, P.underlying t = some u ∧ (∀ k, u ≠ .int k)
  len : ∀ w, (Builtin.lenOf X).run P w = .ok ys.length w
  cells : ∃ flat, RL (Reads c.ok c.hp d) ys flat ∧ ∀ (w : World) (n : Nat), c.hp = (fun b => w.heap[b]?) → n ≤ ys.length → (Builtin.firstCells d.sz n X).run P w = .ok (flat.take (n * d.sz)).toArray w
theorem castK_arr {d d' : Kd} {x : List d'.T} {y : List d.T} (h : castK (.arr 0 d) (.arr 0 d') x = some y) : ∃ e : d' = d, y = e ▸ x := by
  obtain ⟨e, hy⟩ := castK_some h
  injection e with _ e
  subst e
  exact ⟨rfl, hy⟩
theorem bytes_flat (s : List UInt8) {ok hp} : RL (Reads ok hp (.int .u8)) s (s.map fun b => .int .u8 (b.toNat : Int)) := by
  induction s with
  | nil => rfl
  | cons b s ih => exact ⟨_, _, rfl, rfl, ih⟩
theorem srcSl_sound (hT : TysOK P C.ty) {E : Env} {ρ : Nat → Option (Nat × Nat)} {a : Act} {w : World} (hR : Rel E ρ S a w) {d0 d : Kd} {t : TypeId} {x : Operand} {sl : SL} {l : List Nat} (h : (srcSl C d0 t (S.ev E.glob x)).run S.blk = some (sl, l)) (ho : ∀ q ∈ sl.obs, q)
    {ys : List d.T} (hc : castK (.arr 0 d) (.arr 0 sl.d) sl.xs = some ys) : SrcOK P (ctx E ρ S.blk w) t (a.eval x) d ys := by
  obtain ⟨e, hy⟩ := castK_arr hc
  subst e
  have hy' : ys = sl.xs := hy
  clear hy
  subst hy'
  unfold srcSl at h
  split at h
  · rename_i s hx
    split at h
    · rename_i hst
      have hu := Cfg.isStr_ok hT hst
      have := HP.run_ret h
      subst this
      have heq := (hR.ev hx).str_inv
      refine ⟨⟨_, hu, fun k e => by cases e⟩, fun w => by rw [heq]; rfl, _, bytes_flat s, fun w n hw hn => ?_⟩
      rw [heq]
      simp only [Builtin.firstCells, Sem.run_pure, Kd.sz, Nat.mul_one]
      congr 1
      apply Array.ext'
      simp only [Array.toList_map]
      rw [Lib.extract_data]
      rw [← List.map_take]
      simp
    · cases h
  · rename_i x' hns hx
    split at h
    · rename_i e he
      have hu := Cfg.slc_ok hT he
      have hsr := rdSl_sound hR (hR.ev hx) h ho
      obtain ⟨A, cap, h1, h2, h3⟩ := hsr
      refine ⟨⟨_, hu, fun k e => by cases e⟩, fun w => by rw [h1]; rfl, ?_⟩
      rcases h3 with h3 | ⟨g, o, rc, el, fr, flat, f1, f2, f3, f4⟩
      · refine ⟨[], by rw [h3]; rfl, fun w n hw hn => ?_⟩
        have hl : sl.xs.length = 0 := by rw [h3]; rfl
        have hn0 : n = 0 := by omega
        subst hn0
        rw [h1]
        cases A with
        | none => simp [Builtin.firstCells]
        | some ad => simp [Builtin.firstCells, loadCells, loadCellsFrom]
      · refine ⟨flat, f3, fun w n hw hn => ?_⟩
        have hcl := RL.len (R := Reads _ _ sl.d) (fun _ _ hh => Reads.len hh) f3
        rw [h1, f1]
        simp only [Builtin.firstCells]
        have hle : 0 + n * sl.d.sz ≤ flat.length := by rw [hcl, Nat.zero_add]; exact Nat.mul_le_mul_right _ hn
        have hcl2 : (flat.take (n * sl.d.sz)).length = n * sl.d.sz := by rw [List.length_take]; omega
        rw [hw] at f2
        have := run_cells (P := P) (lo := fr.1) (hi := fr.2) f2 (cs := flat.take (n * sl.d.sz)) (o := o) (by
          rw [hcl2]
          conv => rhs; rw [← f4]
          rw [List.take_take]
          congr 1
          omega)
        rw [hcl2] at this
        exact this
    · cases h
  · cases h
def Cfg.isInt (C : Cfg) (t : TypeId) : Bool := match C.ty t with | some i => (match i.td with | .int _ => true | _ => false) | none => false
theorem Cfg.isInt_ok (hT : TysOK P C.ty) {t : TypeId} (h : C.isInt t = true) : ∃ k, P.underlying t = some (.int k) := by
  unfold Cfg.isInt at h
  split at h
  · rename_i i hi
    have h1 := (hT t i hi).td
    split at h
    · rename_i k hk
      rw [hk] at h1
      exact ⟨k, h1⟩
    · cases h
  · cases h
def srcAp (C : Cfg) (d : Kd) (t : TypeId) : Option AV → HP SL
  | some (.int .i64 n) => if C.isInt t = true then .ret ⟨d, List.replicate (Int.toNat n) d.dflt, [0 ≤ toI .i64 n, toI .i64 n ≤ 9223372036854775807]⟩ else .fail
  | x => srcSl C d t x
structure SrcZ (P : Program) (t : TypeId) (X : Value) (d : Kd) (ys : List d.T) : Prop where
  int : ∃ k, P.underlying t = some (.int k)
  val : X = .int .i64 (ys.length : Int)
  small : ys.length ≤ 9223372036854775807
  ys : ys = List.replicate ys.length d.dflt
def Src (P : Program) (c : Ctx) (t : TypeId) (X : Value) (d : Kd) (ys : List d.T) : Prop := SrcOK P c t X d ys ∨ SrcZ P t X d ys
theorem srcAp_sound (hT : TysOK P C.ty) {E : Env} {ρ : Nat → Option (Nat × Nat)} {a : Act} {w : World} (hR : Rel E ρ S a w) {d : Kd} {t : TypeId} {x : Operand} {sl : SL} {l : List Nat} (h : (srcAp C d t (S.ev E.glob x)).run S.blk = some (sl, l)) (ho : ∀ q ∈ sl.obs, q)
    {ys : List d.T} (hc : castK (.arr 0 d) (.arr 0 sl.d) sl.xs = some ys) : Src P (ctx E ρ S.blk w) t (a.eval x) d ys := by
  unfold srcAp at h
  split at h
  · rename_i n hx
    split at h
    · rename_i hi
      have := HP.run_ret h
      subst this
      obtain ⟨_, hy⟩ := castK_arr hc
      have hy' : ys = List.replicate (Int.toNat n) d.dflt := hy
      simp only [List.mem_cons, List.not_mem_nil, or_false, forall_eq_or_imp, forall_eq] at ho
      have heq := (hR.ev hx).int_inv
      have hl : ys.length = Int.toNat n := by rw [hy', List.length_replicate]
      have h0 : (0 : Int) ≤ n := ho.1
      have h1 : (n : Int) ≤ 9223372036854775807 := ho.2
      have h2 : ((Int.toNat n : Nat) : Int) = n := Int.toNat_of_nonneg h0
      refine .inr ⟨Cfg.isInt_ok hT hi, ?_, ?_, ?_⟩
      · rw [heq, hl, h2]; rfl
      · rw [hl]; exact Int.toNat_le.2 h1
      · rw [hl]; exact hy'
    · cases h
  · exact .inl (srcSl_sound hT hR h ho hc)
theorem zeroCells_list (Z : Array Value) : ∀ n, (Builtin.zeroCells Z n).toList = (List.replicate n Z.toList).flatten := by
  intro n
  have h0 : ∀ m, (Builtin.zeroCells Z m).toList = (List.range (m * Z.size)).map fun i => Z[i % Z.size]! := fun m => by simp [Builtin.zeroCells]
  rw [h0]
  induction n with
  | zero => simp
  | succ n ih =>
    rw [List.replicate_succ, List.flatten_cons, ← ih, Nat.succ_mul, Nat.add_comm, List.range_add, List.map_append, List.map_map]
    congr 1
    · apply List.ext_getElem
      · simp
      · intro i h1 h2
        simp only [List.length_map, List.length_range] at h1
        simp only [List.getElem_map, List.getElem_range, Nat.mod_eq_of_lt h1, Array.getElem_toList]
        rw [getElem!_pos Z i h1]
    · refine List.map_congr_left fun i _ => ?_
      simp
def pAppend (C : Cfg) (t t' : TypeId) (s x : Option AV) (nb : Nat) : HP Res :=
  match C.slc t with
  | some e => match C.ty e with
    | some ei => match ei.kd with
      | some d => (srcAp C d t' x).bind fun sl => match castK (.arr 0 d) (.arr 0 sl.d) sl.xs with
        | some ys => match s with
          | some .nilsl => if d.sz = ei.sz ∧ ei.bytes ≠ 0 then .ret { v := some (.tsl nb [] 0 0 d.sz (List.length (α := d.T) ys)), wr := [(nb, .live (.pure (.arr (List.length (α := d.T) ys) d) ys))], obs := (List.length (α := d.T) ys * ei.bytes ≤ 140737488355328) :: sl.obs, new := 1 } else .fail
          | some (.tsl id [] i off sz len) => .get id fun b => match b with
            | .pure (.arr N d') xs => match castK (.arr 0 d) (.arr 0 d') xs with
              | some xs => if d.sz = ei.sz ∧ ei.bytes ≠ 0 ∧ sz = d.sz ∧ C.pin.contains id = false then
                  .ret { v := some (.tsl id [] 0 0 d.sz (len + List.length (α := d.T) ys)), wr := [(id, .live (.pure (.arr (len + List.length (α := d.T) ys) d) ((List.drop (α := d.T) i xs).take len ++ ys)))], kill := [id],
                         obs := (off = i * d.sz) :: (i + len ≤ N) :: ((len + List.length (α := d.T) ys) * ei.bytes ≤ 140737488355328) :: sl.obs }
                else .fail
              | none => .fail
            | _ => .fail
          | _ => .fail
        | none => .fail
      | none => .fail
    | none => .fail
  | none => .fail
theorem run_grow {t t' e : TypeId} {ei : TyI} (hu : P.underlying t = some (.slice e)) (hei : TyOK P e ei) {c : Ctx} {w : World} (hw : c.hp = fun b => w.heap[b]?) {X : Value} {d : Kd} {ys : List d.T} (hX : SrcOK P c t' X d ys) (hkd : ei.kd = some d) (hd : d.sz = ei.sz) (hb0 : ei.bytes ≠ 0)
    {A : Option Addr} {len cap : Nat} {old : List Value} (hold : ∀ w' : World, w'.heap = w.heap → (Builtin.firstCells d.sz len (.slice A len cap)).run P w' = .ok old.toArray w') (hlt : cap < len + ys.length) (hb : (len + ys.length) * ei.bytes ≤ 140737488355328) (ty : TypeId) :
    ∃ flat rest cap' w', RL (Reads c.ok c.hp d) ys flat ∧ (Builtin.append_ #[t, t'] ty #[.slice A len cap, X]).run P w = .ok (.slice (some ⟨w.heap.size, 0, none⟩) (len + ys.length) cap') w' ∧ len + ys.length ≤ cap' ∧
      w'.heap = w.heap.push (.cells (old ++ flat ++ rest).toArray e) ∧ w'.os = w.os ∧ w'.tape = w.tape ∧ w'.output = w.output ∧ rest.length = (cap' - (len + ys.length)) * d.sz := by
  obtain ⟨u, hu', hni⟩ := hX.notInt
  obtain ⟨flat, hf1, hf2⟩ := hX.cells
  obtain ⟨j, Z, j1, j2, j3, j4, j5, j6⟩ := hei.info
  have hfits := growslice_fits hlt hb
  have hbound : len + ys.length ≤ 140737488355328 := Nat.le_trans (Nat.le_mul_of_pos_right _ (by omega)) hb
  let w1 : World := { w with drawn := w.drawn + 1 }
  have hflat : flat.length = ys.length * d.sz := RL.len (R := Reads _ _ d) (fun _ _ hh => Reads.len hh) hf1
  have hnew := hf2 w1 ys.length hw (Nat.le_refl _)
  rw [← hflat, List.take_length] at hnew
  have hmatch : (match u with | .int _ => true | _ => false) = false := by
    cases u <;> first | rfl | exact absurd rfl (hni _)
  have hZ : Z.cells.size = d.sz := by
    have := (j6 d hkd c).len
    rw [Array.length_toList, AV.size_ofKd] at this
    exact this
  refine ⟨flat, (Builtin.zeroCells Z.cells ((Question.appendCap (len + ys.length) cap e).cut (w.tape w.drawn (.appendCap (len + ys.length) cap e)) - (len + ys.length))).toList, (Question.appendCap (len + ys.length) cap e).cut (w.tape w.drawn (.appendCap (len + ys.length) cap e)), { w1 with heap := w.heap.push (.cells (old ++ flat ++ (Builtin.zeroCells Z.cells ((Question.appendCap (len + ys.length) cap e).cut (w.tape w.drawn (.appendCap (len + ys.length) cap e)) - (len + ys.length))).toList).toArray e) }, hf1, ?_, ?_, rfl, rfl, rfl, rfl, ?_⟩
  · unfold Builtin.append_
    simp only [List.getElem?_toArray, List.getElem?_cons_zero, List.getElem?_cons_succ, Sem.run_bind, run_underlying hu, Result.andThen_ok, hei.sizeOf, run_underlying hu', Sem.run_pure]
    simp only [Bool.false_eq_true, if_false, hX.len, Result.andThen_ok, Sem.run_bind]
    have n1 : ¬ (len + ys.length ≤ cap) := by omega
    have n2 : ¬ (((len + ys.length : Nat) : Int) > IntKind.i64.max ∧ (False ∨ ei.bytes = 0)) := by rintro ⟨_, h | h⟩ <;> first | exact h | exact hb0 h
    have n3 : ¬ (Builtin.nextslicecap (len + ys.length) cap * ei.bytes > 2 ^ 48) := by omega
    simp only [n1, if_false, typeInfo, Sem.run_bind, run_program, Result.andThen_ok, j1, Sem.run_pure, j3, n2, n3, run_choose, Question.forced, Bool.false_eq_true, run_askRoom, Bool.not_false, if_true]
    rw [← hd, hold w1 rfl]
    simp only [Result.andThen_ok, hnew, Go.zeroValue, typeInfo, Sem.run_bind, run_program, j1, Sem.run_pure, j4, newRow, run_newObj]
    simp [w1]
    congr 2
    apply Array.ext'
    simp
  · simp only [Question.cut]; omega
  · simp [Builtin.zeroCells, hZ]
theorem run_growZ {t t' e : TypeId} {ei : TyI} (hu : P.underlying t = some (.slice e)) (hei : TyOK P e ei) {c : Ctx} {w : World} (hw : c.hp = fun b => w.heap[b]?) {X : Value} {d : Kd} {ys : List d.T} (hX : SrcZ P t' X d ys) (hkd : ei.kd = some d) (hd : d.sz = ei.sz) (hb0 : ei.bytes ≠ 0)
    {A : Option Addr} {len cap : Nat} {old : List Value} (hold : ∀ w' : World, w'.heap = w.heap → (Builtin.firstCells d.sz len (.slice A len cap)).run P w' = .ok old.toArray w') (hlt : cap < len + ys.length) (hb : (len + ys.length) * ei.bytes ≤ 140737488355328) (ty : TypeId) :
    ∃ flat rest cap' w', RL (Reads c.ok c.hp d) ys flat ∧ (Builtin.append_ #[t, t'] ty #[.slice A len cap, X]).run P w = .ok (.slice (some ⟨w.heap.size, 0, none⟩) (len + ys.length) cap') w' ∧ len + ys.length ≤ cap' ∧
      w'.heap = w.heap.push (.cells (old ++ flat ++ rest).toArray e) ∧ w'.os = w.os ∧ w'.tape = w.tape ∧ w'.output = w.output ∧ rest.length = (cap' - (len + ys.length)) * d.sz := by
  obtain ⟨k, hk⟩ := hX.int
  obtain ⟨j, Z, j1, j2, j3, j4, j5, j6⟩ := hei.info
  have hys := hX.ys
  have hval := hX.val
  have hsm := hX.small
  generalize hn : ys.length = n at *
  have hfits := growslice_fits hlt hb
  have hbound : len + n ≤ 140737488355328 := Nat.le_trans (Nat.le_mul_of_pos_right _ (by omega)) hb
  have hnb : n * ei.bytes ≤ 140737488355328 := Nat.le_trans (Nat.mul_le_mul_right _ (by omega)) hb
  let w1 : World := { w with drawn := w.drawn + 1 }
  have hZc : RC c (.ofKd d d.dflt) Z.cells.toList := j6 d hkd c
  have hZ : Z.cells.size = d.sz := by
    have := hZc.len
    rw [Array.length_toList, AV.size_ofKd] at this
    exact this
  have hRL : RL (Reads c.ok c.hp d) ys (Builtin.zeroCells Z.cells n).toList := by
    rw [zeroCells_list, hys]
    exact RL.replicate (RC.ofKd_reads hZc) n
  have hwrap : IntKind.i64.wrap (n : Int) = (n : Int) := by rw [IntKind.wrap_i64]; omega
  refine ⟨(Builtin.zeroCells Z.cells n).toList, (Builtin.zeroCells Z.cells ((Question.appendCap (len + n) cap e).cut (w.tape w.drawn (.appendCap (len + n) cap e)) - (len + n))).toList, (Question.appendCap (len + n) cap e).cut (w.tape w.drawn (.appendCap (len + n) cap e)), { w1 with heap := w.heap.push (.cells (old ++ (Builtin.zeroCells Z.cells n).toList ++ (Builtin.zeroCells Z.cells ((Question.appendCap (len + n) cap e).cut (w.tape w.drawn (.appendCap (len + n) cap e)) - (len + n))).toList).toArray e) }, hRL, ?_, ?_, ?_, rfl, rfl, rfl, ?_⟩
  · unfold Builtin.append_
    subst hval
    have n0 : ¬ ((n : Int) < 0) := by omega
    have n0b : ¬ ((n : Int) * (ei.bytes : Int) > 2 ^ 48) := by
      have := Int.ofNat_le.2 hnb
      rw [Int.natCast_mul] at this
      have e48 : (2 : Int) ^ 48 = 281474976710656 := by decide
      rw [e48]
      omega
    have n1 : ¬ (len + n ≤ cap) := by omega
    have n2 : ¬ (((len + n : Nat) : Int) > IntKind.i64.max ∧ (True ∨ ei.bytes = 0)) := by rintro ⟨h, _⟩; have : IntKind.i64.max = 9223372036854775807 := rfl; omega
    have n3 : ¬ (Builtin.nextslicecap (len + n) cap * ei.bytes > 2 ^ 48) := by omega
    simp only [List.getElem?_toArray, List.getElem?_cons_zero, List.getElem?_cons_succ, Sem.run_bind, run_underlying hu, Result.andThen_ok, hei.sizeOf, run_underlying hk, Sem.run_pure]
    simp only [if_true, asInt, asIntOf, Sem.run_bind, Sem.run_pure, Result.andThen_ok, hwrap, n0, if_false, typeInfo, run_program, j1, j3, n0b, Int.toNat_natCast, n1, n2, n3, run_choose, Question.forced, Bool.false_eq_true, run_askRoom, Bool.not_true]
    rw [← hd, hold w1 rfl]
    have happ : ∀ w1 : World, (if n * d.sz = 0 then pure #[] else do pure (Builtin.zeroCells (← zeroValue e).cells n) : Sem (Array Value)).run P w1 = .ok (Builtin.zeroCells Z.cells n) w1 := fun w1 => by
      split
      · rename_i h0
        have : Builtin.zeroCells Z.cells n = #[] := by
          apply Array.eq_empty_of_size_eq_zero
          simp [Builtin.zeroCells, hZ, h0]
        rw [this]; rfl
      · simp only [Go.zeroValue, typeInfo, Sem.run_bind, run_program, Result.andThen_ok, j1, Sem.run_pure, j4]
    simp only [Result.andThen_ok, happ]
    simp only [Result.andThen_ok, Go.zeroValue, typeInfo, Sem.run_bind, run_program, j1, Sem.run_pure, j4, newRow, run_newObj]
    simp [w1]
    congr 2
    apply Array.ext'
    simp
  · simp only [Question.cut]; omega
  · rfl
  · simp [Builtin.zeroCells, hZ]
theorem run_growS {t t' e : TypeId} {ei : TyI} (hu : P.underlying t = some (.slice e)) (hei : TyOK P e ei) {c : Ctx} {w : World} (hw : c.hp = fun b => w.heap[b]?) {X : Value} {d : Kd} {ys : List d.T} (hX : Src P c t' X d ys) (hkd : ei.kd = some d) (hd : d.sz = ei.sz) (hb0 : ei.bytes ≠ 0)
    {A : Option Addr} {len cap : Nat} {old : List Value} (hold : ∀ w' : World, w'.heap = w.heap → (Builtin.firstCells d.sz len (.slice A len cap)).run P w' = .ok old.toArray w') (hlt : cap < len + ys.length) (hb : (len + ys.length) * ei.bytes ≤ 140737488355328) (ty : TypeId) :
    ∃ flat rest cap' w', RL (Reads c.ok c.hp d) ys flat ∧ (Builtin.append_ #[t, t'] ty #[.slice A len cap, X]).run P w = .ok (.slice (some ⟨w.heap.size, 0, none⟩) (len + ys.length) cap') w' ∧ len + ys.length ≤ cap' ∧
      w'.heap = w.heap.push (.cells (old ++ flat ++ rest).toArray e) ∧ w'.os = w.os ∧ w'.tape = w.tape ∧ w'.output = w.output ∧ rest.length = (cap' - (len + ys.length)) * d.sz := by
  rcases hX with hX | hX
  · exact run_grow hu hei hw hX hkd hd hb0 hold hlt hb ty
  · exact run_growZ hu hei hw hX hkd hd hb0 hold hlt hb ty
theorem run_room {t t' e : TypeId} {ei : TyI} (hu : P.underlying t = some (.slice e)) (hei : TyOK P e ei) {c : Ctx} {w : World} (hw : c.hp = fun b => w.heap[b]?) {X : Value} {d : Kd} {ys : List d.T} (hX : SrcOK P c t' X d ys) (hd : d.sz = ei.sz)
    {A : Option Addr} {len cap : Nat} (hle : len + ys.length ≤ cap) (ty : TypeId) : ∃ flat, RL (Reads c.ok c.hp d) ys flat ∧
      ∀ w', (match A with | some a => (storeCells (a.add (len * d.sz)) flat).run P w | none => .ok () w) = .ok () w' → (Builtin.append_ #[t, t'] ty #[.slice A len cap, X]).run P w = .ok (.slice A (len + ys.length) cap) w' := by
  obtain ⟨u, hu', hni⟩ := hX.notInt
  obtain ⟨flat, hf1, hf2⟩ := hX.cells
  have hflat : flat.length = ys.length * d.sz := RL.len (R := Reads _ _ d) (fun _ _ hh => Reads.len hh) hf1
  have hnew := hf2 w ys.length hw (Nat.le_refl _)
  rw [← hflat, List.take_length] at hnew
  have hmatch : (match u with | .int _ => true | _ => false) = false := by
    cases u <;> first | rfl | exact absurd rfl (hni _)
  refine ⟨flat, hf1, fun w' hst => ?_⟩
  unfold Builtin.append_
  simp only [List.getElem?_toArray, List.getElem?_cons_zero, List.getElem?_cons_succ, Sem.run_bind, run_underlying hu, Result.andThen_ok, hei.sizeOf, run_underlying hu', Sem.run_pure]
  simp only [Bool.false_eq_true, if_false, hX.len, Result.andThen_ok, Sem.run_bind, hle, if_true, Bool.not_false]
  rw [← hd, hnew]
  simp only [Result.andThen_ok]
  cases A with
  | none =>
    simp only at hst
    injection hst with _ hst
    subst hst
    rfl
  | some a =>
    simp only at hst ⊢
    simp only [Sem.run_bind, hst, Result.andThen_ok, Sem.run_pure]
theorem run_roomZ {t t' e : TypeId} {ei : TyI} (hu : P.underlying t = some (.slice e)) (hei : TyOK P e ei) {c : Ctx} {w : World} (hw : c.hp = fun b => w.heap[b]?) {X : Value} {d : Kd} {ys : List d.T} (hX : SrcZ P t' X d ys) (hkd : ei.kd = some d) (hd : d.sz = ei.sz)
    {A : Option Addr} {len cap : Nat} (hle : len + ys.length ≤ cap) (hb : (len + ys.length) * ei.bytes ≤ 140737488355328) (ty : TypeId) : ∃ flat, RL (Reads c.ok c.hp d) ys flat ∧
      ∀ w', (match A with | some a => (storeCells (a.add (len * d.sz)) flat).run P w | none => .ok () w) = .ok () w' → (Builtin.append_ #[t, t'] ty #[.slice A len cap, X]).run P w = .ok (.slice A (len + ys.length) cap) w' := by
  obtain ⟨k, hk⟩ := hX.int
  obtain ⟨j, Z, j1, j2, j3, j4, j5, j6⟩ := hei.info
  have hys := hX.ys
  have hval := hX.val
  have hsm := hX.small
  generalize hn : ys.length = n at *
  have hnb : n * ei.bytes ≤ 140737488355328 := Nat.le_trans (Nat.mul_le_mul_right _ (by omega)) hb
  have hZc : RC c (.ofKd d d.dflt) Z.cells.toList := j6 d hkd c
  have hZ : Z.cells.size = d.sz := by
    have := hZc.len
    rw [Array.length_toList, AV.size_ofKd] at this
    exact this
  have hRL : RL (Reads c.ok c.hp d) ys (Builtin.zeroCells Z.cells n).toList := by
    rw [zeroCells_list, hys]
    exact RL.replicate (RC.ofKd_reads hZc) n
  have hwrap : IntKind.i64.wrap (n : Int) = (n : Int) := by rw [IntKind.wrap_i64]; omega
  refine ⟨_, hRL, fun w' hst => ?_⟩
  unfold Builtin.append_
  subst hval
  have n0 : ¬ ((n : Int) < 0) := by omega
  have n0b : ¬ ((n : Int) * (ei.bytes : Int) > 2 ^ 48) := by
    have := Int.ofNat_le.2 hnb
    rw [Int.natCast_mul] at this
    have e48 : (2 : Int) ^ 48 = 281474976710656 := by decide
    rw [e48]
    omega
  have happ : ∀ w1 : World, (if n * d.sz = 0 then pure #[] else do pure (Builtin.zeroCells (← zeroValue e).cells n) : Sem (Array Value)).run P w1 = .ok (Builtin.zeroCells Z.cells n) w1 := fun w1 => by
    split
    · rename_i h0
      have : Builtin.zeroCells Z.cells n = #[] := by
        apply Array.eq_empty_of_size_eq_zero
        simp [Builtin.zeroCells, hZ, h0]
      rw [this]; rfl
    · simp only [Go.zeroValue, typeInfo, Sem.run_bind, run_program, Result.andThen_ok, j1, Sem.run_pure, j4]
  simp only [List.getElem?_toArray, List.getElem?_cons_zero, List.getElem?_cons_succ, Sem.run_bind, run_underlying hu, Result.andThen_ok, hei.sizeOf, run_underlying hk, Sem.run_pure]
  simp only [if_true, asInt, asIntOf, Sem.run_bind, Sem.run_pure, Result.andThen_ok, hwrap, n0, if_false, typeInfo, run_program, j1, j3, n0b, Int.toNat_natCast, hle, Bool.not_true, Bool.false_eq_true]
  rw [← hd]
  simp only [happ, Result.andThen_ok]
  cases A with
  | none =>
    simp only at hst
    injection hst with _ hst
    subst hst
    rfl
  | some a =>
    simp only at hst ⊢
    simp only [Sem.run_bind, hst, Result.andThen_ok, Sem.run_pure]
theorem run_roomS {t t' e : TypeId} {ei : TyI} (hu : P.underlying t = some (.slice e)) (hei : TyOK P e ei) {c : Ctx} {w : World} (hw : c.hp = fun b => w.heap[b]?) {X : Value} {d : Kd} {ys : List d.T} (hX : Src P c t' X d ys) (hkd : ei.kd = some d) (hd : d.sz = ei.sz)
    {A : Option Addr} {len cap : Nat} (hle : len + ys.length ≤ cap) (hb : (len + ys.length) * ei.bytes ≤ 140737488355328) (ty : TypeId) : ∃ flat, RL (Reads c.ok c.hp d) ys flat ∧
      ∀ w', (match A with | some a => (storeCells (a.add (len * d.sz)) flat).run P w | none => .ok () w) = .ok () w' → (Builtin.append_ #[t, t'] ty #[.slice A len cap, X]).run P w = .ok (.slice A (len + ys.length) cap) w' := by
  rcases hX with hX | hX
  · exact run_room hu hei hw hX hd hle ty
  · exact run_roomZ hu hei hw hX hkd hd hle hb ty
theorem blk_map (S : AS) (f : Nat → Option Nat) (t : List (Option AV)) (j : Nat) : (⟨t, S.heap.map (Slot.tr f)⟩ : AS).blk j = (S.blk j).tr f := by
  simp only [AS.blk, List.getD_eq_getElem?_getD, List.getElem?_map]
  cases S.heap[j]? <;> rfl
theorem killF_one {id i j : Nat} (h : killF [id] i = some j) : j = i ∧ i ≠ id := by
  unfold killF at h
  split at h
  · cases h
  · rename_i hc
    injection h with h
    exact ⟨h.symm, fun e => hc (by simp [e])⟩
theorem castK_reads_arr {ok hp} {n n' : Nat} {d d' : Kd} {x : List d'.T} {y : List d.T} (h : castK (.arr 0 d) (.arr 0 d') x = some y) {cs : List Value} (hr : Reads ok hp (.arr n d') x cs) : Reads ok hp (.arr n d) y cs := by
  obtain ⟨e, hy⟩ := castK_arr h
  subst e
  have hy' : y = x := hy
  subst hy'
  exact hr
theorem sound_append (hT : TysOK P C.ty) {t t' : TypeId} {x y : Operand} {nb : Nat} (hnb0 : 0 < r.new → S.blk nb = .unborn) (ho : o.op = .call { callee := .builtin .append, args := #[x, y], argTypes := #[t, t'] })
    (h : (pAppend C t t' (S.ev C.G x) (S.ev C.G y) nb).run S.blk = some (r, l)) (hob : ∀ q ∈ r.obs, q) : OpOK P C.G C.pin o S r := by
  have hexec : ∀ (a : Act) (w w' : World) (V : Value), (Builtin.append_ #[t, t'] o.type #[a.eval x, a.eval y]).run P w = .ok V w' → (execOp a.eval o).run P w = .ok (.value V) w' := by
    intro a w w' V hrun
    obtain ⟨cs, hcs⟩ := exec_builtin2 (P := P) ho a w
    rw [hcs]
    simp only [builtin, Sem.run_bind, hrun, Result.andThen_ok, Sem.run_pure]
  unfold pAppend at h
  split at h
  case h_2 => cases h
  rename_i e he
  have hu := Cfg.slc_ok hT he
  split at h
  case h_2 => cases h
  rename_i ei hei
  have hE := hT e ei hei
  split at h
  case h_2 => cases h
  rename_i d hkd
  obtain ⟨sl, l1, l2, h1, h2, h3⟩ := HP.run_bind h
  split at h2
  case h_2 => cases h2
  rename_i ys hys
  split at h2
  · rename_i hx
    split at h2
    case isFalse => cases h2
    rename_i hcond
    have := HP.run_ret h2
    subst this
    have hnb := hnb0 Nat.one_pos
    simp only [List.mem_cons, forall_eq_or_imp] at hob
    obtain ⟨hb1, hb2⟩ := hob
    intro E ρ a w hG hpin hR next Q hn
    rw [← hG] at hx h1
    have hsrc := srcAp_sound hT hR h1 hb2 hys
    have hX := (hR.ev hx).nilsl_inv
    by_cases h0 : List.length (α := d.T) ys = 0
    · -- nothing comes to nothing: nil
      obtain ⟨flat, hf, hroom⟩ := run_roomS (P := P) hu hE rfl hsrc hkd hcond.1 (A := none) (len := 0) (cap := 0) (by omega) (by rw [Nat.zero_add]; exact hb1) o.type
      have hrun := hexec a w w (.slice none 0 0) (by rw [hX]; have := hroom w rfl; rw [h0] at this; exact this)
      unfold Oper.wp
      rw [hrun, Oper.upon_value]
      have hev := hR.evolve (S' := ⟨S.tmps, setAt S.heap nb (.live (.pure (.arr (List.length (α := d.T) ys) d) ys))⟩) (w' := w) (f := some) (id := nb) (b' := .pure (.arr (List.length (α := d.T) ys) d) ys) (r' := none)
        (fun i j e => ⟨by injection e with e; exact e.symm, .inr (.inl hnb)⟩) (fun _ _ _ _ => rfl) (fun k rc el fr hk => ⟨rc, el, fr, hk, Nat.le_refl _⟩) (fun g o e => by cases e)
        (fun c' _ _ => ⟨h0, h0⟩) (fun hp => by have := (hR.pn nb hp).1; exact absurd hnb this) (Nat.le_refl _) rfl rfl rfl (by rw [map_tr_some]) (fun j => by
          rw [blk_setAt]
          have : (fun j => (S.blk j).tr some) = S.blk := funext fun j => Slot.tr_some _
          rw [this])
      refine hn _ _ _ (hev.put o.dst (some _) _ (fun u hu' => ?_))
      injection hu' with hu'
      subst hu'
      exact .one _ _ rfl (.tslv nb [] 0 0 d.sz _ (by simp [ctx, blk_setAt, upd_same]) (upd_same _ _ _) h0)
    · obtain ⟨flat, rest, cap', w', hf, hrun, hcap, g1, g2, g3, g4, g5⟩ := run_growS (P := P) hu hE rfl hsrc hkd hcond.1 hcond.2 (A := none) (len := 0) (cap := 0) (old := []) (fun w' _ => rfl) (by omega) (by rw [Nat.zero_add]; exact hb1) o.type
      rw [Nat.zero_add] at hrun hcap g5
      have hfl : flat.length = List.length (α := d.T) ys * d.sz := RL.len (R := Reads _ _ d) (fun _ _ hh => Reads.len hh) hf
      have hok : OpOK P C.G C.pin o S { v := some (.tsl nb [] 0 0 d.sz (List.length (α := d.T) ys)), wr := [(nb, .live (.pure (.arr (List.length (α := d.T) ys) d) ys))], obs := (List.length (α := d.T) ys * ei.bytes ≤ 140737488355328) :: sl.obs, new := 1 } := by
        refine OpOK.new hnb fun E2 ρ2 a2 w2 hG2 hR2 => ?_
        have hx' := hx
        rw [hG, ← hG2] at hx'
        have h1' := h1
        rw [hG, ← hG2] at h1'
        have hsrc2 := srcAp_sound hT hR2 h1' hb2 hys
        have hX2 := (hR2.ev hx').nilsl_inv
        obtain ⟨flat, rest, cap', w', hf, hrun, hcap, g1, g2, g3, g4, g5⟩ := run_growS (P := P) hu hE rfl hsrc2 hkd hcond.1 hcond.2 (A := none) (len := 0) (cap := 0) (old := []) (fun w' _ => rfl) (by omega) (by rw [Nat.zero_add]; exact hb1) o.type
        rw [Nat.zero_add] at hrun hcap g5
        have hfl : flat.length = List.length (α := d.T) ys * d.sz := RL.len (R := Reads _ _ d) (fun _ _ hh => Reads.len hh) hf
        have hrc : RC (ctx E2 ρ2 S.blk w2) (.pure (.arr (List.length (α := d.T) ys) d) ys) flat := .pure _ _ _ ⟨rfl, hf⟩
        refine ⟨_, w', ([] ++ flat ++ rest).toArray, e, 0, 0, flat, hexec a2 w2 w' _ (by rw [hX2]; exact hrun), g1, g2, g3, g4, ⟨Nat.le_refl _, fun i _ => by omega⟩, fun c' hle => hrc.mono hle, ⟨by simp, by simp⟩, fun c' hb hr hh => .one _ _ rfl (.tsl nb [] 0 0 d.sz _ w2.heap.size 0 cap' _ hb hr hcap (fun _ => rfl) _ e (0, 0) hh (.inr ?_))⟩
        simp only [List.nil_append, List.size_toArray, List.length_append, g5, hfl, Nat.zero_add]
        rw [← Nat.add_mul]
        exact Nat.mul_le_mul_right _ (by omega)
      exact hok E ρ a w hG hpin hR next Q hn
  · rename_i id i off sz len hx
    obtain ⟨b, l', h4, h5, h6⟩ := HP.run_get h2
    split at h5
    case h_2 => cases h5
    rename_i N d' xs'
    split at h5
    case h_2 => cases h5
    rename_i xs hxs
    split at h5
    case isFalse => cases h5
    rename_i hcond
    obtain ⟨hd, hb0, hsz, hpn⟩ := hcond
    have := HP.run_ret h5
    subst this
    simp only [List.mem_cons, forall_eq_or_imp] at hob
    obtain ⟨hoff, hiN, hbytes, hso⟩ := hob
    intro E ρ a w hG hpin hR next Q hn
    rw [← hG] at hx h1
    have hsrc := srcAp_sound hT hR h1 hso hys
    have hnpin : E.pin id → False := fun hp => by
      have h9 := hpin id hp
      have : C.pin.contains id = true := by simpa using h9
      rw [hpn] at this; cases this
    have happ : ∀ v, S.app o.dst { v := v, wr := [(id, .live (.pure (.arr (len + List.length (α := d.T) ys) d) ((List.drop (α := d.T) i xs).take len ++ ys)))], kill := [id], obs := (off = i * d.sz) :: (i + len ≤ N) :: ((len + List.length (α := d.T) ys) * ei.bytes ≤ 140737488355328) :: sl.obs } =
        AS.put ⟨S.tmps.map (Option.map (AV.tr (killF [id]))), setAt (S.heap.map (Slot.tr (killF [id]))) id (.live (.pure (.arr (len + List.length (α := d.T) ys) d) ((List.drop (α := d.T) i xs).take len ++ ys)))⟩ o.dst v := fun v => rfl
    have hblk : ∀ j, (⟨S.tmps.map (Option.map (AV.tr (killF [id]))), setAt (S.heap.map (Slot.tr (killF [id]))) id (.live (.pure (.arr (len + List.length (α := d.T) ys) d) ((List.drop (α := d.T) i xs).take len ++ ys)))⟩ : AS).blk j =
        upd (fun j => (S.blk j).tr (killF [id])) id (.live (.pure (.arr (len + List.length (α := d.T) ys) d) ((List.drop (α := d.T) i xs).take len ++ ys))) j := by
      intro j
      simp only [AS.blk, setAt_getD, upd]
      split
      · rfl
      · have := blk_map S (killF [id]) S.tmps j
        simp only [AS.blk] at this
        exact this
    rcases (hR.ev hx).tsl_inv with ⟨hbn, hr, hl0, heq⟩ | ⟨g, o', cap, A, rc0, el0, fr0, hbn, hr, hl, hA, hh0, hs, heq⟩
    · -- a row that is nil so far
      have hrb := hR.hb id _ h4
      rw [show ρ id = none from hr] at hrb
      obtain ⟨hN0, hx0⟩ := hrb
      have hlen0 : List.length (α := d.T) xs = 0 := by
        obtain ⟨e1, e2⟩ := castK_arr hxs
        subst e1
        have e3 : xs = xs' := e2
        rw [e3]; exact hx0
      have hxs0 : xs = [] := List.eq_nil_of_length_eq_zero hlen0
      subst hl0
      by_cases h0 : List.length (α := d.T) ys = 0
      · have hys0 : ys = [] := List.eq_nil_of_length_eq_zero h0
        obtain ⟨flat, hf, hroom⟩ := run_roomS (P := P) hu hE rfl hsrc hkd hd (A := none) (len := 0) (cap := 0) (by omega) hbytes o.type
        have hrun := hexec a w w (.slice none 0 0) (by rw [heq]; have := hroom w rfl; rw [h0] at this; exact this)
        unfold Oper.wp
        rw [hrun, Oper.upon_value]
        have hev := hR.evolve (S' := ⟨S.tmps.map (Option.map (AV.tr (killF [id]))), setAt (S.heap.map (Slot.tr (killF [id]))) id (.live (.pure (.arr (0 + List.length (α := d.T) ys) d) ((List.drop (α := d.T) i xs).take 0 ++ ys)))⟩) (w' := w) (f := killF [id]) (id := id) (b' := .pure (.arr (0 + List.length (α := d.T) ys) d) ((List.drop (α := d.T) i xs).take 0 ++ ys)) (r' := none)
          (fun i j e => ⟨(killF_one e).1, .inl (killF_one e).2⟩) (fun _ _ _ _ => rfl) (fun k rc el fr hk => ⟨rc, el, fr, hk, Nat.le_refl _⟩) (fun g o e => by cases e)
          (fun c' _ _ => ⟨by omega, by simp [h0]⟩) (fun hp => (hnpin hp).elim) (Nat.le_refl _) rfl rfl rfl rfl hblk
        refine hn (upd ρ id (none)) _ _ ?_
        rw [happ]
        refine hev.put o.dst (some _) _ (fun u hu' => ?_)
        injection hu' with hu'
        subst hu'
        exact .one _ _ rfl (.tslv id [] 0 0 d.sz _ (by have := hblk id; rw [upd_same] at this; simp only [ctx]; rw [this]; simp) (upd_same _ _ _) (by omega))
      · obtain ⟨flat, rest, cap', w', hf, hrun, hcap, g1, g2, g3, g4, g5⟩ := run_growS (P := P) hu hE rfl hsrc hkd hd hb0 (A := none) (len := 0) (cap := 0) (old := []) (fun w' _ => rfl) (by omega) hbytes o.type
        have hfl : flat.length = List.length (α := d.T) ys * d.sz := RL.len (R := Reads _ _ d) (fun _ _ hh => Reads.len hh) hf
        have hrun' := hexec a w w' _ (by rw [heq]; exact hrun)
        unfold Oper.wp
        rw [hrun', Oper.upon_value]
        have hpush : ∀ k, k < w.heap.size → w'.heap[k]? = w.heap[k]? := fun k hk => by rw [g1, Array.getElem?_push, if_neg (by omega)]
        have hrc : RC (ctx E ρ S.blk w) (.pure (.arr (0 + List.length (α := d.T) ys) d) ((List.drop (α := d.T) i xs).take 0 ++ ys)) flat := .pure _ _ _ ⟨by simp, by simpa using hf⟩
        have hev := hR.evolve (S' := ⟨S.tmps.map (Option.map (AV.tr (killF [id]))), setAt (S.heap.map (Slot.tr (killF [id]))) id (.live (.pure (.arr (0 + List.length (α := d.T) ys) d) ((List.drop (α := d.T) i xs).take 0 ++ ys)))⟩) (w' := w') (f := killF [id]) (id := id) (b' := .pure (.arr (0 + List.length (α := d.T) ys) d) ((List.drop (α := d.T) i xs).take 0 ++ ys)) (r' := some (w.heap.size, 0))
          (fun i j e => ⟨(killF_one e).1, .inl (killF_one e).2⟩) (fun k x hx _ => hpush k (lt_of_getElem?_some hx)) (fun k rc el fr hk => ⟨rc, el, fr, (hpush k (lt_of_getElem?_some hk)).trans hk, Nat.le_refl _⟩) (fun g o e => by injection e with e; injection e with e _; right; omega)
          (fun c' hc' hle => .inl ⟨([] ++ flat ++ rest).toArray, e, 0, 0, flat, by rw [hc']; simp only [ctx, g1, Array.getElem?_push_size], ⟨Nat.le_refl _, fun i _ => by omega⟩, hrc.tr hle, by simp, by simp⟩)
          (fun hp => (hnpin hp).elim) (by rw [g1]; simp) g2 g3 g4 rfl hblk
        refine hn (upd ρ id (some (w.heap.size, 0))) _ _ ?_
        rw [happ]
        refine hev.put o.dst (some _) _ (fun u hu' => ?_)
        injection hu' with hu'
        subst hu'
        refine .one _ _ rfl (.tsl id [] 0 0 d.sz _ w.heap.size 0 cap' _ (by have := hblk id; rw [upd_same] at this; simp only [ctx]; rw [this]; simp) (upd_same _ _ _) hcap (fun _ => rfl) ([] ++ flat ++ rest).toArray e (0, 0) (by simp only [ctx, g1, Array.getElem?_push_size]) (.inr ?_))
        simp only [List.nil_append, List.size_toArray, List.length_append, g5, hfl, Nat.zero_add]
        rw [← Nat.add_mul]
        exact Nat.mul_le_mul_right _ (by omega)
    · -- a row that lies somewhere
      obtain ⟨rc, el, lo, hi, flat0, f1, f2, f3, f4, f5⟩ := hR.blockC h4 hr hh0
      have hrd0 : Reads (ctx E ρ S.blk w).ok (ctx E ρ S.blk w).hp (.arr N d) xs flat0 := by
        cases f3 with
        | pure _ _ _ h9 => exact castK_reads_arr (n' := N) hxs h9
      have hlenN : List.length (α := d.T) xs = N := hrd0.1
      have hcl := RL.len (R := Reads _ _ d) (fun _ _ hh => Reads.len hh) hrd0.2
      rw [hlenN] at hcl
      have hold1 := RL.take (R := Reads _ _ d) (fun _ _ hh => Reads.len hh) len (RL.drop (R := Reads _ _ d) (fun _ _ hh => Reads.len hh) i hrd0.2)
      have hle1 : i * d.sz + len * d.sz ≤ flat0.length := by rw [hcl, ← Nat.add_mul]; exact Nat.mul_le_mul_right _ hiN
      have hcl1 : ((flat0.drop (i * d.sz)).take (len * d.sz)).length = len * d.sz := by rw [List.length_take, List.length_drop]; omega
      have hoc : (rc.toList.drop (o' + off)).take (len * d.sz) = (flat0.drop (i * d.sz)).take (len * d.sz) := by
        rw [hoff]
        conv => rhs; rw [← f4]
        rw [sub_sub _ _ _ _ _ hle1]
      have hblt : (rc0, el0, fr0) = (rc, el, (lo, hi)) := by
        have : (ctx E ρ S.blk w).hp g = some (.cells rc el (lo, hi)) := f1
        rw [hh0] at this
        injection this with this
        injection this with t1 t2 t3
        rw [t1, t2, t3]
      by_cases hroomq : len + List.length (α := d.T) ys ≤ cap
      · -- there is room
        obtain ⟨flat, hf, hroom⟩ := run_roomS (P := P) hu hE rfl hsrc hkd hd (A := A) hroomq hbytes o.type
        have hfl : flat.length = List.length (α := d.T) ys * d.sz := RL.len (R := Reads _ _ d) (fun _ _ hh => Reads.len hh) hf
        have hone : ∀ u ∈ flat, u.oneCell' = true := RL.cells (R := Reads _ _ d) (fun _ _ hh u hu => Reads.one hh u hu) hf
        have hg := lt_of_getElem?_some f1
        have hfit : o' + off + len * d.sz + flat.length ≤ rc.size := by
          rcases hs with hs | hs
          · have h7 : len = 0 := by omega
            have h8 : List.length (α := d.T) ys = 0 := by omega
            rw [hfl, h7, h8]
            omega
          · injection hblt with hblt
            subst hblt
            have : (len + List.length (α := d.T) ys) * sz ≤ cap * sz := Nat.mul_le_mul_right _ hroomq
            rw [Nat.add_mul, hsz] at this
            rw [hsz] at hs
            rw [hfl]; omega
        -- what is stored
        obtain ⟨w', hst, hw'⟩ : ∃ w', (match A with | some a => (storeCells (a.add (len * d.sz)) flat).run P w | none => .ok () w) = .ok () w' ∧ w' = { w with heap := w.heap.setIfInBounds g (.cells (splice rc.toList (o' + off + len * d.sz) flat).toArray el (lo, hi)) } := by
          have hsplice0 : flat = [] → w = { w with heap := w.heap.setIfInBounds g (.cells (splice rc.toList (o' + off + len * d.sz) flat).toArray el (lo, hi)) } := by
            intro hnil
            subst hnil
            have : w.heap.setIfInBounds g (.cells (splice rc.toList (o' + off + len * d.sz) []).toArray el (lo, hi)) = w.heap := by
              apply Array.ext_getElem?
              intro k
              by_cases hk : g = k
              · subst hk; rw [Array.getElem?_setIfInBounds_self, if_pos hg, f1]; simp [splice]
              · rw [Array.getElem?_setIfInBounds_ne hk]
            rw [this]
          rcases Nat.eq_zero_or_pos cap with hc0 | hc0
          · have h8 : List.length (α := d.T) ys = 0 := by omega
            have hnil : flat = [] := List.eq_nil_of_length_eq_zero (by rw [hfl, h8]; omega)
            refine ⟨w, ?_, hsplice0 hnil⟩
            rw [hnil]
            cases A <;> simp [storeCells]
          · rw [hA hc0]
            simp only [add_none]
            refine ⟨_, run_storeCells (P := P) flat w rc (o' + off + len * d.sz) 0 f1 f2.2 hone (by omega), by simp only [Nat.add_zero]⟩
        have hrun := hexec a w w' _ (by rw [heq]; exact hroom w' hst)
        unfold Oper.wp
        rw [hrun, Oper.upon_value]
        have hsetg : w'.heap[g]? = some (.cells (splice rc.toList (o' + off + len * d.sz) flat).toArray el (lo, hi)) := by rw [hw']; simp only [Array.getElem?_setIfInBounds_self, if_pos hg]
        have hset : ∀ k, k ≠ g → w'.heap[k]? = w.heap[k]? := fun k hk => by rw [hw']; simp only [Array.getElem?_setIfInBounds_ne (Ne.symm hk)]
        have hsize : (splice rc.toList (o' + off + len * d.sz) flat).toArray.size = rc.size := by rw [List.size_toArray, splice_length _ _ _ (by rw [Array.length_toList]; exact hfit), Array.length_toList]
        have hrc : RC (ctx E ρ S.blk w) (.pure (.arr (len + List.length (α := d.T) ys) d) ((List.drop (α := d.T) i xs).take len ++ ys)) ((flat0.drop (i * d.sz)).take (len * d.sz) ++ flat) :=
          .pure _ _ _ ⟨by rw [List.length_append, List.length_take, List.length_drop]; omega, hold1.append hf⟩
        have hev := hR.evolve (S' := ⟨S.tmps.map (Option.map (AV.tr (killF [id]))), setAt (S.heap.map (Slot.tr (killF [id]))) id (.live (.pure (.arr (len + List.length (α := d.T) ys) d) ((List.drop (α := d.T) i xs).take len ++ ys)))⟩) (w' := w') (f := killF [id]) (id := id) (b' := .pure (.arr (len + List.length (α := d.T) ys) d) ((List.drop (α := d.T) i xs).take len ++ ys)) (r' := some (g, o' + off))
          (fun i j e => ⟨(killF_one e).1, .inl (killF_one e).2⟩) (fun k x hx hnt => hset k fun e => hnt ⟨_, o', h4, by rw [e]; exact hr⟩)
          (fun k rc1 el1 fr1 hk => by
            by_cases hkg : k = g
            · subst hkg
              rw [f1] at hk
              injection hk with hk
              injection hk with t1 t2 t3
              exact ⟨_, el, (lo, hi), hsetg, by rw [hsize, t1]; exact Nat.le_refl _⟩
            · exact ⟨rc1, el1, fr1, by rw [hset k hkg]; exact hk, Nat.le_refl _⟩)
          (fun g1 o1 e => by
            injection e with e
            injection e with e1 e2
            subst e1
            exact .inl ⟨_, o', h4, hr⟩)
          (fun c' hc' hle => by
            refine .inl ⟨_, el, lo, hi, (flat0.drop (i * d.sz)).take (len * d.sz) ++ flat, by rw [hc']; exact hsetg, ⟨f2.1, fun i hi => f2.2 i (by rw [hsize] at hi; exact hi)⟩, hrc.tr hle, ?_, by rw [hsize, List.length_append, hcl1]; omega⟩
            rw [List.length_append, hcl1]
            show ((splice rc.toList (o' + off + len * d.sz) flat).drop (o' + off)).take _ = _
            rw [window_splice rc.toList (o' + off) (len * d.sz + flat.length) (len * d.sz) flat (by rw [show rc.toList.length = rc.size from Array.length_toList]; omega) (by omega)]
            simp only [splice]
            have e1 : ((rc.toList.drop (o' + off)).take (len * d.sz + flat.length)).take (len * d.sz) = (flat0.drop (i * d.sz)).take (len * d.sz) := by
              rw [List.take_take, Nat.min_eq_left (by omega), hoc]
            have e2 : ((rc.toList.drop (o' + off)).take (len * d.sz + flat.length)).drop (len * d.sz + flat.length) = [] := by
              apply List.drop_of_length_le
              rw [List.length_take]; omega
            rw [e1, e2, List.append_nil])
          (fun hp => (hnpin hp).elim) (by rw [hw']; simp) (by rw [hw']) (by rw [hw']) (by rw [hw']) rfl hblk
        refine hn (upd ρ id (some (g, o' + off))) _ _ ?_
        rw [happ]
        refine hev.put o.dst (some _) _ (fun u hu' => ?_)
        injection hu' with hu'
        subst hu'
        refine .one _ _ rfl (.tsl id [] 0 0 d.sz _ g (o' + off) cap A (by have := hblk id; rw [upd_same] at this; simp only [ctx]; rw [this]; simp) (upd_same _ _ _) hroomq (fun hc => by rw [hA hc]; simp) _ el (lo, hi) hsetg ?_)
        rcases hs with hs | hs
        · left; exact hs
        · right
          injection hblt with hblt
          subst hblt
          rw [hsize]
          rw [hsz] at hs
          omega
      · -- it grows
        have hold : ∀ w' : World, w'.heap = w.heap → (Builtin.firstCells d.sz len (.slice A len cap)).run P w' = .ok ((flat0.drop (i * d.sz)).take (len * d.sz)).toArray w' := by
          intro w' hw'
          rcases Nat.eq_zero_or_pos cap with hc0 | hc0
          · have hl0 : len = 0 := by omega
            subst hl0
            cases A <;> simp [Builtin.firstCells, loadCells, loadCellsFrom]
          · rw [hA hc0]
            simp only [Builtin.firstCells]
            have := run_cells (P := P) (w := w') (g := g) (rc := rc) (el := el) (lo := lo) (hi := hi) (by rw [hw']; exact f1) (cs := (flat0.drop (i * d.sz)).take (len * d.sz)) (o := o' + off) (by rw [hcl1]; exact hoc)
            rw [hcl1] at this
            exact this
        obtain ⟨flat, rest, cap', w', hf, hrun, hcap, g1, g2, g3, g4, g5⟩ := run_growS (P := P) hu hE rfl hsrc hkd hd hb0 hold (by omega) hbytes o.type
        have hfl : flat.length = List.length (α := d.T) ys * d.sz := RL.len (R := Reads _ _ d) (fun _ _ hh => Reads.len hh) hf
        have hrun' := hexec a w w' _ (by rw [heq]; exact hrun)
        unfold Oper.wp
        rw [hrun', Oper.upon_value]
        have hpush : ∀ k, k < w.heap.size → w'.heap[k]? = w.heap[k]? := fun k hk => by rw [g1, Array.getElem?_push, if_neg (by omega)]
        have hrc : RC (ctx E ρ S.blk w) (.pure (.arr (len + List.length (α := d.T) ys) d) ((List.drop (α := d.T) i xs).take len ++ ys)) ((flat0.drop (i * d.sz)).take (len * d.sz) ++ flat) :=
          .pure _ _ _ ⟨by rw [List.length_append, List.length_take, List.length_drop]; omega, hold1.append hf⟩
        have hev := hR.evolve (S' := ⟨S.tmps.map (Option.map (AV.tr (killF [id]))), setAt (S.heap.map (Slot.tr (killF [id]))) id (.live (.pure (.arr (len + List.length (α := d.T) ys) d) ((List.drop (α := d.T) i xs).take len ++ ys)))⟩) (w' := w') (f := killF [id]) (id := id) (b' := .pure (.arr (len + List.length (α := d.T) ys) d) ((List.drop (α := d.T) i xs).take len ++ ys)) (r' := some (w.heap.size, 0))
          (fun i j e => ⟨(killF_one e).1, .inl (killF_one e).2⟩) (fun k x hx _ => hpush k (lt_of_getElem?_some hx)) (fun k rc el fr hk => ⟨rc, el, fr, (hpush k (lt_of_getElem?_some hk)).trans hk, Nat.le_refl _⟩) (fun g o e => by injection e with e; injection e with e _; right; omega)
          (fun c' hc' hle => .inl ⟨((flat0.drop (i * d.sz)).take (len * d.sz) ++ flat ++ rest).toArray, e, 0, 0, (flat0.drop (i * d.sz)).take (len * d.sz) ++ flat, by rw [hc']; simp only [ctx, g1, Array.getElem?_push_size], ⟨Nat.le_refl _, fun i _ => by omega⟩, hrc.tr hle, by rw [List.drop_zero, List.take_left], by simp⟩)
          (fun hp => (hnpin hp).elim) (by rw [g1]; simp) g2 g3 g4 rfl hblk
        refine hn (upd ρ id (some (w.heap.size, 0))) _ _ ?_
        rw [happ]
        refine hev.put o.dst (some _) _ (fun u hu' => ?_)
        injection hu' with hu'
        subst hu'
        refine .one _ _ rfl (.tsl id [] 0 0 d.sz _ w.heap.size 0 cap' _ (by have := hblk id; rw [upd_same] at this; simp only [ctx]; rw [this]; simp) (upd_same _ _ _) hcap (fun _ => rfl) ((flat0.drop (i * d.sz)).take (len * d.sz) ++ flat ++ rest).toArray e (0, 0) (by simp only [ctx, g1, Array.getElem?_push_size]) (.inr ?_))
        rw [List.size_toArray, List.length_append, List.length_append, g5, hfl, hcl1, ← Nat.add_mul, ← Nat.add_mul]
        rw [Nat.zero_add]
        exact Nat.mul_le_mul_right _ (by omega)
  · cases h2
end
end Go.Vc

namespace Go.Vc
def ovw {α : Type} (i : Nat) (ys xs : List α) : List α := xs.take i ++ ys ++ xs.drop (i + ys.length)
theorem ovw_length {α : Type} (i : Nat) (ys xs : List α) (h : i + ys.length ≤ xs.length) : (ovw i ys xs).length = xs.length := by
  simp only [ovw, List.length_append, List.length_take, List.length_drop]; omega
theorem RL.ovw {α : Type} {R : α → List Value → Prop} {k : Nat} (hk : ∀ x c, R x c → c.length = k) {xs ys : List α} {cs c : List Value} (hx : RL R xs cs) (hy : RL R ys c) (i : Nat) : RL R (Vc.ovw i ys xs) (splice cs (i * k) c) := by
  have hl := RL.len hk hy
  have h1 := RL.take hk i hx
  have h2 := RL.drop hk (i + ys.length) hx
  rw [Nat.add_mul, ← hl] at h2
  exact (h1.append hy).append h2
section
variable {P : Program} {C : Cfg} {S : AS} {o : Oper} {r : Res} {l : List Nat}
def pCopy (C : Cfg) (t t' : TypeId) (s x : Option AV) : HP Res :=
  match C.slc t, s with
  | some e, some (.tsl id p i off sz len) => match C.ty e with
    | some ei => match ei.kd with
      | some d => (srcSl C d t' x).bind fun sl => match castK (.arr 0 d) (.arr 0 sl.d) sl.xs with
        | some ys => .get id fun b => match b.at p with
          | some (.pure (.arr N d') xs) => match castK (.arr 0 d) (.arr 0 d') xs with
            | some xs => match b.set p (.pure (.arr N d) (ovw i (ys.take (min (List.length (α := d.T) ys) len)) xs)) with
              | some b' => if d.sz = ei.sz ∧ sz = d.sz then
                  .ret { v := some (.int .i64 ((min (List.length (α := d.T) ys) len : Nat) : Int)), wr := [(id, .live b')], obs := (off = b.off p + i * d.sz) :: (i + len ≤ N) :: (sl.obs ++ b.ob p) }
                else .fail
              | none => .fail
            | none => .fail
          | _ => .fail
        | none => .fail
      | none => .fail
    | none => .fail
  | _, _ => .fail
theorem sound_copy (hT : TysOK P C.ty) {t t' : TypeId} {x y : Operand} (ho : o.op = .call { callee := .builtin .copy, args := #[x, y], argTypes := #[t, t'] })
    (h : (pCopy C t t' (S.ev C.G x) (S.ev C.G y)).run S.blk = some (r, l)) (hob : ∀ q ∈ r.obs, q) : OpOK P C.G C.pin o S r := by
  unfold pCopy at h
  split at h
  case h_2 => cases h
  rename_i e id p i off sz len he hx
  have hu := Cfg.slc_ok hT he
  split at h
  case h_2 => cases h
  rename_i ei hei
  have hE := hT e ei hei
  split at h
  case h_2 => cases h
  rename_i d hkd
  obtain ⟨sl, l1, l2, h1, h2, h3⟩ := HP.run_bind h
  split at h2
  case h_2 => cases h2
  rename_i ys hys
  obtain ⟨b, l', h4, h5, h6⟩ := HP.run_get h2
  split at h5
  case h_2 => cases h5
  rename_i N d' xs' hat
  split at h5
  case h_2 => cases h5
  rename_i xs hxs
  split at h5
  case h_2 => cases h5
  rename_i b' hset
  split at h5
  case isFalse => cases h5
  rename_i hcond
  have := HP.run_ret h5
  subst this
  simp only [List.mem_cons, forall_eq_or_imp, List.mem_append] at hob
  obtain ⟨hoff, hiN, hso⟩ := hob
  intro E ρ a w hG hpin hR next Q hn
  rw [← hG] at hx h1
  have hsrc := srcSl_sound hT hR h1 (fun q hq => hso q (.inl hq)) hys
  obtain ⟨u, hu', hni⟩ := hsrc.notInt
  obtain ⟨flat, hf1, hf2⟩ := hsrc.cells
  have hflat : flat.length = List.length (α := d.T) ys * d.sz := RL.len (R := Reads _ _ d) (fun _ _ hh => Reads.len hh) hf1
  have hnle : min (List.length (α := d.T) ys) len ≤ List.length (α := d.T) ys := Nat.min_le_left _ _
  have hcells := hf2 w (min (List.length (α := d.T) ys) len) rfl hnle
  have hexec : ∀ (w' : World) (V : Value), (Builtin.copy_ #[t, t'] o.type #[a.eval x, a.eval y]).run P w = .ok V w' → (execOp a.eval o).run P w = .ok (.value V) w' := by
    intro w' V hrun
    obtain ⟨cs, hcs⟩ := exec_builtin2 (P := P) ho a w
    rw [hcs]
    simp only [builtin, Sem.run_bind, hrun, Result.andThen_ok, Sem.run_pure]
  have hmin : Nat.min (List.length (α := d.T) ys) len = min (List.length (α := d.T) ys) len := rfl
  have hwr : ∀ v, S.app o.dst { v := v, wr := [(id, .live b')], obs := (off = b.off p + i * d.sz) :: (i + len ≤ N) :: (sl.obs ++ b.ob p) } = AS.put ⟨S.tmps, setAt S.heap id (.live b')⟩ o.dst v := fun v => rfl
  rcases (hR.ev hx).tsl_inv with ⟨hbn, hr, hl0, heq⟩ | ⟨g, o', cap, A, rc0, el0, fr0, hbn, hr, hl, hA, hh0, hs, heq⟩
  · -- nothing is copied into a row that is nil
    subst hl0
    have hrb := hR.hb id _ h4
    rw [show ρ id = none from hr] at hrb
    have hz : min (List.length (α := d.T) ys) 0 = 0 := Nat.min_zero _
    rw [hz] at hcells hset
    have hrun := hexec w (.int .i64 0) (by
      rw [heq]
      unfold Builtin.copy_
      simp only [List.getElem?_toArray, List.getElem?_cons_zero, List.getElem?_cons_succ, Sem.run_bind, run_underlying hu, Result.andThen_ok, hE.sizeOf, hsrc.len, hmin, hz, ← hcond.1, hcells, Sem.run_pure, goInt]
      rfl)
    unfold Oper.wp
    rw [hrun, Oper.upon_value]
    have hemp : b'.emptyRow := by
      cases b <;> first | exact hrb.elim | skip
      rename_i dk xk
      cases dk <;> first | exact hrb.elim | skip
      rename_i nk dk
      obtain ⟨hn0, hx0⟩ := hrb
      cases p with
      | nil =>
        simp only [AV.at, Option.some.injEq] at hat
        injection hat with e1 e2
        injection e1 with e3 e4
        subst e3 e4
        have e5 : xk = xs' := eq_of_heq e2
        obtain ⟨e6, e7⟩ := castK_arr hxs
        subst e6
        have e8 : xs = xs' := e7
        simp only [AV.set] at hset
        split at hset
        · injection hset with hset
          subst hset
          have : List.length (α := dk.T) xs = 0 := by rw [e8, ← e5]; exact hx0
          exact ⟨hn0, by simp [ovw, this]⟩
        · cases hset
      | cons q p =>
        have : q < nk := hso _ (.inr (by simp [AV.ob, Kd.ob]))
        omega
    have he : upd ρ id none = ρ := funext fun j => by
      by_cases hj : j = id
      · subst hj; rw [upd_same]; exact hr.symm
      · rw [upd_ne _ _ hj]
    have hev := hR.evolve (S' := ⟨S.tmps, setAt S.heap id (.live b')⟩) (w' := w) (f := some) (id := id) (b' := b') (r' := none)
      (fun i j e => ⟨by injection e with e; exact e.symm, .inr (.inr hr)⟩) (fun _ _ _ _ => rfl) (fun k rc el fr hk => ⟨rc, el, fr, hk, Nat.le_refl _⟩) (fun g o e => by cases e)
      (fun c' _ _ => hemp) (fun hp => ⟨hbn, hr.symm⟩) (Nat.le_refl _) rfl rfl rfl (by rw [map_tr_some]) (fun j => by
        rw [blk_setAt]
        have : (fun j => (S.blk j).tr some) = S.blk := funext fun j => Slot.tr_some _
        rw [this])
    refine hn (upd ρ id none) _ _ ?_
    rw [hwr]
    refine hev.put o.dst (some _) _ (fun u hu' => ?_)
    injection hu' with hu'
    subst hu'
    rw [hz]
    exact RV.i64 _
  · obtain ⟨rc, el, lo, hi, flat0, f1, f2, f3, f4, f5⟩ := hR.blockC h4 hr hh0
    have hob' : ∀ q ∈ b.ob p, q := fun q hq => hso q (.inr hq)
    obtain ⟨k1, k2⟩ := AV.at_sound f3 hat hob'
    have hlk := k1.len
    -- the cells of the array
    obtain ⟨cs, hcs⟩ : ∃ cs, cs = (flat0.drop (b.off p)).take (AV.size (.pure (.arr N d') xs')) := ⟨_, rfl⟩
    rw [← hcs] at k1 hlk
    have hrd : Reads (ctx E ρ S.blk w).ok (ctx E ρ S.blk w).hp (.arr N d) xs cs := by
      cases k1 with
      | pure _ _ _ h9 => exact castK_reads_arr (n' := N) hxs h9
    have hlenN : List.length (α := d.T) xs = N := hrd.1
    have hcl := RL.len (R := Reads _ _ d) (fun _ _ hh => Reads.len hh) hrd.2
    rw [hlenN] at hcl
    generalize hnn : min (List.length (α := d.T) ys) len = n at *
    have hnlen : n ≤ len := by rw [← hnn]; exact Nat.min_le_right _ _
    obtain ⟨c, hc⟩ : ∃ c, c = flat.take (n * d.sz) := ⟨_, rfl⟩
    rw [← hc] at hcells
    have hcr : RL (Reads (ctx E ρ S.blk w).ok (ctx E ρ S.blk w).hp d) (List.take (α := d.T) n ys) c := by rw [hc]; exact RL.take (R := Reads _ _ d) (fun _ _ hh => Reads.len hh) n hf1
    have hc1 : c.length = n * d.sz := by
      rw [hc, List.length_take, hflat]
      exact Nat.min_eq_left (Nat.mul_le_mul_right _ hnle)
    have hone : ∀ u ∈ c, u.oneCell' = true := RL.cells (R := Reads _ _ d) (fun _ _ hh u hu => Reads.one hh u hu) hcr
    have hle1 : i * d.sz + c.length ≤ cs.length := by rw [hc1, hcl, ← Nat.add_mul]; exact Nat.mul_le_mul_right _ (by omega)
    have hyl : (List.take (α := d.T) n ys).length = n := by rw [List.length_take]; omega
    have hcu : RC (ctx E ρ S.blk w) (.pure (.arr N d) (ovw i (List.take (α := d.T) n ys) xs)) (splice cs (i * d.sz) c) :=
      .pure _ _ _ ⟨by rw [ovw_length _ _ _ (by rw [hyl]; omega)]; exact hlenN, RL.ovw (R := Reads _ _ d) (fun _ _ hh => Reads.len hh) hrd.2 hcr i⟩
    have hcsl : b.off p + cs.length ≤ flat0.length := by rw [hlk]; exact k2
    have hcsr : cs = (rc.toList.drop (o' + b.off p)).take cs.length := by
      conv => lhs; rw [hcs, ← hlk, ← f4]
      rw [sub_sub _ _ _ _ _ hcsl]
    have hspl : splice rc.toList (o' + b.off p) (splice cs (i * d.sz) c) = splice rc.toList (o' + off) c := by
      rw [hoff, ← Nat.add_assoc]
      conv => lhs; rw [hcsr]
      exact splice_sub _ _ _ _ _ (by rw [show rc.toList.length = rc.size from Array.length_toList]; omega) hle1
    have hg := lt_of_getElem?_some f1
    -- what is stored
    obtain ⟨w', hst, hw'⟩ : ∃ w', (match A with | some a => (storeCells a c).run P w | none => .ok () w) = .ok () w' ∧ w' = { w with heap := w.heap.setIfInBounds g (.cells (splice rc.toList (o' + b.off p) (splice cs (i * d.sz) c)).toArray el (lo, hi)) } := by
      rw [hspl]
      rcases Nat.eq_zero_or_pos cap with hc0 | hc0
      · have hn0 : n = 0 := by omega
        have hnil : c = [] := List.eq_nil_of_length_eq_zero (by rw [hc1, hn0, Nat.zero_mul])
        have : w.heap.setIfInBounds g (.cells (splice rc.toList (o' + off) []).toArray el (lo, hi)) = w.heap := by
          apply Array.ext_getElem?
          intro k
          by_cases hk : g = k
          · subst hk; rw [Array.getElem?_setIfInBounds_self, if_pos hg, f1]; simp [splice]
          · rw [Array.getElem?_setIfInBounds_ne hk]
        rw [hnil, this]
        refine ⟨w, ?_, rfl⟩
        cases A <;> simp [storeCells]
      · rw [hA hc0]
        refine ⟨_, run_storeCells (P := P) c w rc (o' + off) 0 f1 f2.2 hone (by rw [hoff]; omega), by simp only [Nat.add_zero]⟩
    have hrun := hexec w' (.int .i64 (n : Int)) (by
      rw [heq]
      unfold Builtin.copy_
      simp only [List.getElem?_toArray, List.getElem?_cons_zero, List.getElem?_cons_succ, Sem.run_bind, run_underlying hu, Result.andThen_ok, hE.sizeOf, hsrc.len]
      rw [show Nat.min (List.length (α := d.T) ys) len = n from hnn, ← hcond.1, hcells]
      simp only [Result.andThen_ok]
      cases A with
      | none =>
        simp only at hst
        injection hst with _ hst
        subst hst
        rfl
      | some a =>
        simp only at hst ⊢
        simp only [Sem.run_bind, hst, Result.andThen_ok, Sem.run_pure, goInt])
    unfold Oper.wp
    rw [hrun, Oper.upon_value]
    obtain ⟨m1, m2⟩ := AV.set_sound hcu f3 hset hob'
    have hsz : (splice rc.toList (o' + b.off p) (splice cs (i * d.sz) c)).toArray.size = rc.size := by
      rw [List.size_toArray, splice_length _ _ _ (by rw [show rc.toList.length = rc.size from Array.length_toList]; omega), Array.length_toList]
    have hw2 : Rel E ρ ⟨S.tmps, setAt S.heap id (.live b')⟩ a w' := by
      refine hR.write h4 hr f1 f2 hsz (fun c' hle => ⟨splice flat0 (b.off p) (splice cs (i * d.sz) c), ?_, ?_, ?_⟩) rfl (fun j => by rw [blk_setAt]) hw'
      · exact (AV.set_sound (hcu.mono hle) (f3.mono hle) hset hob').1
      · have hl : (splice flat0 (b.off p) (splice cs (i * d.sz) c)).length = flat0.length := splice_length _ _ _ m2
        rw [hl]
        show ((splice rc.toList (o' + b.off p) (splice cs (i * d.sz) c)).drop o').take flat0.length = _
        rw [window_splice _ _ _ _ _ (by rw [show rc.toList.length = rc.size from Array.length_toList]; omega) m2, f4]
      · rw [splice_length _ _ _ m2, hsz]; exact f5
    refine hn ρ _ _ ?_
    rw [hwr]
    refine hw2.put o.dst (some _) _ (fun u hu' => ?_)
    injection hu' with hu'
    subst hu'
    exact RV.i64 _
def byteCells (sx : List UInt8) (n : Nat) : Array Value := ((⟨sx⟩ : Array UInt8).map fun (b : UInt8) => Value.int .u8 (b.toNat : Int)) ++ Array.replicate n (Value.int .u8 0)
theorem byteCells_size (sx : List UInt8) (n : Nat) : (byteCells sx n).size = sx.length + n := by simp [byteCells]
def pBytes (C : Cfg) (s d : TypeId) (x : Option AV) (nb : Nat) : HP Res :=
  match x with
  | some (.str l) => if C.isStr s = true ∧ C.isBytes d = true then .ret { v := some (.tsl nb [] 0 0 1 l.length), wr := [(nb, .live (.pure (.arr l.length (.int .u8)) l))], obs := [l.length < 9223372036854775808], new := 1 } else .fail
  | _ => .fail
theorem sound_bytes (hT : TysOK P C.ty) {s d : TypeId} {x : Operand} {nb : Nat} (hnb0 : 0 < r.new → S.blk nb = .unborn) (ho : o.op = .convert s d x) (h : (pBytes C s d (S.ev C.G x) nb).run S.blk = some (r, l)) (hob : ∀ q ∈ r.obs, q) : OpOK P C.G C.pin o S r := by
  unfold pBytes at h
  split at h
  · rename_i sx hx
    split at h
    · rename_i hst
      have hs := Cfg.isStr_ok hT hst.1
      obtain ⟨e, hd, he⟩ := Cfg.isBytes_ok hT hst.2
      have := HP.run_ret h
      subst this
      have hb := hob _ (List.mem_singleton.2 rfl)
      refine OpOK.new (hnb0 Nat.one_pos) fun E ρ a w hG hR => ?_
      rw [← hG] at hx
      have heq := (hR.ev hx).str_inv
      have hcap : sx.length ≤ (Question.appendCap sx.length 0 e).cut (w.tape w.drawn (.appendCap sx.length 0 e)) := by simp only [Question.cut]; omega
      generalize hcc : (Question.appendCap sx.length 0 e).cut (w.tape w.drawn (.appendCap sx.length 0 e)) = cap at hcap
      have hm : (byteCells sx (cap - sx.length)).size = cap := by rw [byteCells_size]; omega
      refine ⟨.slice (some ⟨w.heap.size, 0, none⟩) sx.length cap, (World.freeze { w with heap := w.heap.push (.cells (byteCells sx (cap - sx.length)) e), drawn := w.drawn + 1 } ⟨w.heap.size, cap, none⟩ 1),
        byteCells sx (cap - sx.length), e, cap, cap + 1, sx.map fun b => .int .u8 (b.toNat : Int), ?_, ?_, rfl, rfl, rfl, ⟨by omega, fun i hi => by rw [hm] at hi; omega⟩, fun c' hle => .pure _ _ _ ⟨rfl, bytes_flat sx⟩, ⟨by simp [byteCells], by rw [hm, List.length_map]; exact hcap⟩,
        fun c' hb hr hh => .one _ _ rfl (.tsl nb [] 0 0 1 _ w.heap.size 0 cap _ hb hr hcap (fun _ => rfl) _ e (cap, cap + 1) hh (.inr (by rw [hm]; omega)))⟩
      · unfold execOp
        simp only [ho, heq, convert, Sem.run_bind, run_underlying hs, run_underlying hd, Result.andThen_ok, run_underlying he, Conv.stringToBytes, run_choose, Question.forced, Bool.false_eq_true, if_false]
        rw [show (⟨⟨sx⟩⟩ : ByteArray).size = sx.length from rfl, hcc]
        simp only [newRow, Sem.run_bind, run_newObj, Result.andThen_ok, Sem.run_pure, markStringish, run_shape, World.shape?, Array.getElem?_push_size, run_freeze]
        have e1 : ((⟨sx⟩ : Array UInt8).map fun (b : UInt8) => Value.int .u8 (b.toNat : Int)) ++ Array.replicate (cap - sx.length) (Value.int .u8 0) = byteCells sx (cap - sx.length) := rfl
        rw [e1, hm]
      · simp only [World.freeze]
        rw [if_neg (by omega)]
        simp only
        apply Array.ext_getElem?
        intro k
        rw [Array.getElem?_modify]
        by_cases hk : w.heap.size = k
        · subst hk
          rw [if_pos rfl, Array.getElem?_push_size, Array.getElem?_push_size]
          simp
        · rw [if_neg hk, Array.getElem?_push, Array.getElem?_push, if_neg (fun e => hk e.symm), if_neg (fun e => hk e.symm)]
    · cases h
  · cases h
end
end Go.Vc

namespace Go.Vc
def eqL : (k : IntKind) → List (IntT k) → List (IntT k) → Bool
  | .u8, x, y => decide (@Eq (List UInt8) x y) | .u16, x, y => decide (@Eq (List UInt16) x y) | .u32, x, y => decide (@Eq (List UInt32) x y) | .u64, x, y => decide (@Eq (List UInt64) x y)
  | .i8, x, y => decide (@Eq (List Int) x y) | .i16, x, y => decide (@Eq (List Int) x y) | .i32, x, y => decide (@Eq (List Int) x y) | .i64, x, y => decide (@Eq (List Int) x y)
theorem eqL_iff : ∀ {k : IntKind} {x y : List (IntT k)}, eqL k x y = true ↔ x = y
  | .u8, _, _ => decide_eq_true_iff | .u16, _, _ => decide_eq_true_iff | .u32, _, _ => decide_eq_true_iff | .u64, _, _ => decide_eq_true_iff
  | .i8, _, _ => decide_eq_true_iff | .i16, _, _ => decide_eq_true_iff | .i32, _, _ => decide_eq_true_iff | .i64, _, _ => decide_eq_true_iff
def eqT : (d : Kd) → d.T → d.T → Bool
  | .int k, x, y => eqI k x y | .bool, x, y => (x : Bool) == y | .str, x, y => strEq x y
  | .arr _ (.int k), x, y => eqL k x y
  | .st d, x, y => eqT d x y
  | .pair a b, x, y => eqT a x.1 y.1 && eqT b x.2 y.2
  | .unit, _, _ => true
  | _, _, _ => false
def TyEq (P : Program) : Kd → TypeId → Prop
  | .int k, t => P.underlying t = some (.int k)
  | .bool, t => P.underlying t = some .bool
  | .str, t => P.underlying t = some .string
  | .arr n (.int k), t => ∃ e, P.underlying t = some (.array n e) ∧ P.underlying e = some (.int k) ∧ (∃ i, P.info? e = some i ∧ i.size = 1)
  | .st d, t => ∃ fields, P.underlying t = some (.struct fields) ∧ P.stoodInHeld t = false ∧ FEq P d fields.toList 0
  | _, _ => False
where
  FEq (P : Program) : Kd → List Field → Nat → Prop
    | .pair a b, f :: fs, off => f.name ≠ "_" ∧ f.offset = off ∧ (∃ i, P.info? f.type = some i ∧ i.size = a.sz) ∧ TyEq P a f.type ∧ FEq P b fs (off + a.sz)
    | .unit, [], _ => True
    | _, _, _ => False
def RVd (ok : Bool → Nat → Prop) (hp : Nat → Option Obj) (d : Kd) (x : d.T) (X : Value) : Prop :=
  if d.isAgg = true then ∃ a, X = .agg a ∧ Reads ok hp d x a.toList else Reads ok hp d x [X]
theorem TyEq.agg {P : Program} {d : Kd} {t : TypeId} (h : TyEq P d t) (w : World) : (isAgg t).run P w = .ok d.isAgg w := by
  have key : ∀ u, P.underlying t = some u → (isAgg t).run P w = .ok (match u with | .struct _ | .array _ _ => true | _ => false) w := by
    intro u hu
    unfold isAgg
    simp only [Sem.run_bind, run_underlying hu, Result.andThen_ok]
    cases u <;> rfl
  cases d with
  | int k => rw [key _ h]; rfl
  | bool => rw [key _ h]; rfl
  | str => rw [key _ h]; rfl
  | arr n d =>
    cases d with
    | int k => obtain ⟨e, h1, _⟩ := h; rw [key _ h1]; rfl
    | _ => exact h.elim
  | st d => obtain ⟨f, h1, _⟩ := h; rw [key _ h1]; rfl
  | _ => exact h.elim
theorem run_partd {P : Program} {ok hp} {d : Kd} {t : TypeId} (hA : ∀ w, (isAgg t).run P w = .ok d.isAgg w) (hS : ∃ i, P.info? t = some i ∧ i.size = d.sz) {x : d.T} {c1 : List Value} (h : Reads ok hp d x c1) {cs : Array Value} {q : Nat}
    (hc : (cs.toList.drop q).take c1.length = c1) (w : World) : ∃ V, (part t cs q).run P w = .ok V w ∧ RVd ok hp d x V := by
  obtain ⟨i, hi, hs⟩ := hS
  have hl := h.len
  cases hag : d.isAgg with
  | true =>
    refine ⟨.agg c1.toArray, ?_, by unfold RVd; rw [if_pos hag]; exact ⟨_, rfl, by simpa using h⟩⟩
    have e : cs.extract q (q + i.size) = c1.toArray := by
      apply Array.ext'
      simp only [Array.toList_extract, List.extract_eq_take_drop]
      rw [hs, ← hl, Nat.add_sub_cancel_left, hc]
    have hsz : (sizeOf t).run P w = .ok i.size w := by simp [sizeOf, typeInfo, hi]
    simp only [part, Sem.run_bind, hA, hag, Result.andThen_ok, if_true, hsz, Sem.run_pure, e]
  | false =>
    have h1 : c1.length = 1 := by
      rw [hl]
      cases d <;> first | rfl | cases hag
    obtain ⟨V, hV⟩ : ∃ V, c1 = [V] := by
      cases c1 with
      | nil => cases h1
      | cons V r => cases r with
        | nil => exact ⟨V, rfl⟩
        | cons => simp at h1
    subst hV
    have hg : cs[q]? = some V := by
      have h2 : ((cs.toList.drop q).take 1)[0]? = some V := by
        simp only [List.length_cons, List.length_nil] at hc
        rw [hc]; rfl
      rw [List.getElem?_take_of_lt (by omega), List.getElem?_drop] at h2
      rw [← Array.getElem?_toList]; exact h2
    refine ⟨V, ?_, by unfold RVd; rw [if_neg (by rw [hag]; simp)]; exact h⟩
    simp only [part, Sem.run_bind, hA, hag, Result.andThen_ok, Bool.false_eq_true, if_false, hg, Sem.run_pure]
theorem run_items {P : Program} {ok hp} {k : IntKind} {e : TypeId} (he : P.underlying e = some (.int k)) (hi : ∃ i, P.info? e = some i ∧ i.size = 1) (m : Nat) (w : World) : ∀ (x y : List (IntT k)) (cs ds : Array Value) (o : Nat),
    RL (Reads ok hp (.int k)) x (cs.toList.drop o) → RL (Reads ok hp (.int k)) y (ds.toList.drop o) → x.length = y.length → (Op.eqItems (m + 1) e 1 cs ds (List.range' o x.length)).run P w = .ok (eqL k x y) w
  | [], [], cs, ds, o, hx, hy, hl => by
    have : eqL k [] [] = true := eqL_iff.2 rfl
    rw [this]; rfl
  | x :: xs, y :: ys, cs, ds, o, hx, hy, hl => by
    obtain ⟨c1, c2, e1, r1, r2⟩ := hx
    obtain ⟨d1, d2, e2, r3, r4⟩ := hy
    have hcs : (cs.toList.drop o) = Value.int k (toI k x) :: c2 := by rw [e1, r1]; rfl
    have hds : (ds.toList.drop o) = Value.int k (toI k y) :: d2 := by rw [e2, r3]; rfl
    have hA : ∀ w, (isAgg e).run P w = .ok (Kd.int k).isAgg w := fun w => TyEq.agg (d := .int k) he w
    have q1 := run_partd (P := P) (ok := ok) (hp := hp) (d := .int k) hA hi (x := x) (c1 := [Value.int k (toI k x)]) rfl (cs := cs) (q := o) (by rw [hcs]; rfl) w
    have q2 := run_partd (P := P) (ok := ok) (hp := hp) (d := .int k) hA hi (x := y) (c1 := [Value.int k (toI k y)]) rfl (cs := ds) (q := o) (by rw [hds]; rfl) w
    obtain ⟨V, v1, v2⟩ := q1
    obtain ⟨W, w1, w2⟩ := q2
    unfold RVd at v2 w2
    rw [if_neg (by simp [Kd.isAgg])] at v2 w2
    injection v2 with v2 _
    injection w2 with w2 _
    subst v2 w2
    have hrest := run_items (P := P) (ok := ok) (hp := hp) he hi m w xs ys cs ds (o + 1) (by rw [← List.drop_drop, hcs]; exact r2) (by rw [← List.drop_drop, hds]; exact r4) (by simpa using hl)
    simp only [List.length_cons, List.range'_succ, Op.eqItems, Nat.mul_one, Sem.run_bind, v1, w1, Result.andThen_ok, run_equalIn_int w m e k k _ _ he]
    by_cases hxy : x = y
    · subst hxy
      simp only [beq_self_eq_true, Bool.not_true, Bool.false_eq_true, if_false, hrest]
      congr 1
      rw [Bool.eq_iff_iff, eqL_iff, eqL_iff]
      simp
    · have h1 : (toI k x == toI k y) = false := by rw [← eqI_toI]; exact Bool.eq_false_iff.2 fun h => hxy (eqI_iff.1 h)
      simp only [h1, Bool.not_false, if_true, Sem.run_pure]
      congr 1
      symm
      rw [Bool.eq_false_iff]
      intro h
      rw [eqL_iff] at h
      injection h with h _
      exact hxy h
  | [], _ :: _, _, _, _, _, _, hl => by simp at hl
  | _ :: _, [], _, _, _, _, _, hl => by simp at hl
def Kd.ht : Kd → Nat
  | .arr _ _ => 2 | .st d => d.ht + 1 | .pair a b => max a.ht b.ht | _ => 1
mutual
theorem run_eqT {P : Program} {ok hp} : ∀ (d : Kd) (t : TypeId) (m : Nat), d.ht ≤ m → TyEq P d t → ∀ (w : World) (x y : d.T) (X Y : Value), RVd ok hp d x X → RVd ok hp d y Y → (Op.equalIn m t X Y).run P w = .ok (eqT d x y) w
  | .int k, t, m, hm, ht, w, x, y, X, Y, hx, hy => by
    obtain ⟨m, rfl⟩ : ∃ q, m = q + 1 := ⟨m - 1, by simp only [Kd.ht] at hm; omega⟩
    injection hx with hx _
    injection hy with hy _
    subst hx hy
    rw [run_equalIn_int w m t k k _ _ ht]
    simp only [eqT, eqI_toI]
  | .bool, t, m, hm, ht, w, x, y, X, Y, hx, hy => by
    obtain ⟨m, rfl⟩ : ∃ q, m = q + 1 := ⟨m - 1, by simp only [Kd.ht] at hm; omega⟩
    injection hx with hx _
    injection hy with hy _
    subst hx hy
    rw [run_equalIn_bool w m t _ _ ht]
    rfl
  | .str, t, m, hm, ht, w, x, y, X, Y, hx, hy => by
    obtain ⟨m, rfl⟩ : ∃ q, m = q + 1 := ⟨m - 1, by simp only [Kd.ht] at hm; omega⟩
    injection hx with hx _
    injection hy with hy _
    subst hx hy
    rw [run_equalIn_string w m t _ _ ht]
    simp only [eqT, strEq, ba_toList]
    congr 1
    rw [Bool.eq_iff_iff]; simp
  | .arr n (.int k), t, m, hm, ht, w, x, y, X, Y, hx, hy => by
    obtain ⟨m, rfl⟩ : ∃ q, m = q + 2 := ⟨m - 2, by simp only [Kd.ht] at hm; omega⟩
    obtain ⟨e, h1, h2, i, h3, h4⟩ := ht
    obtain ⟨cs, rfl, hx1, hx2⟩ := hx
    obtain ⟨ds, rfl, hy1, hy2⟩ := hy
    rw [run_equalIn_array w (m + 1) cs ds h1 h3]
    have hc : P.cellsOf e = 1 := by simp [Program.cellsOf, h3, h4]
    rw [hc, List.range_eq_range', ← hx1]
    exact run_items (P := P) (ok := ok) (hp := hp) h2 ⟨i, h3, h4⟩ m w x y cs ds 0 hx2 hy2 (by rw [hx1, hy1])
  | .st d, t, m, hm, ht, w, x, y, X, Y, hx, hy => by
    obtain ⟨m, rfl⟩ : ∃ q, m = q + 1 := ⟨m - 1, by simp only [Kd.ht] at hm; omega⟩
    obtain ⟨fields, h1, h2, h3⟩ := ht
    obtain ⟨cs, rfl, hx1⟩ := hx
    obtain ⟨ds, rfl, hy1⟩ := hy
    have hf : P.fieldsOf t = fields := by simp [Program.fieldsOf, h1]
    rw [run_equalIn_struct w m t cs ds (by rw [hf]; exact h1) h2, hf]
    exact run_eqF (P := P) (ok := ok) (hp := hp) d fields.toList 0 m (by simp only [Kd.ht] at hm; omega) h3 w x y cs ds hx1 hy1
  | .arr _ .bool, _, _, _, ht, _, _, _, _, _, _, _ => ht.elim
  | .arr _ .str, _, _, _, ht, _, _, _, _, _, _, _ => ht.elim
  | .arr _ (.arr _ _), _, _, _, ht, _, _, _, _, _, _, _ => ht.elim
  | .arr _ (.st _), _, _, _, ht, _, _, _, _, _, _, _ => ht.elim
  | .arr _ (.pair _ _), _, _, _, ht, _, _, _, _, _, _, _ => ht.elim
  | .arr _ .unit, _, _, _, ht, _, _, _, _, _, _, _ => ht.elim
  | .arr _ (.slice _ _), _, _, _, ht, _, _, _, _, _, _, _ => ht.elim
  | .pair _ _, _, _, _, ht, _, _, _, _, _, _, _ => ht.elim
  | .unit, _, _, _, ht, _, _, _, _, _, _, _ => ht.elim
  | .slice _ _, _, _, _, ht, _, _, _, _, _, _, _ => ht.elim
theorem run_eqF {P : Program} {ok hp} : ∀ (d : Kd) (fs : List Field) (off m : Nat), d.ht ≤ m → TyEq.FEq P d fs off → ∀ (w : World) (x y : d.T) (cs ds : Array Value), Reads ok hp d x (cs.toList.drop off) → Reads ok hp d y (ds.toList.drop off) → (Op.eqFields m cs ds fs).run P w = .ok (eqT d x y) w
  | .pair a b, f :: fs, off, m, hm, ht, w, x, y, cs, ds, hx, hy => by
    obtain ⟨h1, h2, h3, h4, h5⟩ := ht
    obtain ⟨c1, c2, e1, r1, r2⟩ := hx
    obtain ⟨d1, d2, e2, r3, r4⟩ := hy
    simp only [Kd.ht] at hm
    have hA : ∀ w, (isAgg f.type).run P w = .ok a.isAgg w := fun w => TyEq.agg h4 w
    obtain ⟨V, v1, v2⟩ := run_partd (P := P) hA h3 r1 (cs := cs) (q := off) (by rw [e1, List.take_left]) w
    obtain ⟨W, w1, w2⟩ := run_partd (P := P) hA h3 r3 (cs := ds) (q := off) (by rw [e2, List.take_left]) w
    have heq := run_eqT (P := P) (ok := ok) (hp := hp) a f.type m (by omega) h4 w x.1 y.1 V W v2 w2
    have hrest := run_eqF (P := P) (ok := ok) (hp := hp) b fs (off + a.sz) m (by omega) h5 w x.2 y.2 cs ds (by rw [← List.drop_drop, e1, ← r1.len, List.drop_left]; exact r2) (by rw [← List.drop_drop, e2, ← r3.len, List.drop_left]; exact r4)
    simp only [Op.eqFields, ne_eq, h1, not_false_eq_true, if_true, Sem.run_bind, h2, v1, w1, Result.andThen_ok, heq]
    cases hq : eqT a x.1 y.1 with
    | true =>
      simp only [Bool.not_true, Bool.false_eq_true, if_false, hrest]
      simp only [eqT, hq, Bool.true_and]
    | false =>
      simp only [Bool.not_false, if_true, Sem.run_pure]
      simp only [eqT, hq, Bool.false_and]
  | .unit, [], off, m, hm, ht, w, x, y, cs, ds, hx, hy => rfl
  | .pair _ _, [], _, _, _, ht, _, _, _, _, _, _, _ => ht.elim
  | .unit, _ :: _, _, _, _, ht, _, _, _, _, _, _, _ => ht.elim
  | .int _, _, _, _, _, ht, _, _, _, _, _, _, _ => by cases ht
  | .bool, _, _, _, _, ht, _, _, _, _, _, _, _ => by cases ht
  | .str, _, _, _, _, ht, _, _, _, _, _, _, _ => by cases ht
  | .arr _ _, _, _, _, _, ht, _, _, _, _, _, _, _ => by cases ht
  | .st _, _, _, _, _, ht, _, _, _, _, _, _, _ => by cases ht
  | .slice _ _, _, _, _, _, ht, _, _, _, _, _, _, _ => by cases ht
end
section
variable {P : Program} {C : Cfg} {E : Env} {ρ : Nat → Option (Nat × Nat)} {S S' : AS} {a : Act} {w w' : World} {o : Oper} {r : Res} {l : List Nat}
theorem Rel.refreeze (h : Rel E ρ S a w) {id : Nat} {b : AV} {g o : Nat} (hl : S.blk id = .live b) (hr : ρ id = some (g, o)) {rc : Array Value} {el : TypeId} {lo hi lo' hi' : Nat}
    (hh : w.heap[g]? = some (.cells rc el (lo, hi))) (hfz : Fz lo' hi' rc.size)
    (hS : S'.tmps = S.tmps) (hB : ∀ j, S'.blk j = upd S.blk id (.live b) j) (hw : w' = { w with heap := w.heap.setIfInBounds g (.cells rc el (lo', hi')) }) : Rel E ρ S' a w' := by
  subst hw
  have hg := lt_of_getElem?_some hh
  have hsetg : (w.heap.setIfInBounds g (.cells rc el (lo', hi')))[g]? = some (.cells rc el (lo', hi')) := by rw [Array.getElem?_setIfInBounds_self, if_pos hg]
  have hset : ∀ k, k ≠ g → (w.heap.setIfInBounds g (.cells rc el (lo', hi')))[k]? = w.heap[k]? := fun k hk => by rw [Array.getElem?_setIfInBounds_ne (by omega)]
  have he : upd ρ id (ρ id) = ρ := funext fun j => by
    by_cases hj : j = id
    · subst hj; rw [upd_same]
    · rw [upd_ne _ _ hj]
  have hbl : upd (fun j => (S.blk j).tr some) id (.live b) = upd S.blk id (.live b) := by
    congr 1
    exact funext fun j => Slot.tr_some _
  have hrb := h.hb id b hl
  rw [hr] at hrb
  have hrb' : ∃ rc el lo hi flat, w.heap[g]? = some (.cells rc el (lo, hi)) ∧ Fz lo hi rc.size ∧ RC (ctx E ρ S.blk w) b flat ∧ (rc.toList.drop o).take flat.length = flat ∧ o + flat.length ≤ rc.size := by
    rcases hrb with h | ⟨_, _, _, _, _, _, e, _⟩
    · exact h
    · have e' : w.heap[g]? = some _ := e
      rw [hh] at e'; cases e'
  obtain ⟨rc0, el0, lo0, hi0, flat, f1, f2, f3, f4, f5⟩ := hrb'
  have f1' : w.heap[g]? = some (.cells rc0 el0 (lo0, hi0)) := f1
  rw [hh] at f1'
  injection f1' with f1'
  injection f1' with e1 e2 e3
  subst e1
  have := h.evolve (S' := S') (w' := { w with heap := w.heap.setIfInBounds g (.cells rc el (lo', hi')) }) (f := some) (id := id) (b' := b) (r' := ρ id)
    (fun i j e => ⟨by injection e with e; exact e.symm, .inr (.inr rfl)⟩)
    (fun k x hx hn => hset k fun e => hn ⟨b, o, hl, by rw [hr, e]⟩)
    (fun k rc1 el1 fr1 hk => by
      by_cases hkg : k = g
      · subst hkg
        rw [hh] at hk
        injection hk with hk
        injection hk with e1 e2 e3
        subst e1
        exact ⟨rc, el, (lo', hi'), hsetg, Nat.le_refl _⟩
      · exact ⟨rc1, el1, fr1, by rw [hset k hkg]; exact hk, Nat.le_refl _⟩)
    (fun g' o' e => .inl ⟨b, o', hl, e⟩)
    (fun c' hc' hle => by
      rw [hr]
      refine .inl ⟨rc, el, lo', hi', flat, by rw [hc']; exact hsetg, hfz, ?_, f4, f5⟩
      have := RC.tr hle f3
      rwa [AV.tr_some] at this)
    (fun hp => ⟨by rw [hl]; simp, rfl⟩) (by simp) rfl rfl rfl (by rw [hS, map_tr_some]) (fun j => by rw [hbl]; exact hB j)
  rwa [he] at this
def pConvS (C : Cfg) (s d : TypeId) (x : Option AV) : HP Res :=
  match x with
  | some (.tsl id p i off sz len) => if s = d ∧ C.isBytes s = true ∧ 0 < len then .get id fun b => .ret { v := some (.tsl id p i off sz len), wr := [(id, .live b)] } else .fail
  | _ => .fail
theorem freeze_heap {w : World} {g n : Nat} {rc : Array Value} {el : TypeId} {lo hi : Nat} (hh : w.heap[g]? = some (.cells rc el (lo, hi))) :
    w.freeze { block := g, off := n } 1 = { w with heap := w.heap.setIfInBounds g (.cells rc el (if lo == hi then (n, n + 1) else (min lo n, max hi (n + 1)))) } := by
  unfold World.freeze
  rw [if_neg (by omega)]
  have : (w.heap.modify g fun | .cells c elem (lo, hi) => .cells c elem (if lo == hi then (n, n + 1) else (min lo n, max hi (n + 1))) | o => o) = w.heap.setIfInBounds g (.cells rc el (if lo == hi then (n, n + 1) else (min lo n, max hi (n + 1)))) := by
    apply Array.ext_getElem?
    intro k
    rw [Array.getElem?_modify, Array.getElem?_setIfInBounds]
    by_cases hk : g = k
    · subst hk
      rw [if_pos rfl, if_pos rfl, hh, if_pos (lt_of_getElem?_some hh)]
      rfl
    · rw [if_neg hk, if_neg hk]
  exact congrArg (fun h => ({ w with heap := h } : World)) this
theorem sound_convS (hT : TysOK P C.ty) {s d : TypeId} {x : Operand} (ho : o.op = .convert s d x) (h : (pConvS C s d (S.ev C.G x)).run S.blk = some (r, l)) (hob : ∀ q ∈ r.obs, q) : OpOK P C.G C.pin o S r := by
  unfold pConvS at h
  split at h
  · rename_i id p i off sz len hx
    split at h
    · rename_i hc
      obtain ⟨hsd, hby, hlen⟩ := hc
      subst hsd
      obtain ⟨b, l', h1, h2, h3⟩ := HP.run_get h
      have := HP.run_ret h2
      subst this
      obtain ⟨e, hs, he⟩ := Cfg.isBytes_ok hT hby
      intro E ρ a w hG hpin hR next Q hn
      rw [← hG] at hx
      have hv := hR.ev hx
      rcases hv.tsl_inv with ⟨_, _, g3, _⟩ | ⟨g, o', cap, A, rc, el, fr, g1, g2, g3, g4, g5, g6, g7⟩
      · omega
      · have hA := g4 (by omega)
        obtain ⟨rc0, el0, lo, hi, flat, f1, f2, f3, f4, f5⟩ := hR.blockC h1 g2 g5
        have hw2 : Rel E ρ ⟨S.tmps, setAt S.heap id (.live b)⟩ a (w.freeze { block := g, off := rc0.size } 1) := by
          rw [freeze_heap f1]
          by_cases hlh : lo = hi
          · rw [if_pos (by simpa using hlh)]
            exact hR.refreeze h1 g2 f1 ⟨by omega, fun i hi => by omega⟩ rfl (fun j => by rw [blk_setAt]) rfl
          · rw [if_neg (by simpa using hlh)]
            have hlo : rc0.size ≤ lo := by
              by_cases hq : lo < rc0.size
              · exact absurd ⟨Nat.le_refl _, by have := f2.1; omega⟩ (f2.2 lo hq)
              · omega
            exact hR.refreeze h1 g2 f1 ⟨by have := f2.1; omega, fun i hi => by omega⟩ rfl (fun j => by rw [blk_setAt]) rfl
        unfold Oper.wp
        have hrun : (execOp a.eval o).run P w = .ok (.value (.slice (some ⟨g, o' + off, none⟩) len cap)) (w.freeze { block := g, off := rc0.size } 1) := by
          unfold execOp
          simp only [ho, g7, hA, convert, Sem.run_bind, run_underlying hs, run_underlying he, Result.andThen_ok, Sem.run_pure, markStringish, run_shape, World.shape?, f1, run_freeze, beq_self_eq_true]
        rw [hrun, Oper.upon_value]
        refine hn ρ _ _ ?_
        refine hw2.put o.dst (some _) _ (fun u hu' => ?_)
        injection hu' with hu'
        subst hu'
        have hle : Ctx.Le some (ctx E ρ S.blk w) (ctx E ρ (⟨S.tmps, setAt S.heap id (.live b)⟩ : AS).blk (w.freeze { block := g, off := rc0.size } 1)) := by
          have hbb : (⟨S.tmps, setAt S.heap id (.live b)⟩ : AS).blk = S.blk := by
            rw [blk_setAt]
            funext j
            by_cases hj : j = id
            · subst hj; rw [upd_same]; exact h1.symm
            · rw [upd_ne _ _ hj]
          rw [hbb, freeze_heap f1]
          refine ⟨fun own k hok _ => ⟨hok, ?_⟩, fun i k hb hk => ?_, fun i k g' o1 hb hk hr rc1 el1 fr1 hcl => ?_⟩
          · have hne : g ≠ k := fun e => hok.1 id b o' h1 (by rw [← e]; exact g2)
            show (w.heap.setIfInBounds g _)[k]? = w.heap[k]?
            rw [Array.getElem?_setIfInBounds_ne hne]
          · injection hk with hk
            subst hk
            exact ⟨hb, rfl⟩
          · by_cases hgg : g = g'
            · subst hgg
              have hcl' : w.heap[g]? = some (.cells rc1 el1 fr1) := hcl
              rw [f1] at hcl'
              injection hcl' with hcl'
              injection hcl' with e1 e2 e3
              subst e1
              exact ⟨_, _, _, (by show (w.heap.setIfInBounds g _)[g]? = _; rw [Array.getElem?_setIfInBounds_self, if_pos (lt_of_getElem?_some f1)]), Nat.le_refl _⟩
            · exact ⟨rc1, el1, fr1, (by show (w.heap.setIfInBounds g _)[g']? = _; rw [Array.getElem?_setIfInBounds_ne hgg]; exact hcl), Nat.le_refl _⟩
        have := RV.tr hle hv
        rw [AV.tr_some, g7, hA] at this
        exact this
    · cases h
  · cases h
end
end Go.Vc

namespace Go.Vc
def relRes (C : Cfg) (t : TypeId) (r : Res) : HP Res :=
  match C.slc t with
  | some e => match C.ty e with
    | some ei => if ei.pap = true then (match r.v, r.wr with
      | some (.tsl id [] 0 0 sz n), [(id', .live (.pure (.arr N d) xs))] => if id = id' ∧ sz = d.sz ∧ n = N ∧ C.pin.contains id = false then .ret { v := some (.pure (.slice true d) xs), wr := [(id, .dead)], kill := r.kill, obs := r.obs, new := r.new } else .fail
      | _, _ => .fail) else .ret r
    | none => .fail
  | none => .fail
def setO (l : List (Option AV)) (v : Option AV) : Option Nat → List (Option AV)
  | some k => l.set k v
  | none => l
section
variable {E : Env} {ρ : Nat → Option (Nat × Nat)} {a : Act} {w : World}
theorem rel_fresh {T : AS} {dst : Option Nat} {id N : Nat} {d : Kd} {xs : List d.T}
    (hR : Rel E ρ (AS.put ⟨T.tmps, setAt T.heap id (.live (.pure (.arr N d) xs))⟩ dst (some (.tsl id [] 0 0 d.sz N))) a w) (hp : E.pin id → False) :
    Rel E ρ (AS.put ⟨T.tmps, setAt T.heap id .dead⟩ dst (some (.pure (.slice true d) xs))) a w := by
  have hb1 : ∀ i, (AS.put ⟨T.tmps, setAt T.heap id (.live (.pure (.arr N d) xs))⟩ dst (some (.tsl id [] 0 0 d.sz N))).blk i = if i = id then .live (.pure (.arr N d) xs) else T.blk i := fun i => by
    rw [AS.put_blk]
    show (setAt T.heap id _).getD i .unborn = _
    rw [setAt_getD]; rfl
  have hb2 : ∀ i, (AS.put ⟨T.tmps, setAt T.heap id .dead⟩ dst (some (.pure (.slice true d) xs))).blk i = if i = id then .dead else T.blk i := fun i => by
    rw [AS.put_blk]
    show (setAt T.heap id _).getD i .unborn = _
    rw [setAt_getD]; rfl
  have ht1 : (AS.put ⟨T.tmps, setAt T.heap id (.live (.pure (.arr N d) xs))⟩ dst (some (.tsl id [] 0 0 d.sz N))).tmps = setO T.tmps (some (.tsl id [] 0 0 d.sz N)) dst := by cases dst <;> rfl
  have ht2 : (AS.put ⟨T.tmps, setAt T.heap id .dead⟩ dst (some (.pure (.slice true d) xs))).tmps = setO T.tmps (some (.pure (.slice true d) xs)) dst := by cases dst <;> rfl
  generalize (AS.put ⟨T.tmps, setAt T.heap id (.live (.pure (.arr N d) xs))⟩ dst (some (.tsl id [] 0 0 d.sz N))) = S1 at hR hb1 ht1
  generalize (AS.put ⟨T.tmps, setAt T.heap id .dead⟩ dst (some (.pure (.slice true d) xs))) = S2 at hb2 ht2 ⊢
  have hid : S1.blk id = .live (.pure (.arr N d) xs) := by rw [hb1, if_pos rfl]
  have hlive : ∀ {i : Nat} {b : AV}, S2.blk i = .live b → i ≠ id ∧ S1.blk i = .live b := by
    intro i b h
    rw [hb2] at h
    split at h
    · cases h
    · rename_i hne
      exact ⟨hne, by rw [hb1, if_neg hne]; exact h⟩
  have hle : Ctx.Le some (ctx E ρ S1.blk w) (ctx E ρ S2.blk w) := by
    refine ⟨fun own b hok _ => ⟨⟨fun i bl o hb hr => hok.1 i bl o (hlive hb).2 hr, hok.2⟩, rfl⟩, fun i k hb hk => ?_, fun i k g o hb hk hr rc el fr hc => ⟨rc, el, fr, hc, Nat.le_refl _⟩⟩
    injection hk with hk
    subst hk
    refine ⟨?_, rfl⟩
    show S2.blk i ≠ .unborn
    have hb' : S1.blk i ≠ .unborn := hb
    rw [hb2]
    rw [hb1] at hb'
    split
    · intro e; cases e
    · rename_i hne
      rw [if_neg hne] at hb'
      exact hb'
  have tr : ∀ {v : AV} {V : Value}, RV (ctx E ρ S1.blk w) v V → RV (ctx E ρ S2.blk w) v V := fun h => by
    have := RV.tr hle h
    rwa [AV.tr_some] at this
  refine ⟨?_, hR.df, fun i v hv => ?_, fun i b h => ?_, fun i i' b b' g o o' h h' hr hr' => ?_, fun i b g o h hr => ?_, hR.fr, fun i hi => ?_, fun g pd hg => ?_⟩
  · rw [← hR.len, ht1, ht2]
    cases dst <;> simp [setO]
  · rw [ht2] at hv
    cases dst with
    | none =>
      have hv1 : S1.tmps[i]? = some (some v) := by rw [ht1]; exact hv
      obtain ⟨V, h1, h2⟩ := hR.tm i v hv1
      exact ⟨V, h1, tr h2⟩
    | some k =>
      have hv' : (T.tmps.set k (some (.pure (.slice true d) xs)))[i]? = some (some v) := hv
      have ht1' : S1.tmps = T.tmps.set k (some (.tsl id [] 0 0 d.sz N)) := ht1
      rw [List.getElem?_set] at hv'
      split at hv'
      · rename_i e
        subst e
        split at hv'
        · rename_i hlt
          injection hv' with hv'
          injection hv' with hv'
          subst hv'
          obtain ⟨V, h1, h2⟩ := hR.tm k (.tsl id [] 0 0 d.sz N) (by rw [ht1', List.getElem?_set, if_pos rfl, if_pos hlt])
          refine ⟨V, h1, ?_⟩
          have hbid := hR.hb id _ hid
          rcases h2.tsl_inv with ⟨hbn, hr, hl0, heq⟩ | ⟨g, o', cap, A, rc0, el0, fr0, hbn, hr, hl, hA, hh0, hs, heq⟩
          · have hr' : ρ id = none := hr
            rw [hr'] at hbid
            have hx0 : xs = [] := List.eq_nil_of_length_eq_zero hbid.2
            subst hx0
            rw [heq]
            exact .one _ _ rfl (.pure _ _ _ ⟨none, 0, rfl, Nat.le_refl _, .inl rfl⟩)
          · have hr' : ρ id = some (g, o') := hr
            rw [hr'] at hbid
            obtain ⟨rc, el, lo, hi, flat, q1, q2, q3, q4, q5⟩ := hbid.cl (fun l e => by cases e)
            have hrd : Reads (ctx E ρ S1.blk w).ok (ctx E ρ S1.blk w).hp (.arr N d) xs flat := by
              cases q3 with
              | pure _ _ _ h9 => exact h9
            have hxl : xs.length = N := hrd.1
            rw [heq]
            refine .one _ _ rfl (.pure _ _ _ ⟨A, cap, by rw [hxl], by rw [hxl]; exact hl, ?_⟩)
            by_cases hn : N = 0
            · exact .inl (List.eq_nil_of_length_eq_zero (by rw [hxl]; exact hn))
            · refine .inr ⟨g, o', rc, el, (lo, hi), flat, by rw [hA (by omega), Nat.add_zero], ⟨fun i bl o hb hρ => ?_, fun _ => (hR.nf id _ g o' hid hr').1⟩, q1, ?_, q4⟩
              · obtain ⟨hne, h0⟩ := hlive hb
                exact hne (hR.inj i id _ _ g o o' h0 hid hρ hr')
              · exact hrd.2.imp fun _ _ hh => hh.mono fun own b h1 _ => ⟨⟨fun i bl o hb hr => h1.1 i bl o (hlive hb).2 hr, h1.2⟩, rfl⟩
        · cases hv'
      · rename_i hne
        obtain ⟨V, h1, h2⟩ := hR.tm i v (by rw [ht1', List.getElem?_set, if_neg hne]; exact hv')
        exact ⟨V, h1, tr h2⟩
  · obtain ⟨hne, h0⟩ := hlive h
    have h1 := hR.hb i b h0
    cases hr : ρ i with
    | none => rw [hr] at h1; exact h1
    | some p =>
      obtain ⟨g, o⟩ := p
      rw [hr] at h1
      rcases h1 with ⟨rc, el, lo, hi, flat, q1, q2, q3, q4, q5⟩ | h1
      · refine .inl ⟨rc, el, lo, hi, flat, q1, q2, ?_, q4, q5⟩
        have := RC.tr hle q3
        rwa [AV.tr_some] at this
      · exact .inr h1
  · exact hR.inj i i' _ _ g o o' (hlive h).2 (hlive h').2 hr hr'
  · exact hR.nf i _ g o (hlive h).2 hr
  · obtain ⟨h1, h2⟩ := hR.pn i hi
    have hne : i ≠ id := fun e => by subst e; exact hp hi
    refine ⟨?_, h2⟩
    rw [hb2, if_neg hne]
    rw [hb1, if_neg hne] at h1
    exact h1
  · exact tr (hR.gl g pd hg)
end
theorem relRes_same {C : Cfg} {t : TypeId} {r1 r : Res} {m : Nat → Slot} {l : List Nat} (h : (relRes C t r1).run m = some (r, l)) : r.obs = r1.obs ∧ r.new = r1.new := by
  unfold relRes at h
  split at h
  case h_2 => cases h
  split at h
  case h_2 => cases h
  split at h
  case isFalse =>
    have := HP.run_ret h
    subst this
    exact ⟨rfl, rfl⟩
  split at h
  case h_2 => cases h
  split at h
  case isFalse => cases h
  have := HP.run_ret h
  subst this
  exact ⟨rfl, rfl⟩
theorem relRes_obs {C : Cfg} {t : TypeId} {r1 r : Res} {m : Nat → Slot} {l : List Nat} (h : (relRes C t r1).run m = some (r, l)) : r.obs = r1.obs := (relRes_same h).1
theorem relRes_new {C : Cfg} {t : TypeId} {r1 r : Res} {m : Nat → Slot} {l : List Nat} (h : (relRes C t r1).run m = some (r, l)) : r.new = r1.new := (relRes_same h).2
section
variable {P : Program} {C : Cfg} {o : Oper} {S : AS}
theorem sound_rel {t : TypeId} {r1 r : Res} {m : Nat → Slot} {l : List Nat} (hok : OpOK P C.G C.pin o S r1) (h : (relRes C t r1).run m = some (r, l)) : OpOK P C.G C.pin o S r := by
  unfold relRes at h
  split at h
  case h_2 => cases h
  split at h
  case h_2 => cases h
  split at h
  case isFalse =>
    have := HP.run_ret h
    subst this
    exact hok
  split at h
  case h_2 => cases h
  rename_i id sz n id' N d xs hv hw
  split at h
  case isFalse => cases h
  rename_i hc
  obtain ⟨c1, c2, c3, c4⟩ := hc
  subst c1 c2 c3
  have := HP.run_ret h
  subst this
  obtain ⟨v1, w1, k1, o1, n1⟩ := r1
  have hv' : v1 = _ := hv
  have hw' : w1 = _ := hw
  subst hv' hw'
  intro E ρ a w hG hpin hR next Q hn
  refine hok E ρ a w hG hpin hR next Q fun ρ' a' w' hR' => hn ρ' a' w' ?_
  exact rel_fresh (T := S.killed k1) hR' fun hp => by
    have h9 := hpin id hp
    have : C.pin.contains id = true := by simpa using h9
    rw [c4] at this; cases this
end
end Go.Vc

namespace Go.Vc
section
variable {P : Program} {C : Cfg} {S : AS} {o : Oper} {r : Res} {l : List Nat}
theorem ofKd_isAggK (d : Kd) (x : d.T) : (AV.ofKd d x).isAgg = d.isAgg := by cases d <;> rfl
theorem RV.ofKdK {c : Ctx} {d : Kd} {x : d.T} {v : AV} {X : Value} (hv : RV c v X) (h : d.of v = some x) (ha : v.isAgg = d.isAgg) : RV c (.ofKd d x) X := by
  cases hv with
  | one _ _ h0 hc => exact .one _ _ (by rw [ofKd_isAggK, ← ha]; exact h0) (RC.ofKd (Kd.of_sound h hc))
  | agg _ a h0 hc => exact .agg _ _ (by rw [ofKd_isAggK, ← ha]; exact h0) (RC.ofKd (Kd.of_sound h hc))
  | tuple l x hl => cases d <;> simp [Kd.of] at h
theorem RV.map_inv {c : Ctx} {id : Nat} {X : Value} (h : RV c (.map id) X) : ∃ g, c.ρ id = some (g, 0) ∧ X = .map (some g) := by
  cases h with
  | agg _ _ h0 => cases h0
  | one _ _ _ hc => cases hc with | map _ g hb hr => exact ⟨g, hr, rfl⟩
theorem RV.bool_invK {c : Ctx} {b : Bool} {X : Value} (h : RV c (.bool b) X) : X = .bool b := by
  cases h with
  | agg _ _ h0 => cases h0
  | one _ _ _ hc => cases hc; rfl
def pMakeMap (C : Cfg) (t : TypeId) (nb : Nat) : HP Res :=
  match C.ty t with
  | some i => match i.td with
    | .map _ _ d => .ret { v := some (.map nb), wr := [(nb, .live (.tuple [.pure (.arr 0 d) ([] : List d.T)]))], new := 1 }
    | _ => .fail
  | none => .fail
def pLookup (C : Cfg) (t : TypeId) (x k : Option AV) : HP Res :=
  match C.ty t with
  | some i => match i.td with
    | .map _ _ d => match x, k with
      | some (.map id), some kv => match d.of kv with
        | some y => if kv.isAgg = d.isAgg then .get id fun b => match b with
          | .tuple [.pure (.arr 0 d') xs] => match castK (.arr 0 d) (.arr 0 d') xs with
            | some ys => .ret { v := some (.bool (memK d ys y)), obs := [keyOK d y] }
            | none => .fail
          | _ => .fail else .fail
        | none => .fail
      | _, _ => .fail
    | _ => .fail
  | none => .fail
def pUpdate (C : Cfg) (t : TypeId) (x k u : Option AV) : HP Res :=
  match C.ty t with
  | some i => match i.td with
    | .map _ _ d => match x, k, u with
      | some (.map id), some kv, some (.bool true) => match d.of kv with
        | some y => if kv.isAgg = d.isAgg then .get id fun b => match b with
          | .tuple [.pure (.arr 0 d') xs] => match castK (.arr 0 d) (.arr 0 d') xs with
            | some ys => .ret { v := none, wr := [(id, .live (.tuple [.pure (.arr 0 d) (ys ++ [y] : List d.T)]))], obs := [memK d ys y = false, keyOK d y] }
            | none => .fail
          | _ => .fail else .fail
        | none => .fail
      | _, _, _ => .fail
    | _ => .fail
  | none => .fail
theorem MapLaw.of (hT : TysOK P C.ty) {t k e : TypeId} {i : TyI} {d : Kd} (hi : C.ty t = some i) (htd : i.td = .map k e d) : MapLaw P t k e d := by
  have h := (hT t i hi).td
  rw [htd] at h
  exact h
theorem sound_makeMap (hT : TysOK P C.ty) {t : TypeId} {nb : Nat} (hnb0 : 0 < r.new → S.blk nb = .unborn) (ho : o.op = .makeMap t none) (h : (pMakeMap C t nb).run S.blk = some (r, l)) : OpOK P C.G C.pin o S r := by
  unfold pMakeMap at h
  split at h
  · rename_i i hi
    split at h
    · rename_i k e d htd
      have := HP.run_ret h
      subst this
      have hnb := hnb0 Nat.one_pos
      intro E ρ a w hG hpin hR next Q hn
      have hrun : (execOp a.eval o).run P w = .ok (.value (.map (some w.heap.size))) { w with heap := w.heap.push (.map #[] 0) } := by
        unfold execOp
        simp only [ho, Option.map_none, Instr.makeMap, Sem.run_bind, run_newObj, Result.andThen_ok, Sem.run_pure]
      unfold Oper.wp
      rw [hrun, Oper.upon_value]
      have hA := hR.alloc (S' := ⟨S.tmps, setAt S.heap nb (.live (.tuple [.pure (.arr 0 d) ([] : List d.T)]))⟩) (w' := { w with heap := w.heap.push (.map #[] 0) }) hnb (.map #[] 0) (.tuple [.pure (.arr 0 d) ([] : List d.T)]) 0
        (fun ρ' c' hc' hρ' hle => .inr ⟨rfl, d, [], #[], 0, rfl, by rw [hc']; simp [ctx], trivial⟩) rfl (fun id => by rw [blk_setAt]) rfl
      refine hn _ _ _ (hA.put o.dst (some (.map nb)) _ (fun u hu => ?_))
      injection hu with hu
      subst hu
      refine .one _ _ rfl (.map nb _ ?_ (upd_same _ _ _))
      simp only [ctx, blk_setAt, upd_same]
      simp
    · cases h
  · cases h
theorem entR.spec {d : Kd} : ∀ {xs : List d.T} {es : List MapEntry}, entR d xs es → xs.length = es.length ∧ (∀ (i : Nat) (x : d.T), xs[i]? = some x → ∃ e : MapEntry, es[i]? = some e ∧ keyOK d x ∧ keyR d x e.key ∧ e.val = .bool true)
  | [], [], _ => ⟨rfl, fun i x h => by simp at h⟩
  | x :: xs, e :: es, ⟨h1, h2, h3, h4⟩ => by
    obtain ⟨k1, k2⟩ := entR.spec h4
    refine ⟨by simp [k1], fun i y hy => ?_⟩
    cases i with
    | zero =>
      simp only [List.getElem?_cons_zero, Option.some.injEq] at hy
      subst hy
      exact ⟨e, rfl, h1, h2, h3⟩
    | succ i => exact k2 i y (by simpa using hy)
  | [], _ :: _, h => h.elim
  | _ :: _, [], h => h.elim
theorem entR.snoc {d : Kd} {x : d.T} {e : MapEntry} (h1 : keyOK d x) (h2 : keyR d x e.key) (h3 : e.val = .bool true) : ∀ {xs : List d.T} {es : List MapEntry}, entR d xs es → entR d (xs ++ [x]) (es ++ [e])
  | [], [], _ => ⟨h1, h2, h3, trivial⟩
  | _ :: _, _ :: _, ⟨a, b, c, h⟩ => ⟨a, b, c, entR.snoc h1 h2 h3 h⟩
  | [], _ :: _, h => h.elim
  | _ :: _, [], h => h.elim
theorem find_memK {t k e : TypeId} {d : Kd} (M : MapLaw P t k e d) {ys : List d.T} {y : d.T} {X : Value} {es : Array MapEntry} (hk : keyOK d y) (hX : keyR d y X) (hE : entR d ys es.toList) (w : World) :
    (Instr.checkKey es.isEmpty 10000 k X).run P w = .ok () w ∧ (Instr.checkKey false 10000 k X).run P w = .ok () w ∧
    (((Instr.findKey k X es.toList).run P w = .ok none w ∧ memK d ys y = false) ∨ ∃ j en, (Instr.findKey k X es.toList).run P w = .ok (some (j, en)) w ∧ en = .bool true ∧ memK d ys y = true) := by
  obtain ⟨lx, hlx⟩ := M.key y X hk hX
  obtain ⟨hlen, hget⟩ := entR.spec hE
  have hback : ∀ (j : Nat) (en : MapEntry), es.toList[j]? = some en → ∃ x, ys[j]? = some x ∧ keyOK d x ∧ keyR d x en.key ∧ en.val = .bool true := fun j en hj => by
    have hlt := (List.getElem?_eq_some_iff.1 hj).1
    have hy : ys[j]? = some ys[j] := List.getElem?_eq_getElem (by omega)
    obtain ⟨e2, h1, h2, h3, h4⟩ := hget j _ hy
    rw [hj] at h1
    injection h1 with h1
    subst h1
    exact ⟨_, hy, h2, h3, h4⟩
  have hes : ∀ en ∈ es.toList, ∃ l, keyOf P k en.key = some l := fun en hen => by
    obtain ⟨j, hj⟩ := List.mem_iff_getElem?.1 hen
    obtain ⟨x, _, h2, h3, _⟩ := hback j en hj
    exact M.key x en.key h2 h3
  refine ⟨M.law.check w _ hlx, M.law.check w _ hlx, ?_⟩
  rcases M.law.find w hlx es.toList hes with ⟨h1, h2⟩ | ⟨j, en, h1, h2, h3⟩
  · refine .inl ⟨h1, ?_⟩
    cases hm : memK d ys y with
    | false => rfl
    | true =>
      exfalso
      obtain ⟨z, hz, hq⟩ := List.any_eq_true.1 hm
      have := (M.eq y z).1 hq
      subst this
      obtain ⟨i, hi⟩ := List.mem_iff_getElem?.1 hz
      obtain ⟨en, g1, _, g3, _⟩ := hget i _ hi
      exact h2 en (List.mem_of_getElem? g1) (M.one _ _ _ g3 hX)
  · obtain ⟨x, g1, _, g3, g4⟩ := hback j en h2
    refine .inr ⟨j, en.val, h1, g4, ?_⟩
    rw [h3] at g3
    have := M.inj _ _ _ g3 hX
    subst this
    exact List.any_eq_true.2 ⟨x, List.mem_of_getElem? g1, (M.eq x x).2 rfl⟩
theorem Rel.mapB {E : Env} {ρ : Nat → Option (Nat × Nat)} {a : Act} {w : World} (hR : Rel E ρ S a w) {id g : Nat} {d : Kd} {xs : List d.T} (hl : S.blk id = .live (.tuple [.pure (.arr 0 d) xs])) (hr : ρ id = some (g, 0)) :
    ∃ (es : Array MapEntry) (clock : Nat), w.heap[g]? = some (.map es clock) ∧ entR d xs es.toList := by
  have h := hR.hb id _ hl
  rw [hr] at h
  rcases h with ⟨_, _, _, _, _, _, _, h, _⟩ | ⟨_, d', xs', es, clock, e1, h2, h3⟩
  · cases h
  · injection e1 with e1
    injection e1 with e1 _
    injection e1 with e1 e2
    injection e1 with _ e1
    subst e1
    have e3 := eq_of_heq e2
    subst e3
    exact ⟨es, clock, h2, h3⟩
theorem sound_lookup (hT : TysOK P C.ty) {t : TypeId} {x k : Operand} (ho : o.op = .lookup t x k false) (h : (pLookup C t (S.ev C.G x) (S.ev C.G k)).run S.blk = some (r, l)) (hob : ∀ q ∈ r.obs, q) : OpOK P C.G C.pin o S r := by
  unfold pLookup at h
  split at h
  case h_2 => cases h
  rename_i i hi
  split at h
  case h_2 => cases h
  rename_i kt et d htd
  have M := MapLaw.of hT hi htd
  split at h
  case h_2 => cases h
  rename_i id kv hx hk
  split at h
  case h_2 => cases h
  rename_i y hy
  split at h
  case isFalse => cases h
  rename_i hag
  obtain ⟨b, l', h1, h2, h3⟩ := HP.run_get h
  split at h2
  case h_2 => cases h2
  rename_i d' xs
  split at h2
  case h_2 => cases h2
  rename_i ys hys
  obtain ⟨e, he⟩ := castK_arr hys
  subst e
  have he' : ys = xs := he
  subst he'
  have := HP.run_ret h2
  subst this
  have hkok : keyOK d' y := hob _ (List.mem_singleton.2 rfl)
  refine OpOK.val fun E ρ a w hG hR => ?_
  rw [← hG] at hx hk
  have hX := hR.ev hk
  have hkey := M.val _ _ _ (hX.ofKdK hy hag)
  obtain ⟨g, hr, hax⟩ := (hR.ev hx).map_inv
  obtain ⟨es, clock, g1, g2⟩ := hR.mapB h1 hr
  obtain ⟨c1, c2, c3⟩ := find_memK M hkok hkey g2 w
  refine ⟨.bool (memK d' ys y), ?_, .one _ _ rfl (.bool _)⟩
  unfold execOp
  rcases c3 with ⟨c3, c4⟩ | ⟨j, en, c3, c5, c4⟩
  · simp only [ho, hax, Instr.lookup, Sem.run_bind, run_underlying M.hu, Result.andThen_ok, MapKept.run_getObj_map g1, Sem.run_pure, c1, c3, M.zero, c4]
    rfl
  · subst c5
    simp only [ho, hax, Instr.lookup, Sem.run_bind, run_underlying M.hu, Result.andThen_ok, MapKept.run_getObj_map g1, Sem.run_pure, c1, c3, c4]
    rfl
theorem sound_update (hT : TysOK P C.ty) {t : TypeId} {x k u : Operand} (ho : o.op = .mapUpdate t x k u) (h : (pUpdate C t (S.ev C.G x) (S.ev C.G k) (S.ev C.G u)).run S.blk = some (r, l)) (hob : ∀ q ∈ r.obs, q) : OpOK P C.G C.pin o S r := by
  unfold pUpdate at h
  split at h
  case h_2 => cases h
  rename_i i hi
  split at h
  case h_2 => cases h
  rename_i kt et d htd
  have M := MapLaw.of hT hi htd
  split at h
  case h_2 => cases h
  rename_i id kv hx hk hu
  split at h
  case h_2 => cases h
  rename_i y hy
  split at h
  case isFalse => cases h
  rename_i hag
  obtain ⟨b, l', h1, h2, h3⟩ := HP.run_get h
  split at h2
  case h_2 => cases h2
  rename_i d' xs
  split at h2
  case h_2 => cases h2
  rename_i ys hys
  obtain ⟨e, he⟩ := castK_arr hys
  subst e
  have he' : ys = xs := he
  subst he'
  have := HP.run_ret h2
  subst this
  have hno : memK d' ys y = false := hob _ (List.mem_cons_self ..)
  have hkok : keyOK d' y := hob _ (List.mem_cons_of_mem _ (List.mem_singleton.2 rfl))
  intro E ρ a w hG hpin hR next Q hn
  rw [← hG] at hx hk hu
  have hX := hR.ev hk
  have hkey := M.val _ _ _ (hX.ofKdK hy hag)
  have hub : a.eval u = .bool true := (hR.ev hu).bool_invK
  obtain ⟨g, hr, hax⟩ := (hR.ev hx).map_inv
  have hr' : ρ id = some (g, 0) := hr
  obtain ⟨es, clock, g1, g2⟩ := hR.mapB h1 hr
  obtain ⟨c1, c2, c3⟩ := find_memK M hkok hkey g2 w
  rcases c3 with ⟨c3, c4⟩ | ⟨j, en, c3, c5, c4⟩
  · have hrun : (execOp a.eval o).run P w = .ok .skip { w with heap := w.heap.setIfInBounds g (.map (es.push { key := a.eval k, val := .bool true, born := clock }) (clock + 1)) } := by
      unfold execOp
      simp only [ho, hax, hub, Instr.mapUpdate, Sem.run_bind, run_underlying M.hu, Result.andThen_ok, MapKept.run_getObj_map g1, Sem.run_pure, c2, c3, MapKept.run_setObj_map _ g1]
    unfold Oper.wp
    rw [hrun, Oper.upon_skip]
    have hset : ∀ q, q ≠ g → (w.heap.setIfInBounds g (.map (es.push { key := a.eval k, val := .bool true, born := clock }) (clock + 1)))[q]? = w.heap[q]? := fun q hq => by rw [Array.getElem?_setIfInBounds_ne (by omega)]
    have he : upd ρ id (ρ id) = ρ := funext fun j => by
      by_cases hj : j = id
      · subst hj; rw [upd_same]
      · rw [upd_ne _ _ hj]
    have hbl : upd (fun j => (S.blk j).tr some) id (.live (.tuple [.pure (.arr 0 d') (ys ++ [y] : List d'.T)])) = upd S.blk id (.live (.tuple [.pure (.arr 0 d') (ys ++ [y] : List d'.T)])) := by
      congr 1
      exact funext fun j => Slot.tr_some _
    have hE := hR.evolve (S' := ⟨S.tmps, setAt S.heap id (.live (.tuple [.pure (.arr 0 d') (ys ++ [y] : List d'.T)]))⟩) (w' := { w with heap := w.heap.setIfInBounds g (.map (es.push { key := a.eval k, val := .bool true, born := clock }) (clock + 1)) }) (f := some) (id := id) (b' := .tuple [.pure (.arr 0 d') (ys ++ [y] : List d'.T)]) (r' := ρ id)
      (fun i j e => ⟨by injection e with e; exact e.symm, .inr (.inr rfl)⟩)
      (fun q z hz hq => hset q fun e => hq ⟨_, 0, h1, by rw [hr', e]⟩)
      (fun q rc el fr hq => by
        have hne : q ≠ g := fun e => by subst e; rw [g1] at hq; cases hq
        exact ⟨rc, el, fr, (hset q hne).trans hq, Nat.le_refl _⟩)
      (fun g' o' e => .inl ⟨_, o', h1, e⟩)
      (fun c' hc' hle => by
        rw [hr']
        refine .inr ⟨rfl, d', ys ++ [y], es.push { key := a.eval k, val := .bool true, born := clock }, clock + 1, rfl, ?_, ?_⟩
        · rw [hc']
          simp only [ctx, Array.getElem?_setIfInBounds_self_of_lt (lt_of_getElem?_some g1)]
        · rw [Array.toList_push]
          exact entR.snoc hkok hkey rfl g2)
      (fun hp => ⟨by rw [h1]; simp, rfl⟩) (by simp) rfl rfl rfl (by rw [map_tr_some]) (fun j => by rw [hbl, blk_setAt])
    rw [he] at hE
    exact hn _ _ _ (hE.put o.dst none _ (fun u hu => by cases hu))
  · rw [hno] at c4; cases c4
end
end Go.Vc

namespace Go.Vc
structure FSumOK (P : Program) (G : Nat → Option PD) (f : FuncId) (sum : List AV → Nat → HP Res) : Prop where
  enter : ∀ args w, (callFunc f args).run P w = .ok (.enter f args) w
  calls : ∀ (S : AS) (args : List AV) (nb : Nat) (r : Res) (l : List Nat), (sum args nb).run S.blk = some (r, l) → (∀ q ∈ r.obs, q) → (∀ j, j < r.new → S.blk (nb + j) = .unborn) →
    ∀ (E : Env) (ρ : Nat → Option (Nat × Nat)) (a : Act) (w : World), E.glob = G → (∀ k ∈ r.kill, ¬ E.pin k) → Rel E ρ S a w → ∀ V : List Value, RVs (ctx E ρ S.blk w) args V →
      Calls P f V.toArray w fun e w' => ∃ v ρ', e = .returned v ∧ ∀ dst, Rel E ρ' (S.app dst r) (a.put dst v) w'
structure ESumOK (P : Program) (G : Nat → Option PD) (f : FuncId) (sum : List AV → Nat → HP Res) : Prop where
  run : ∀ (S : AS) (args : List AV) (nb : Nat) (r : Res) (l : List Nat), (sum args nb).run S.blk = some (r, l) → (∀ q ∈ r.obs, q) → (∀ j, j < r.new → S.blk (nb + j) = .unborn) →
    ∀ (E : Env) (ρ : Nat → Option (Nat × Nat)) (a : Act) (w : World), E.glob = G → (∀ k ∈ r.kill, ¬ E.pin k) → Rel E ρ S a w → ∀ V : List Value, RVs (ctx E ρ S.blk w) args V →
      ∃ v w' ρ', (callFunc f V.toArray).run P w = .ok (.value v) w' ∧ ∀ dst, Rel E ρ' (S.app dst r) (a.put dst v) w'
def FOK (P : Program) (G : Nat → Option PD) (f : FuncId) (sum : List AV → Nat → HP Res) : Prop := FSumOK P G f sum ∨ ESumOK P G f sum
structure Cfg2 extends Cfg where
  eq : TypeId → Option Kd
structure CfgOK (P : Program) (C : Cfg2) : Prop where
  ty : TysOK P C.ty
  fn : ∀ f sum, C.fn f = some sum → FOK P C.G f sum
  eq : ∀ t d, C.eq t = some d → TyEq P d t ∧ P.eqGuardType P.depth t = false ∧ d.ht ≤ 10000 ∧ d.isAgg = true
def AV.isPtr : AV → Bool | .ptr .. => true | .arrp .. => true | .ept .. => true | _ => false
theorem RV.isPtr {c : Ctx} {v : AV} {X : Value} (h : RV c v X) (hp : v.isPtr = true) : ∃ a, X = .pointer (some a) := by
  cases v <;> simp only [AV.isPtr, reduceCtorEq] at hp
  · obtain ⟨g, o, _, _, e⟩ := h.ptr_inv; exact ⟨_, e⟩
  · obtain ⟨g, o, _, _, e⟩ := h.arrp_inv; exact ⟨_, e⟩
  · obtain ⟨b, o, rc, el, fr, flat, _, _, _, _, e⟩ := h.ept_inv; exact ⟨_, e⟩
def Cfg.isPtrT (C : Cfg) (t : TypeId) : Bool := match C.ty t with | some i => (match i.td with | .ptr _ => true | _ => false) | none => false
theorem Cfg.isPtrT_ok {P : Program} {C : Cfg} (hT : TysOK P C.ty) {t : TypeId} (h : C.isPtrT t = true) : ∃ e, P.underlying t = some (.pointer e) := by
  unfold Cfg.isPtrT at h
  split at h
  · rename_i i hi
    have hok := (hT t i hi).td
    split at h
    · rename_i e htd; rw [htd] at hok; exact ⟨e, hok⟩
    · cases h
  · cases h
def eqOp (op : BinOp) (b : Bool) : Option AV := match op with | .eql => some (.bool b) | .neq => some (.bool (!b)) | _ => none
def AV.ptrK : AV → Option Bool | .nilp => some true | .ptr .. => some false | .arrp .. => some false | .ept .. => some false | _ => none
theorem RV.ptrK {c : Ctx} {v : AV} {X : Value} {b : Bool} (h : RV c v X) (hp : v.ptrK = some b) : ∃ a : Option Addr, X = .pointer a ∧ a.isNone = b := by
  cases v <;> simp only [AV.ptrK, reduceCtorEq, Option.some.injEq] at hp <;> subst hp
  · exact ⟨_, h.nilp_inv, rfl⟩
  · obtain ⟨g, o, _, _, e⟩ := h.ptr_inv; exact ⟨_, e, rfl⟩
  · obtain ⟨g, o, _, _, e⟩ := h.arrp_inv; exact ⟨_, e, rfl⟩
  · obtain ⟨b, o, rc, el, fr, flat, _, _, _, _, e⟩ := h.ept_inv; exact ⟨_, e, rfl⟩
def pEqP (C : Cfg) (op : BinOp) (t : TypeId) (a b : Bool) : Option AV :=
  if C.isPtrT t = true ∧ (a || b) = true then eqOp op (a && b) else none
def pEqB (C : Cfg) (op : BinOp) (t : TypeId) (a b : Bool) : Option AV :=
  match C.ty t with | some i => (match i.td with | .bool => eqOp op (a == b) | _ => none) | none => none
def pEqA (C : Cfg2) (op : BinOp) (t : TypeId) (x y : AV) : Option AV :=
  match C.eq t with
  | some d => match d.of x, d.of y with
    | some a, some b => if x.isAgg = true ∧ y.isAgg = true then eqOp op (eqT d a b) else none
    | _, _ => none
  | none => none
def AV.boolK : AV → Option Bool | .bool b => some b | _ => none
theorem RV.boolK {c : Ctx} {v : AV} {X : Value} {b : Bool} (h : RV c v X) (hp : v.boolK = some b) : X = .bool b := by
  cases v <;> simp only [AV.boolK, reduceCtorEq, Option.some.injEq] at hp
  subst hp
  exact h.bool_inv
def pEq (C : Cfg2) (op : BinOp) (t : TypeId) (x y : AV) : Option AV :=
  match x.ptrK, y.ptrK with
  | some a, some b => pEqP C.toCfg op t a b
  | _, _ => match x.boolK, y.boolK with
    | some a, some b => pEqB C.toCfg op t a b
    | _, _ => pEqA C op t x y
def pBin2 (C : Cfg2) (op : BinOp) (t : TypeId) (x y : Option AV) : HP Res :=
  match x, y with
  | some x, some y => match binAV op x y with
    | some (v, obs) => .ret { v := some v, obs := obs }
    | none => retV (pEq C op t x y)
  | _, _ => .fail
section
variable {P : Program} {C : Cfg2} {S : AS} {o : Oper} {r : Res} {l : List Nat}
def eqSem (op : BinOp) (t : TypeId) (X Y : Value) : Sem Value := match op with | .eql => (do pure (.bool (← Op.equal t X Y))) | .neq => (do pure (.bool (!(← Op.equal t X Y)))) | _ => stuck ""
theorem run_eqOp {op : BinOp} {t : TypeId} {X Y : Value} {b : Bool} {w : World} {c : Ctx} {v : AV} (hv : eqOp op b = some v) (hg : ∀ x y, (eqGuard op t x y X Y).run P w = .ok () w) (h : (Op.equal t X Y).run P w = .ok b w)
    (hb : binOp op t X Y = eqSem op t X Y) (x y : Operand) :
    ∃ V, (do eqGuard op t x y X Y; binOp op t X Y : Sem Value).run P w = .ok V w ∧ RV c v V := by
  rw [Sem.run_bind, hg, Result.andThen_ok, hb]
  cases op <;> simp only [eqOp, Option.some.injEq, reduceCtorEq] at hv
  · subst hv
    exact ⟨.bool b, by simp only [eqSem, Sem.run_bind, h, Result.andThen_ok, Sem.run_pure], .one _ _ rfl (.bool _)⟩
  · subst hv
    exact ⟨.bool (!b), by simp only [eqSem, Sem.run_bind, h, Result.andThen_ok, Sem.run_pure], .one _ _ rfl (.bool _)⟩
theorem RV.aggd {c : Ctx} {d : Kd} (hd : d.isAgg = true) {x : AV} {a : d.T} (h : d.of x = some a) {X : Value} (hx : RV c x X) (hag : x.isAgg = true) : ∃ cs, X = .agg cs ∧ Reads c.ok c.hp d a cs.toList := by
  cases hx with
  | one _ _ h0 => rw [hag] at h0; cases h0
  | agg _ cs _ hc => exact ⟨cs, rfl, Kd.of_sound h hc⟩
  | tuple => cases hag
theorem pEq_sound (hC : CfgOK P C) {op : BinOp} {t : TypeId} {x y v : AV} (h : pEq C op t x y = some v) {c : Ctx} {X Y : Value} (hx : RV c x X) (hy : RV c y Y) (p q : Operand) (w : World) :
    ∃ V, (do eqGuard op t p q X Y; binOp op t X Y : Sem Value).run P w = .ok V w ∧ RV c v V := by
  have hnp : ∀ {e : TypeId} (d : Nat) (b : Option Addr), P.underlying t = some (.pointer e) → (Op.equalIn (d + 1) t (.pointer none) (.pointer b)).run P w = .ok b.isNone w := by
    intro e d b hu
    simp only [Op.equalIn, Sem.run_bind, run_underlying hu, Result.andThen_ok]
    rfl
  have hpn : ∀ {e : TypeId} (d : Nat) (a : Addr), P.underlying t = some (.pointer e) → (Op.equalIn (d + 1) t (.pointer (some a)) (.pointer none)).run P w = .ok false w := by
    intro e d a hu
    simp only [Op.equalIn, Sem.run_bind, run_underlying hu, Result.andThen_ok]
    rfl
  have hbop : ∀ (a b : Option Addr), (op = .eql ∨ op = .neq) → binOp op t (.pointer a) (.pointer b) = eqSem op t (.pointer a) (.pointer b) := by
    intro a b ho
    rcases ho with rfl | rfl <;> (cases a <;> cases b <;> rfl)
  have hop : ∀ {b : Bool} {u : AV}, eqOp op b = some u → op = .eql ∨ op = .neq := by
    intro b u hu
    cases op <;> simp only [eqOp, reduceCtorEq] at hu <;> simp
  unfold pEq at h
  split at h
  · rename_i a b ha hb
    obtain ⟨A, rfl, hA⟩ := hx.ptrK ha
    obtain ⟨B, rfl, hB⟩ := hy.ptrK hb
    unfold pEqP at h
    split at h
    · rename_i ht
      obtain ⟨e, hu⟩ := Cfg.isPtrT_ok hC.ty ht.1
      have hr : (Op.equal t (.pointer A) (.pointer B)).run P w = .ok (a && b) w := by
        cases A with
        | none =>
          have : a = true := hA.symm
          subst this
          rw [Bool.true_and, ← hB]
          exact hnp 9999 B hu
        | some A =>
          have : a = false := hA.symm
          subst this
          cases B with
          | none => exact hpn 9999 A hu
          | some B =>
            have : b = false := hB.symm
            subst this
            cases ht.2
      exact run_eqOp h (fun x y => by rw [eqGuard_at_pointer]; rfl) hr (hbop _ _ (hop h)) p q
    · cases h
  · split at h
    · rename_i a b ha hb
      have h1 := hx.boolK ha
      have h2 := hy.boolK hb
      subst h1 h2
      unfold pEqB at h
      split at h
      · rename_i i hi
        have htd := (hC.ty t i hi).td
        split at h
        · rename_i htd'
          rw [htd'] at htd
          refine run_eqOp h (fun x y => by rw [eqGuard_at_bool]; rfl) (run_equalIn_bool w 9999 t a b htd) ?_ p q
          rcases hop h with rfl | rfl <;> rfl
        · cases h
      · cases h
    · unfold pEqA at h
      split at h
      · rename_i d hd
        obtain ⟨h1, h2, h3, h4⟩ := hC.eq t d hd
        split at h
        · rename_i a b ha hb
          split at h
          · rename_i hag
            obtain ⟨cs, rfl, r1⟩ := hx.aggd h4 ha hag.1
            obtain ⟨ds, rfl, r2⟩ := hy.aggd h4 hb hag.2
            have he := run_eqT (P := P) (ok := c.ok) (hp := c.hp) d t 10000 h3 h1 w a b (.agg cs) (.agg ds) (by unfold RVd; rw [if_pos h4]; exact ⟨cs, rfl, r1⟩) (by unfold RVd; rw [if_pos h4]; exact ⟨ds, rfl, r2⟩)
            refine run_eqOp h (fun x y => run_eqGuard_agg w op t x y cs ds h2) he ?_ p q
            rcases hop h with rfl | rfl <;> rfl
          · cases h
        · cases h
      · cases h
theorem sound_bin2 (hC : CfgOK P C) {op : BinOp} {t : TypeId} {x y : Operand} {t' : TypeId} (ho : o.op = .binOp op t x y t') (h : (pBin2 C op t (S.ev C.G x) (S.ev C.G y)).run S.blk = some (r, l)) (hob : ∀ q ∈ r.obs, q) : OpOK P C.G C.pin o S r := by
  unfold pBin2 at h
  split at h
  · rename_i u v hx hy
    split at h
    · rename_i z obs hz
      have := HP.run_ret h
      subst this
      refine OpOK.val fun E ρ a w hG hR => ?_
      rw [← hG] at hx hy
      obtain ⟨V, h1, h2⟩ := binAV_sound hz hob (hR.ev hx) (hR.ev hy) P t x y w
      refine ⟨V, ?_, h2⟩
      unfold execOp
      simp only [ho]
      rw [Sem.run_bind, h1]; rfl
    · unfold retV at h
      split at h
      · rename_i z hz
        have := HP.run_ret h
        subst this
        refine OpOK.val fun E ρ a w hG hR => ?_
        rw [← hG] at hx hy
        obtain ⟨V, h1, h2⟩ := pEq_sound hC hz (hR.ev hx) (hR.ev hy) x y w
        refine ⟨V, ?_, h2⟩
        unfold execOp
        simp only [ho]
        rw [Sem.run_bind, h1]; rfl
      · cases h
  · cases h
def evL (ev : Operand → Option AV) : List Operand → Option (List AV)
  | [] => some []
  | x :: r => match ev x, evL ev r with | some v, some l => some (v :: l) | _, _ => none
theorem evL_sound {c : Ctx} {ev : Operand → Option AV} {ρv : Operand → Value} (hev : ∀ x v, ev x = some v → RV c v (ρv x)) : ∀ {xs : List Operand} {l : List AV}, evL ev xs = some l → RVs c l (xs.map ρv)
  | [], l, h => by injection h with h; subst h; exact .nil
  | x :: r, l, h => by
    simp only [evL] at h
    split at h
    · rename_i v l' h1 h2
      injection h with h
      subst h
      exact .cons _ _ _ _ (hev x v h1) (evL_sound hev h2)
    · cases h
theorem RVs.append {c : Ctx} : ∀ {l m : List AV} {x y : List Value}, RVs c l x → RVs c m y → RVs c (l ++ m) (x ++ y)
  | _, _, _, _, .nil, h => h
  | _, _, _, _, .cons v r x y hv hr, h => .cons _ _ _ _ hv (hr.append h)
def pCall (C : Cfg2) (f : Option AV) (args : Option (List AV)) (nb : Nat) : HP Res :=
  match f, args with
  | some (.func (.func fid) first captured), some as => match C.fn fid with
    | some sum => (sum (first ++ as ++ captured) nb).bind fun r => if r.kill.all (fun k => !C.pin.contains k) = true then .ret r else .fail
    | none => .fail
  | _, _ => .fail
theorem sound_call (hC : CfgOK P C) {c : Call} {fo : Operand} {nb : Nat} (ho : o.op = .call c) (hf : c.callee = .value fo) (h : (pCall C (S.ev C.G fo) (evL (S.ev C.G) c.args.toList) nb).run S.blk = some (r, l)) (hob : ∀ q ∈ r.obs, q)
    (hnew : ∀ j, j < r.new → S.blk (nb + j) = .unborn) : OpOK P C.G C.pin o S r := by
  unfold pCall at h
  split at h
  · rename_i fid first captured as hfo has
    split at h
    · rename_i sum hsum
      obtain ⟨r', l1, l2, h1, h2, h3⟩ := HP.run_bind h
      split at h2
      · rename_i hk
        have := HP.run_ret h2
        subst this
        intro E ρ a w hG hpin hR next Q hn
        rw [← hG] at hfo has
        obtain ⟨xs, ys, heq, hxs, hys⟩ := (hR.ev hfo).func_inv
        have hargs := evL_sound (fun x v hv => hR.ev hv) has
        have hkill : ∀ k ∈ r.kill, ¬ E.pin k := fun k hkk hp => by
          have h9 := hpin k hp
          have h8 := List.all_eq_true.1 hk k hkk
          have : C.pin.contains k = true := by simpa using h9
          rw [this] at h8; cases h8
        have e1 : xs.toArray ++ Array.map a.eval c.args ++ ys.toArray = (xs ++ c.args.toList.map a.eval ++ ys).toArray := by
          apply Array.ext'; simp
        rcases hC.fn fid sum hsum with hF | hF
        · have hcalls := hF.calls S _ nb r l1 h1 hob hnew E ρ a w hG hkill hR _ ((hxs.append hargs).append hys)
          have hrun : (execOp a.eval o).run P w = .ok (.enter fid (xs ++ c.args.toList.map a.eval ++ ys).toArray) w := by
            unfold execOp
            simp only [ho, resolve, hf, heq, Deferred.ofValue, Sem.run_bind, Sem.run_pure, Result.andThen_ok, invoke]
            rw [e1, hF.enter]
          unfold Oper.wp
          rw [hrun, Oper.upon_enter]
          refine hcalls.mono fun e w' hh => ?_
          obtain ⟨v, ρ', rfl, hrel⟩ := hh
          exact hn ρ' _ _ (hrel o.dst)
        · obtain ⟨v, w', ρ', hcall, hrel⟩ := hF.run S _ nb r l1 h1 hob hnew E ρ a w hG hkill hR _ ((hxs.append hargs).append hys)
          have hrun : (execOp a.eval o).run P w = .ok (.value v) w' := by
            unfold execOp
            simp only [ho, resolve, hf, heq, Deferred.ofValue, Sem.run_bind, Sem.run_pure, Result.andThen_ok, invoke]
            rw [e1, hcall]
          unfold Oper.wp
          rw [hrun, Oper.upon_value]
          exact hn ρ' _ _ (hrel o.dst)
      · cases h2
    · cases h
  · cases h
def pMakeFunc (fn : Fn) (first captured : Option (List AV)) : HP Res :=
  match first, captured with
  | some a, some b => .ret { v := some (.func fn a b) }
  | _, _ => .fail
theorem sound_makeFunc {fn : Fn} {first captured : Array Operand} (ho : o.op = .makeFunc fn first captured) (h : (pMakeFunc fn (evL (S.ev C.G) first.toList) (evL (S.ev C.G) captured.toList)).run S.blk = some (r, l)) : OpOK P C.G C.pin o S r := by
  unfold pMakeFunc at h
  split at h
  · rename_i as bs ha hb
    have := HP.run_ret h
    subst this
    refine OpOK.val fun E ρ a w hG hR => ?_
    rw [← hG] at ha hb
    have h1 := evL_sound (fun x v hv => hR.ev hv) ha
    have h2 := evL_sound (fun x v hv => hR.ev hv) hb
    refine ⟨.func fn (first.toList.map a.eval).toArray (captured.toList.map a.eval).toArray, ?_, .one _ _ rfl (.func _ _ _ _ _ h1 h2)⟩
    unfold execOp
    simp only [ho, Instr.makeFunc, Sem.run_bind, Sem.run_pure, Result.andThen_ok]
    congr 3 <;> (apply Array.ext'; simp)
  · cases h
def minT : (k : IntKind) → IntT k → IntT k → IntT k
  | .u8, x, y => (bif decide (y < x) then y else x : UInt8) | .u16, x, y => (bif decide (y < x) then y else x : UInt16) | .u32, x, y => (bif decide (y < x) then y else x : UInt32) | .u64, x, y => (bif decide (y < x) then y else x : UInt64)
  | .i8, x, y => (bif decide (y < x) then y else x : Int) | .i16, x, y => (bif decide (y < x) then y else x : Int) | .i32, x, y => (bif decide (y < x) then y else x : Int) | .i64, x, y => (bif decide (y < x) then y else x : Int)
theorem minT_i64 (x y : Int) : minT .i64 x y = (bif decide (y < x) then y else x) := rfl
theorem minT_u64 (x y : UInt64) : minT .u64 x y = (bif decide (y < x) then y else x) := rfl
def pMin (x y : Option AV) : HP Res :=
  match x, y with
  | some (.int .i64 a), some (.int .i64 b) => .ret { v := some (.int .i64 (minT .i64 a b)) }
  | some (.int .u64 a), some (.int .u64 b) => .ret { v := some (.int .u64 (minT .u64 a b)) }
  | _, _ => .fail
theorem sound_min {x y : Operand} {t u : TypeId} (ho : o.op = .call { callee := .builtin .min, args := #[x, y], argTypes := #[t, u] }) (h : (pMin (S.ev C.G x) (S.ev C.G y)).run S.blk = some (r, l)) : OpOK P C.G C.pin o S r := by
  have key : ∀ (k k' : IntKind) (m n : Int) (a : Act) (w : World), a.eval x = .int k m → a.eval y = .int k' n → (execOp a.eval o).run P w = .ok (.value (.int k (if n < m then n else m))) w := by
    intro k k' m n a w e1 e2
    obtain ⟨cs, hcs⟩ := exec_builtin2 (P := P) ho a w
    rw [hcs, e1, e2]
    have hm : (Builtin.min_ #[t, u] o.type #[.int k m, .int k' n]).run P w = .ok (.int k (if n < m then n else m)) w := by
      simp [Builtin.min_, Builtin.min2]
    simp only [builtin, Sem.run_bind, hm, Result.andThen_ok, Sem.run_pure]
  unfold pMin at h
  split at h
  · rename_i m n h1 h2
    have := HP.run_ret h
    subst this
    refine OpOK.val fun E ρ a w hG hR => ?_
    rw [← hG] at h1 h2
    have e1 := (hR.ev h1).int_inv
    have e2 := (hR.ev h2).int_inv
    refine ⟨_, key _ _ _ _ a w e1 e2, .one _ _ rfl ?_⟩
    have e : (if toI .i64 n < toI .i64 m then toI .i64 n else toI .i64 m) = toI .i64 (minT .i64 m n) := by
      rw [minT_i64]
      show (if (n : Int) < m then (n : Int) else m) = (bif decide (n < m) then n else m : Int)
      by_cases hh : n < m
      · rw [if_pos hh, decide_eq_true hh]; rfl
      · rw [if_neg hh, decide_eq_false hh]; rfl
    rw [e]
    exact .int .i64 _
  · rename_i m n h1 h2
    have := HP.run_ret h
    subst this
    refine OpOK.val fun E ρ a w hG hR => ?_
    rw [← hG] at h1 h2
    have e1 := (hR.ev h1).int_inv
    have e2 := (hR.ev h2).int_inv
    refine ⟨_, key _ _ _ _ a w e1 e2, .one _ _ rfl ?_⟩
    have e : (if toI .u64 n < toI .u64 m then toI .u64 n else toI .u64 m) = toI .u64 (minT .u64 m n) := by
      rw [minT_u64]
      show (if ((UInt64.toNat n : Nat) : Int) < ((UInt64.toNat m : Nat) : Int) then ((UInt64.toNat n : Nat) : Int) else ((UInt64.toNat m : Nat) : Int)) = ((UInt64.toNat (bif decide (n < m) then n else m) : Nat) : Int)
      by_cases hh : n < m
      · rw [if_pos (by exact_mod_cast UInt64.lt_iff_toNat_lt.1 hh), decide_eq_true hh]; rfl
      · rw [if_neg (fun q => hh (UInt64.lt_iff_toNat_lt.2 (by exact_mod_cast q))), decide_eq_false hh]; rfl
    rw [e]
    exact .int .u64 _
  · cases h
def pBuiltin (C : Cfg2) (ev : Operand → Option AV) (nb : Nat) (b : Builtin) (args : List Operand) (ts : List TypeId) : HP Res :=
  match b, args, ts with
  | .len, [x], [t] => pLen C.toCfg t (ev x)
  | .append, [x, y], [t, u] => (pAppend C.toCfg t u (ev x) (ev y) nb).bind fun r => relRes C.toCfg t r
  | .copy, [x, y], [t, u] => pCopy C.toCfg t u (ev x) (ev y)
  | .min, [x, y], [_, _] => pMin (ev x) (ev y)
  | _, _, _ => .fail
def opProg (C : Cfg2) (ev : Operand → Option AV) (nb : Nat) (o : Oper) : HP Res :=
  match o.op with
  | .move x => retV (ev x)
  | .assign x => retV (ev x)
  | .pick c a b => pPick (ev c) (ev a) (ev b)
  | .alloc e => pAlloc C.toCfg e nb
  | .box _ x => pBox (ev x) nb
  | .build t ps => pBuild C.toCfg ev t ps
  | .buildSlice t n ps => pBuildSlice C.toCfg ev t n ps nb
  | .load t x => pLoad C.toCfg t (ev x)
  | .store t x y => pStore C.toCfg t (ev x) (ev y)
  | .nilCheck x => pNil (ev x)
  | .binOp op t x y _ => pBin2 C op t (ev x) (ev y)
  | .unOp op _ x => pUn op (ev x)
  | .convert s d x => if C.isBytes d = true then (if C.isBytes s = true then pConvS C.toCfg s d (ev x) else (pBytes C.toCfg s d (ev x) nb).bind fun r => relRes C.toCfg d r) else pConvert C.toCfg s d (ev x)
  | .sliceToArrayPointer t x => pArrPtr C.toCfg t (ev x)
  | .slice t x lo hi none => pSlice C.toCfg t (ev x) (lo.map ev) (hi.map ev)
  | .fieldAddr t x f => pFieldAddr C.toCfg t (ev x) f
  | .field t x f => pField C.toCfg t (ev x) f
  | .indexAddr t x i => pIndexAddr C.toCfg t (ev x) (ev i)
  | .index t x i => pIndexS C.toCfg t (ev x) (ev i)
  | .extract x i => pExtract (ev x) i
  | .makeSlice t x y => pMakeSlice C.toCfg t (ev x) (ev y) nb
  | .makeFunc fn a b => pMakeFunc fn (evL ev a.toList) (evL ev b.toList)
  | .call c => match c.callee with
    | .value f => pCall C (ev f) (evL ev c.args.toList) nb
    | .builtin b => pBuiltin C ev nb b c.args.toList c.argTypes.toList
    | _ => .fail
  | .makeMap t none => pMakeMap C.toCfg t nb
  | .lookup t x k false => pLookup C.toCfg t (ev x) (ev k)
  | .mapUpdate t x k u => pUpdate C.toCfg t (ev x) (ev k) (ev u)
  | _ => .fail
theorem HP.new0 {v : Option AV} {obs : List Prop} : ({ v := v, obs := obs } : Res).new = 0 := rfl
theorem toArray_of {α : Type} {a : Array α} {l : List α} (h : a.toList = l) : a = l.toArray := by subst h; rfl
theorem opProg_sound (hC : CfgOK P C) {nb : Nat} (h : (opProg C (S.ev C.G) nb o).run S.blk = some (r, l)) (hob : ∀ q ∈ r.obs, q) (hnew : ∀ j, j < r.new → S.blk (nb + j) = .unborn) : OpOK P C.G C.pin o S r := by
  have hT := hC.ty
  have hnb : 0 < r.new → S.blk nb = .unborn := fun h => hnew 0 h
  unfold opProg at h
  split at h
  case h_1 x ho => exact sound_retV (C := C.toCfg) (fun a w => by unfold execOp; simp only [ho]; rfl) h
  case h_2 x ho => exact sound_retV (C := C.toCfg) (fun a w => by unfold execOp; simp only [ho]; rfl) h
  case h_3 c a b ho => exact sound_pick (C := C.toCfg) ho h
  case h_4 e ho => exact sound_alloc (C := C.toCfg) hT hnb ho h
  case h_5 e x ho => exact sound_box (C := C.toCfg) hnb ho h
  case h_6 t ps ho => exact sound_build (C := C.toCfg) hT ho h hob
  case h_7 t n ps ho => exact sound_buildSlice (C := C.toCfg) hT hnb ho h hob
  case h_8 t x ho => exact sound_load (C := C.toCfg) hT ho h hob
  case h_9 t x y ho => exact sound_store (C := C.toCfg) hT ho h hob
  case h_10 x ho => exact sound_nil (C := C.toCfg) ho h
  case h_11 op t x y u ho => exact sound_bin2 hC ho h hob
  case h_12 op t x ho => exact sound_un (C := C.toCfg) ho h
  case h_13 s d x ho =>
    split at h
    · split at h
      · exact sound_convS (C := C.toCfg) hT ho h hob
      · (obtain ⟨r1, l1, l2, k1, k2, k3⟩ := HP.run_bind h
         exact sound_rel (sound_bytes (C := C.toCfg) hT (fun q => hnb (by rw [relRes_new k2]; exact q)) ho k1 (fun q hq => hob q (by rw [relRes_obs k2]; exact hq))) k2)
    · exact sound_convert (C := C.toCfg) hT ho h hob
  case h_14 t x ho => exact sound_arrPtr (C := C.toCfg) hT ho h hob
  case h_15 t x lo hi ho => exact sound_slice (C := C.toCfg) hT ho h hob
  case h_16 t x f ho => exact sound_fieldAddr (C := C.toCfg) hT ho h
  case h_17 t x f ho => exact sound_field (C := C.toCfg) hT ho h hob
  case h_18 t x i ho => exact sound_indexAddr (C := C.toCfg) hT ho h hob
  case h_19 t x i ho => exact sound_index (C := C.toCfg) hT ho h hob
  case h_20 x i ho => exact sound_extract (C := C.toCfg) ho h
  case h_21 t x y ho => exact sound_makeSlice (C := C.toCfg) hT hnb ho h hob
  case h_22 fn a b ho => exact sound_makeFunc ho h
  case h_23 c ho =>
    split at h
    · rename_i f hf
      exact sound_call hC ho hf h hob hnew
    · rename_i b hb
      obtain ⟨callee, args, argTypes⟩ := c
      simp only at hb h
      subst hb
      unfold pBuiltin at h
      split at h
      · rename_i x t h1 h2
        have e1 := toArray_of h1
        have e2 := toArray_of h2
        subst e1 e2
        exact sound_len (C := C.toCfg) hT ho h
      · rename_i x y t u h1 h2
        have e1 := toArray_of h1
        have e2 := toArray_of h2
        subst e1 e2
        obtain ⟨r1, l1, l2, k1, k2, k3⟩ := HP.run_bind h
        exact sound_rel (sound_append (C := C.toCfg) hT (fun q => hnb (by rw [relRes_new k2]; exact q)) ho k1 (fun q hq => hob q (by rw [relRes_obs k2]; exact hq))) k2
      · rename_i x y t u h1 h2
        have e1 := toArray_of h1
        have e2 := toArray_of h2
        subst e1 e2
        exact sound_copy (C := C.toCfg) hT ho h hob
      · rename_i x y t u h1 h2
        have e1 := toArray_of h1
        have e2 := toArray_of h2
        subst e1 e2
        exact sound_min ho h
      · cases h
    · cases h
  case h_24 t ho => exact sound_makeMap (C := C.toCfg) hT hnb ho h
  case h_25 t x k ho => exact sound_lookup (C := C.toCfg) hT ho h hob
  case h_26 t x k u ho => exact sound_update (C := C.toCfg) hT ho h hob
  case h_27 => cases h
end
end Go.Vc

namespace Go.Vc
def AS.gval (S : AS) (ops : Array Oper) (j : Nat) : Option AV :=
  match (ops[j]?).bind (·.dst) with
  | some d => S.tmps.getD d none
  | none => some (.tuple [])
def wantedA (ops : Array Oper) (S : AS) (o : Oper) : Option Bool :=
  match o.guard with
  | none => some true
  | some (j, want) => match S.gval ops j with
    | some (.bool b) => some (b == want)
    | some (.tuple _) => some false
    | _ => none
theorem Rel.tmp {E : Env} {ρ : Nat → Option (Nat × Nat)} {S : AS} {a : Act} {w : World} (h : Rel E ρ S a w) {t : Nat} {v : AV} (hv : S.tmps.getD t none = some v) : ∃ V, a.tmps[t]? = some V ∧ RV (ctx E ρ S.blk w) v V := by
  refine h.tm t v ?_
  rw [List.getD_eq_getElem?_getD] at hv
  cases hx : S.tmps[t]? with
  | none => rw [hx] at hv; cases hv
  | some y => rw [hx] at hv; simp only [Option.getD_some] at hv; rw [hv]
theorem wantedA_sound {E : Env} {ρ : Nat → Option (Nat × Nat)} {S : AS} {a : Act} {w : World} (hR : Rel E ρ S a w) {ops : Array Oper} {o : Oper} {b : Bool} (h : wantedA ops S o = some b) : Region.wanted o (yielded ops a.tmps) = b := by
  unfold wantedA at h
  unfold Region.wanted
  split at h
  · rename_i hg
    rw [hg]
    injection h with h
  · rename_i j want hg
    rw [hg]
    simp only
    unfold AS.gval at h
    unfold yielded
    cases hd : (ops[j]?).bind (·.dst) with
    | none =>
      rw [hd] at h
      injection h with h
    | some d =>
      rw [hd] at h
      simp only at h
      split at h
      · rename_i b' hb'
        obtain ⟨V, h1, h2⟩ := hR.tmp hb'
        have := h2.bool_inv
        subst this
        injection h with h
        subst h
        simp only [Option.bind_some, h1]
        cases b' <;> cases want <;> rfl
      · rename_i l hl
        obtain ⟨V, h1, h2⟩ := hR.tmp hl
        obtain ⟨x, rfl, _⟩ := h2.tuple_inv
        injection h with h
        subst h
        simp only [Option.bind_some, h1]
        rfl
      · cases h
theorem Rel.skip {E : Env} {ρ : Nat → Option (Nat × Nat)} {S : AS} {a : Act} {w : World} (hR : Rel E ρ S a w) (dst : Option Nat) : Rel E ρ (S.put dst (some (.tuple []))) (a.put dst undef) w :=
  hR.put dst _ _ fun u hu => by
    injection hu with hu
    subst hu
    exact .tuple [] [] .nil
section
variable {P : Program} {C : Cfg2}
def runOps (C : Cfg2) (ops : Array Oper) : List Oper → AS → Option (AS × List Prop)
  | [], S => some (S, [])
  | o :: rest, S => match wantedA ops S o with
    | some true => match (opProg C (S.ev C.G) S.heap.length o).run S.blk with
      | some (r, _) => match runOps C ops rest (S.app o.dst r) with
        | some (S', obs) => some (S', r.obs ++ obs)
        | none => none
      | none => none
    | some false => runOps C ops rest (S.put o.dst (some (.tuple [])))
    | none => none
theorem blk_fresh (S : AS) (j : Nat) : S.blk (S.heap.length + j) = .unborn := by
  simp only [AS.blk, List.getD_eq_getElem?_getD]
  rw [List.getElem?_eq_none (by omega)]; rfl
theorem runOps_sound (hC : CfgOK P C) {ops : Array Oper} {Q : Exit → Act → World → Prop} : ∀ {L : List Oper} {S S' : AS} {obs : List Prop}, runOps C ops L S = some (S', obs) → (∀ q ∈ obs, q) →
    ∀ (E : Env) (ρ : Nat → Option (Nat × Nat)) (a : Act) (w : World), E.glob = C.G → (∀ id, E.pin id → id ∈ C.pin) → Rel E ρ S a w → (∀ ρ' a' w', Rel E ρ' S' a' w' → Q .normal a' w') → wpList P ops Q L a w
  | [], S, S', obs, h, ho, E, ρ, a, w, hG, hp, hR, hQ => by
    simp only [runOps, Option.some.injEq, Prod.mk.injEq] at h
    rw [← h.1] at hQ
    exact hQ ρ a w hR
  | o :: rest, S, S', obs, h, ho, E, ρ, a, w, hG, hp, hR, hQ => by
    simp only [runOps] at h
    split at h
    · rename_i hw
      split at h
      · rename_i r l hr
        split at h
        · rename_i S2 obs2 hrest
          simp only [Option.some.injEq, Prod.mk.injEq] at h
          obtain ⟨e1, e2⟩ := h
          subst e1 e2
          have hok := opProg_sound hC hr (fun q hq => ho q (List.mem_append_left _ hq)) (fun j _ => blk_fresh S j)
          unfold wpList
          rw [if_pos (wantedA_sound hR hw)]
          left
          exact hok E ρ a w hG hp hR _ _ fun ρ' a' w' hR' => runOps_sound hC hrest (fun q hq => ho q (List.mem_append_right _ hq)) E ρ' a' w' hG hp hR' hQ
        · cases h
      · cases h
    · rename_i hw
      unfold wpList
      rw [if_neg (by rw [wantedA_sound hR hw]; simp)]
      exact runOps_sound hC h ho E ρ _ w hG hp (hR.skip o.dst) hQ
    · cases h
end
end Go.Vc

namespace Go.Vc
section
variable {P : Program} {C : Cfg2}
def Tri (P : Program) (C : Cfg2) (S : AS) (c : Code) (Q : Exit → AS → Prop) : Prop :=
  ∀ (E : Env) (ρ : Nat → Option (Nat × Nat)) (a : Act) (w : World), E.glob = C.G → (∀ id, E.pin id → id ∈ C.pin) → Rel E ρ S a w →
    c.wp P (fun e a' w' => ∃ S' ρ', Q e S' ∧ Rel E ρ' S' a' w') a w
def Wk (C : Cfg2) (S S' : AS) : Prop :=
  ∀ (E : Env) (ρ : Nat → Option (Nat × Nat)) (a : Act) (w : World), E.glob = C.G → (∀ id, E.pin id → id ∈ C.pin) → Rel E ρ S a w → ∃ ρ', Rel E ρ' S' a w
theorem Wk.refl (S : AS) : Wk C S S := fun E ρ a w _ _ h => ⟨ρ, h⟩
theorem Wk.trans {S S' S'' : AS} (h : Wk C S S') (k : Wk C S' S'') : Wk C S S'' := fun E ρ a w hG hp hR =>
  let ⟨ρ', h'⟩ := h E ρ a w hG hp hR
  k E ρ' a w hG hp h'
theorem Tri.mono {S : AS} {c : Code} {Q Q' : Exit → AS → Prop} (h : Tri P C S c Q) (hq : ∀ e S', Q e S' → Q' e S') : Tri P C S c Q' :=
  fun E ρ a w hG hp hR => wp_mono (h E ρ a w hG hp hR) fun e a' w' ⟨S', ρ', h1, h2⟩ => ⟨S', ρ', hq _ _ h1, h2⟩
theorem Tri.weak {S S' : AS} {c : Code} {Q : Exit → AS → Prop} (hw : Wk C S S') (h : Tri P C S' c Q) : Tri P C S c Q := fun E ρ a w hG hp hR =>
  let ⟨ρ', h'⟩ := hw E ρ a w hG hp hR
  h E ρ' a w hG hp h'
def Then (K : AS → Prop) (Q : Exit → AS → Prop) : Exit → AS → Prop
  | .normal, S => K S
  | e, S => Q e S
def InBlock (id : Nat) (Q : Exit → AS → Prop) : Exit → AS → Prop
  | .exit id', S => if id' = id then Q .normal S else Q (.exit id') S
  | e, S => Q e S
theorem Tri.skip {S : AS} {Q : Exit → AS → Prop} (h : Q .normal S) : Tri P C S .skip Q := fun E ρ a w _ _ hR => wp_skip ⟨S, ρ, h, hR⟩
theorem Tri.label {S : AS} {l : Nat} {Q : Exit → AS → Prop} (h : Q .normal S) : Tri P C S (.label l) Q := fun E ρ a w _ _ hR => wp_label ⟨S, ρ, h, hR⟩
theorem Tri.exit {S : AS} {id : Nat} {Q : Exit → AS → Prop} (h : Q (.exit id) S) : Tri P C S (.exit id) Q := fun E ρ a w _ _ hR => wp_exit ⟨S, ρ, h, hR⟩
theorem Tri.ret {S : AS} {Q : Exit → AS → Prop} (h : Q .ret S) : Tri P C S .ret Q := fun E ρ a w _ _ hR => wp_ret ⟨S, ρ, h, hR⟩
theorem Tri.seq {S : AS} {x y : Code} {Q : Exit → AS → Prop} (h : Tri P C S x (Then (fun S' => Tri P C S' y Q) Q)) : Tri P C S (.seq x y) Q := fun E ρ a w hG hp hR =>
  wp_seq (wp_mono (h E ρ a w hG hp hR) fun e a' w' ⟨S', ρ', h1, h2⟩ => by
    cases e with
    | normal => exact h1 E ρ' a' w' hG hp h2
    | _ => exact ⟨S', ρ', h1, h2⟩)
theorem Tri.cond {S : AS} {o : Operand} {x y : Code} {b : Bool} {Q : Exit → AS → Prop} (hc : S.ev C.G o = some (.bool b)) (h : Tri P C S (if b then x else y) Q) : Tri P C S (.cond o x y) Q := fun E ρ a w hG hp hR => by
  rw [← hG] at hc
  have h1 := hR.ev hc
  exact wp_cond h1.bool_inv (h E ρ a w hG hp hR)
theorem Tri.split {S : AS} {o : Operand} {x y : Code} {b : Bool} {Q : Exit → AS → Prop} (hc : S.ev C.G o = some (.bool b)) (ht : b = true → Tri P C S x Q) (hf : b = false → Tri P C S y Q) : Tri P C S (.cond o x y) Q := by
  refine Tri.cond hc ?_
  cases b
  · exact hf rfl
  · exact ht rfl
theorem Tri.block {S : AS} {id : Nat} {c : Code} {Q : Exit → AS → Prop} (h : Tri P C S c (InBlock id Q)) : Tri P C S (.block id c) Q := fun E ρ a w hG hp hR =>
  wp_block (wp_mono (h E ρ a w hG hp hR) fun e a' w' ⟨S', ρ', h1, h2⟩ => by
    cases e with
    | exit id' =>
      simp only [InBlock] at h1
      simp only [Exit.inBlock]
      split <;> rename_i hid
      · rw [if_pos hid] at h1; exact ⟨S', ρ', h1, h2⟩
      · rw [if_neg hid] at h1; exact ⟨S', ρ', h1, h2⟩
    | _ => exact ⟨S', ρ', h1, h2⟩)
theorem Tri.loop {σ : Type} (I : σ → AS) (K : σ → Prop) (μ : σ → Nat) (s0 : σ) {S : AS} {c : Code} {Q : Exit → AS → Prop} (h0 : Wk C S (I s0)) (hk : K s0)
    (round : ∀ s, K s → Tri P C (I s) c (Then (fun S' => ∃ s', K s' ∧ μ s' < μ s ∧ Wk C S' (I s')) Q)) : Tri P C S (.loop c) Q := fun E ρ a w hG hp hR => by
  classical
  let J : Act → World → Prop := fun a w => ∃ s ρ, K s ∧ Rel E ρ (I s) a w
  let ν : Act → World → Nat := fun a w => if h : ∃ n, ∃ s ρ, K s ∧ μ s = n ∧ Rel E ρ (I s) a w then Classical.choose h else 0
  -- the least measure of all that fit
  let good : Act → World → Nat → Prop := fun a w n => ∃ s ρ, K s ∧ μ s = n ∧ Rel E ρ (I s) a w
  have least : ∀ a w, J a w → ∃ n, good a w n ∧ ∀ m, good a w m → n ≤ m := by
    intro a w ⟨s, ρ, hs, hr⟩
    have key : ∀ k, good a w k → ∃ n, good a w n ∧ ∀ m, good a w m → n ≤ m := by
      intro k
      induction k using Nat.strongRecOn with
      | _ k ih =>
        intro hk
        by_cases hx : ∃ m, m < k ∧ good a w m
        · obtain ⟨m, hm, hg⟩ := hx
          exact ih m hm hg
        · exact ⟨k, hk, fun m hm => Nat.le_of_not_lt fun hlt => hx ⟨m, hlt, hm⟩⟩
    exact key _ ⟨s, ρ, hs, rfl, hr⟩
  let M : Act → World → Nat := fun a w => if h : J a w then Classical.choose (least a w h) else 0
  obtain ⟨ρ0, hR0⟩ := h0 E ρ a w hG hp hR
  refine wp_loop J M ⟨s0, ρ0, hk, hR0⟩ fun a w hJ => ?_
  obtain ⟨⟨s, ρ1, hks, hms, hr1⟩, hmin⟩ := Classical.choose_spec (least a w hJ)
  have hM : M a w = μ s := by simp only [M, dif_pos hJ]; exact hms.symm
  refine wp_mono (round s hks E ρ1 a w hG hp hr1) fun e a' w' ⟨S', ρ', h1, h2⟩ => ?_
  cases e with
  | normal =>
    obtain ⟨s', hk', hlt, hwk⟩ := h1
    obtain ⟨ρ2, hr2⟩ := hwk E ρ' a' w' hG hp h2
    have hJ' : J a' w' := ⟨s', ρ2, hk', hr2⟩
    refine ⟨hJ', ?_⟩
    rw [hM]
    have hle := (Classical.choose_spec (least a' w' hJ')).2 (μ s') ⟨s', ρ2, hk', rfl, hr2⟩
    have : M a' w' ≤ μ s' := by simp only [M, dif_pos hJ']; exact hle
    omega
  | _ => exact ⟨S', ρ', h1, h2⟩
theorem Tri.region (hC : CfgOK P C) {id : Nat} {l : List Oper} {S S' : AS} {obs : List Prop} {Q : Exit → AS → Prop} (h : runOps C l.toArray l S = some (S', obs)) (ho : ∀ q ∈ obs, q) (hq : Q .normal S') : Tri P C S (.region id l.toArray false) Q :=
  fun E ρ a w hG hp hR => wp_region_lit (runOps_sound hC h ho E ρ a w hG hp hR fun ρ' a' w' hR' => ⟨S', ρ', hq, hR'⟩)
theorem Rel.drew {E : Env} {ρ : Nat → Option (Nat × Nat)} {S : AS} {a : Act} {w : World} (h : Rel E ρ S a w) : Rel E ρ S a { w with drawn := w.drawn + 1 } := h.world rfl rfl rfl rfl
end
def AV.refs : AV → List Nat
  | .ptr id _ _ => [id]
  | .arrp id _ _ _ _ _ => [id]
  | .tsl id _ _ _ _ _ => [id]
  | .map id => [id]
  | .func _ a b => refsL a ++ refsL b
  | .iface _ v => refs v
  | .agg l => refsL l
  | .tuple l => refsL l
  | _ => []
where refsL : List AV → List Nat
  | [] => []
  | v :: r => refs v ++ refsL r
mutual
theorem RC.conv {c c' : Ctx} (hok : ∀ own b, c.ok own b → c.hp b ≠ none → c'.ok own b) (hρ : c'.ρ = c.ρ) (hh : c'.hp = c.hp) : ∀ {v : AV} {cs : List Value}, RC c v cs → (∀ i ∈ v.refs, c'.born i) → RC c' v cs
  | _, _, .int k x, _ => .int k x
  | _, _, .bool b, _ => .bool b
  | _, _, .str l, _ => .str l
  | _, _, .pure d x cs hr, _ => .pure d x cs (hr.mono fun own b h1 h2 => ⟨hok own b h1 h2, by rw [hh]⟩)
  | _, _, .nilp, _ => .nilp
  | _, _, .ptr id path off g o hb hr, h => .ptr id path off g o (h id (List.mem_singleton.2 rfl)) (by rw [hρ]; exact hr)
  | _, _, .arrp id path i off sz n g o hb hr, h => .arrp id path i off sz n g o (h id (List.mem_singleton.2 rfl)) (by rw [hρ]; exact hr)
  | _, _, .ept own d x b o rc el fr flat h1 h2 hr hf, _ => .ept own d x b o rc el fr flat (hok own b h1 (by rw [h2]; exact Option.some_ne_none _)) (by rw [hh]; exact h2) (hr.mono fun own b h1 h2 => ⟨hok own b h1 h2, by rw [hh]⟩) hf
  | _, _, .nilsl, _ => .nilsl
  | _, _, .tsl id path i off sz len g o cap A hb hr hl hA rc el fr h2 hs, h => .tsl id path i off sz len g o cap A (h id (List.mem_singleton.2 rfl)) (by rw [hρ]; exact hr) hl hA rc el fr (by rw [hh]; exact h2) hs
  | _, _, .tslv id path i off sz len hb hr h0, h => .tslv id path i off sz len (h id (List.mem_singleton.2 rfl)) (by rw [hρ]; exact hr) h0
  | _, _, .nmap, _ => .nmap
  | _, _, .map id g hb hr, h => .map id g (h id (List.mem_singleton.2 rfl)) (by rw [hρ]; exact hr)
  | _, _, .nilFunc, _ => .nilFunc
  | _, _, .func fn a b x y ha hb, h => .func fn _ _ x y (RVs.conv hok hρ hh ha fun i hi => h i (List.mem_append_left _ hi)) (RVs.conv hok hρ hh hb fun i hi => h i (List.mem_append_right _ hi))
  | _, _, .nilIface, _ => .nilIface
  | _, _, .iface t v x hv, h => .iface t _ x (RV.conv hok hρ hh hv h)
  | _, _, .agg l cs hl, h => .agg _ cs (RCs.conv hok hρ hh hl h)
  | _, _, .dead x hx, _ => .dead x hx
theorem RCs.conv {c c' : Ctx} (hok : ∀ own b, c.ok own b → c.hp b ≠ none → c'.ok own b) (hρ : c'.ρ = c.ρ) (hh : c'.hp = c.hp) : ∀ {v : List AV} {cs : List Value}, RCs c v cs → (∀ i ∈ AV.refs.refsL v, c'.born i) → RCs c' v cs
  | _, _, .nil, _ => .nil
  | _, _, .cons v r c1 c2 hv hr, h => .cons _ _ c1 c2 (RC.conv hok hρ hh hv fun i hi => h i (List.mem_append_left _ hi)) (RCs.conv hok hρ hh hr fun i hi => h i (List.mem_append_right _ hi))
theorem RV.conv {c c' : Ctx} (hok : ∀ own b, c.ok own b → c.hp b ≠ none → c'.ok own b) (hρ : c'.ρ = c.ρ) (hh : c'.hp = c.hp) : ∀ {v : AV} {x : Value}, RV c v x → (∀ i ∈ v.refs, c'.born i) → RV c' v x
  | _, _, .one v x hv hc, h => .one _ x hv (RC.conv hok hρ hh hc h)
  | _, _, .agg v a hv hc, h => .agg _ a hv (RC.conv hok hρ hh hc h)
  | _, _, .tuple l x hl, h => .tuple _ x (RVs.conv hok hρ hh hl h)
theorem RVs.conv {c c' : Ctx} (hok : ∀ own b, c.ok own b → c.hp b ≠ none → c'.ok own b) (hρ : c'.ρ = c.ρ) (hh : c'.hp = c.hp) : ∀ {v : List AV} {x : List Value}, RVs c v x → (∀ i ∈ AV.refs.refsL v, c'.born i) → RVs c' v x
  | _, _, .nil, _ => .nil
  | _, _, .cons v r x y hv hr, h => .cons _ _ x y (RV.conv hok hρ hh hv fun i hi => h i (List.mem_append_left _ hi)) (RVs.conv hok hρ hh hr fun i hi => h i (List.mem_append_right _ hi))
end
def Slot.born : Slot → Bool | .unborn => false | _ => true
def Slot.refs : Slot → List Nat | .live b => b.refs | _ => []
def AS.closed (S : AS) : Bool :=
  S.tmps.all (fun t => match t with | some v => v.refs.all (fun i => (S.blk i).born) | none => true) && S.heap.all (fun s => s.refs.all fun i => (S.blk i).born)
inductive Less {α : Type} (R : α → α → Prop) : List α → List α → Prop
  | nil : Less R [] []
  | cons (x y : α) (l m : List α) (h : R x y) (r : Less R l m) : Less R (x :: l) (y :: m)
def lessT : Option AV → Option AV → Prop | _, none => True | x, y => x = y
def lessS : Slot → Slot → Prop | _, .unborn => True | x, y => x = y
inductive LessH : List Slot → List Slot → Prop
  | nil (l : List Slot) : LessH l []
  | cons (x y : Slot) (l m : List Slot) (h : lessS x y) (r : LessH l m) : LessH (x :: l) (y :: m)
theorem Less.get {R : Option AV → Option AV → Prop} : ∀ {l m : List (Option AV)}, Less R l m → l.length = m.length ∧ ∀ (i : Nat) (y : Option AV), m[i]? = some y → ∃ x, l[i]? = some x ∧ R x y
  | _, _, .nil => ⟨rfl, fun i y h => by simp at h⟩
  | _, _, .cons x y l m h r => by
    obtain ⟨h1, h2⟩ := r.get
    refine ⟨by simp [h1], fun i z hz => ?_⟩
    cases i with
    | zero => simp only [List.getElem?_cons_zero, Option.some.injEq] at hz; subst hz; exact ⟨x, rfl, h⟩
    | succ i => simp only [List.getElem?_cons_succ] at hz ⊢; exact h2 i z hz
theorem LessH.get : ∀ {l m : List Slot}, LessH l m → ∀ i, m.getD i .unborn = .unborn ∨ m.getD i .unborn = l.getD i .unborn
  | _, _, .nil l, i => .inl (by simp)
  | _, _, .cons x y l m h r, i => by
    cases i with
    | zero =>
      simp only [List.getD_cons_zero]
      cases y with
      | unborn => exact .inl rfl
      | _ => exact .inr (Eq.symm h)
    | succ i => simp only [List.getD_cons_succ]; exact r.get i
theorem Wk.less {C : Cfg2} {S S' : AS} (ht : Less lessT S.tmps S'.tmps) (hh : LessH S.heap S'.heap) (hc : S'.closed = true) (hp : ∀ id ∈ C.pin, (S'.blk id).born = true) : Wk C S S' := by
  intro E ρ a w hG hpin hR
  obtain ⟨hl, ht⟩ := ht.get
  have hb : ∀ id, S'.blk id = .unborn ∨ S'.blk id = S.blk id := fun id => hh.get id
  have hlive : ∀ id b, S'.blk id = .live b → S.blk id = .live b := fun id b h => by
    rcases hb id with h1 | h1
    · rw [h1] at h; cases h
    · rw [← h1]; exact h
  simp only [AS.closed, Bool.and_eq_true, List.all_eq_true] at hc
  obtain ⟨hc1, hc2⟩ := hc
  have hok : ∀ own b, (ctx E ρ S.blk w).ok own b → (ctx E ρ S.blk w).hp b ≠ none → (ctx E ρ S'.blk w).ok own b := fun own b h _ => ⟨fun id bl o hl => h.1 id bl o (hlive id bl hl), h.2⟩
  have hborn : ∀ i, (S'.blk i).born = true → (ctx E ρ S'.blk w).born i := fun i h e => by
    have e' : S'.blk i = .unborn := e
    rw [e'] at h; cases h
  have hcb : ∀ id b, S'.blk id = .live b → ∀ i ∈ b.refs, (ctx E ρ S'.blk w).born i := fun id b h i hi => by
    refine hborn i (hc2 (.live b) ?_ i hi)
    have h1 : S'.heap.getD id .unborn = .live b := h
    rw [List.getD_eq_getElem?_getD] at h1
    cases hx : S'.heap[id]? with
    | none => rw [hx] at h1; cases h1
    | some y => rw [hx] at h1; simp only [Option.getD_some] at h1; rw [h1] at hx; exact List.mem_of_getElem? hx
  refine ⟨ρ, hl ▸ hR.len, hR.df, fun i v hv => ?_, fun id b h => ?_, fun id id' b b' g o o' h h' => hR.inj id id' b b' g o o' (hlive _ _ h) (hlive _ _ h'), fun id b g o h => hR.nf id b g o (hlive _ _ h), hR.fr, fun id h => ?_, fun g pd hg => ?_⟩
  · obtain ⟨x, h1, h2⟩ := ht i _ hv
    simp only [lessT] at h2
    subst h2
    obtain ⟨V, h3, h4⟩ := hR.tm i v h1
    refine ⟨V, h3, h4.conv hok rfl rfl fun j hj => hborn j (List.all_eq_true.1 (hc1 (some v) (List.mem_of_getElem? hv)) j hj)⟩
  · have h1 := hR.hb id b (hlive id b h)
    cases hr : ρ id with
    | none => rw [hr] at h1; exact h1
    | some p =>
      rw [hr] at h1
      rcases h1 with ⟨rc, el, lo, hi, flat, h2, h3, h4, h5⟩ | h1
      · exact .inl ⟨rc, el, lo, hi, flat, h2, h3, h4.conv hok rfl rfl (hcb id b h), h5⟩
      · exact .inr h1
  · refine ⟨fun e => ?_, (hR.pn id h).2⟩
    have := hp id (hpin id h)
    rw [e] at this; cases this
  · refine (hR.gl g pd hg).conv hok rfl rfl fun i hi => ?_
    simp [AV.refs] at hi
end Go.Vc

namespace Go.Vc
def Kd.strict : Kd → Bool
  | .arr _ d => d.strict | .st d => d.strict | .pair a b => a.strict && b.strict | .slice own d => own && d.strict | _ => true
theorem Reads.monoS {ok ok' : Bool → Nat → Prop} {hp hp' : Nat → Option Obj} (hh : ∀ b, ok true b → hp b ≠ none → ok' true b ∧ hp' b = hp b) :
    ∀ {d : Kd} {x : d.T} {cs : List Value}, d.strict = true → Reads ok hp d x cs → Reads ok' hp' d x cs
  | .int _, _, _, _, h => h
  | .bool, _, _, _, h => h
  | .str, _, _, _, h => h
  | .arr n d, x, cs, hs, h => ⟨h.1, h.2.imp fun _ _ hr => Reads.monoS hh (d := d) hs hr⟩
  | .st d, x, cs, hs, h => Reads.monoS (d := d) hh hs h
  | .pair a b, x, cs, hs, h => by
    simp only [Kd.strict, Bool.and_eq_true] at hs
    obtain ⟨c1, c2, e, h1, h2⟩ := h
    exact ⟨c1, c2, e, Reads.monoS hh hs.1 h1, Reads.monoS hh hs.2 h2⟩
  | .unit, _, _, _, h => h
  | .slice own d, x, cs, hs, h => by
    simp only [Kd.strict, Bool.and_eq_true] at hs
    obtain ⟨A, cap, e, hl, h⟩ := h
    refine ⟨A, cap, e, hl, ?_⟩
    rcases h with h | ⟨b, o, rc, el, fr, flat, hA, hok, hb, hr, hf⟩
    · exact .inl h
    · have he := hs.1
      subst he
      have := hh b hok (by rw [hb]; exact Option.some_ne_none _)
      exact .inr ⟨b, o, rc, el, fr, flat, hA, this.1, this.2.trans hb, hr.imp fun _ _ hr => Reads.monoS hh hs.2 hr, hf⟩
def AV.strict : AV → Bool
  | .pure d _ => d.strict
  | .ept own d _ => own && d.strict
  | .func _ a b => strictL a && strictL b
  | .iface _ v => strict v
  | .agg l => strictL l
  | .tuple l => strictL l
  | _ => true
where strictL : List AV → Bool
  | [] => true
  | v :: r => strict v && strictL r
structure Ctx.LeS (f : Nat → Option Nat) (c c' : Ctx) : Prop where
  ok : ∀ b, c.ok true b → c.hp b ≠ none → c'.ok true b ∧ c'.hp b = c.hp b
  born : ∀ id j, c.born id → f id = some j → c'.born j ∧ c'.ρ j = c.ρ id
  size : ∀ id j g o, c.born id → f id = some j → c.ρ id = some (g, o) → ∀ rc el fr, c.hp g = some (.cells rc el fr) → ∃ rc' el' fr', c'.hp g = some (.cells rc' el' fr') ∧ rc.size ≤ rc'.size
mutual
theorem RC.trS {f : Nat → Option Nat} {c c' : Ctx} (h : Ctx.LeS f c c') : ∀ {v : AV} {cs : List Value}, RC c v cs → v.strict = true → RC c' (v.tr f) cs
  | _, _, .int k x, _ => .int k x
  | _, _, .bool b, _ => .bool b
  | _, _, .str l, _ => .str l
  | _, _, .pure d x cs hr, hs => .pure d x cs (hr.monoS h.ok hs)
  | _, _, .nilp, _ => .nilp
  | _, _, .ptr id path off g o hb hr, _ => by
    simp only [AV.tr]
    split
    · rename_i j hj
      obtain ⟨h1, h2⟩ := h.born id j hb hj
      exact .ptr j path off g o h1 (h2.trans hr)
    · exact .dead _ rfl
  | _, _, .arrp id path i off sz n g o hb hr, _ => by
    simp only [AV.tr]
    split
    · rename_i j hj
      obtain ⟨h1, h2⟩ := h.born id j hb hj
      exact .arrp j path i off sz n g o h1 (h2.trans hr)
    · exact .dead _ rfl
  | _, _, .ept own d x b o rc el fr flat hok hh hr hf, hs => by
    simp only [AV.strict, Bool.and_eq_true] at hs
    have he := hs.1
    subst he
    have := h.ok b hok (by rw [hh]; exact Option.some_ne_none _)
    exact .ept true d x b o rc el fr flat this.1 (this.2.trans hh) (hr.monoS h.ok hs.2) hf
  | _, _, .nilsl, _ => .nilsl
  | _, _, .tsl id path i off sz len g o cap A hb hr hl hA rc el fr hh hs, _ => by
    simp only [AV.tr]
    split
    · rename_i j hj
      obtain ⟨h1, h2⟩ := h.born id j hb hj
      obtain ⟨rc', el', fr', h3, h4⟩ := h.size id j g o hb hj hr rc el fr hh
      exact .tsl j path i off sz len g o cap A h1 (h2.trans hr) hl hA rc' el' fr' h3 (by omega)
    · exact .dead _ rfl
  | _, _, .tslv id path i off sz len hb hr h0, _ => by
    simp only [AV.tr]
    split
    · rename_i j hj
      obtain ⟨h1, h2⟩ := h.born id j hb hj
      exact .tslv j path i off sz len h1 (h2.trans hr) h0
    · exact .dead _ rfl
  | _, _, .nmap, _ => .nmap
  | _, _, .map id g hb hr, _ => by
    simp only [AV.tr]
    split
    · rename_i j hj
      obtain ⟨h1, h2⟩ := h.born id j hb hj
      exact .map j g h1 (h2.trans hr)
    · exact .dead _ rfl
  | _, _, .nilFunc, _ => .nilFunc
  | _, _, .func fn a b x y ha hb, hs => by
    simp only [AV.strict, Bool.and_eq_true] at hs
    exact .func fn _ _ x y (RVs.trS h ha hs.1) (RVs.trS h hb hs.2)
  | _, _, .nilIface, _ => .nilIface
  | _, _, .iface t v x hv, hs => .iface t _ x (RV.trS h hv hs)
  | _, _, .agg l cs hl, hs => .agg _ cs (RCs.trS h hl hs)
  | _, _, .dead x hx, _ => .dead x hx
theorem RCs.trS {f : Nat → Option Nat} {c c' : Ctx} (h : Ctx.LeS f c c') : ∀ {v : List AV} {cs : List Value}, RCs c v cs → AV.strict.strictL v = true → RCs c' (AV.tr.trL f v) cs
  | _, _, .nil, _ => .nil
  | _, _, .cons v r c1 c2 hv hr, hs => by
    simp only [AV.strict.strictL, Bool.and_eq_true] at hs
    exact .cons _ _ c1 c2 (RC.trS h hv hs.1) (RCs.trS h hr hs.2)
theorem RV.trS {f : Nat → Option Nat} {c c' : Ctx} (h : Ctx.LeS f c c') : ∀ {v : AV} {x : Value}, RV c v x → v.strict = true → RV c' (v.tr f) x
  | _, _, .one v x hv hc, hs => .one _ x (by rw [AV.tr_isAgg]; exact hv) (RC.trS h hc hs)
  | _, _, .agg v a hv hc, hs => .agg _ a (by rw [AV.tr_isAgg]; exact hv) (RC.trS h hc hs)
  | _, _, .tuple l x hl, hs => .tuple _ x (RVs.trS h hl hs)
theorem RVs.trS {f : Nat → Option Nat} {c c' : Ctx} (h : Ctx.LeS f c c') : ∀ {v : List AV} {x : List Value}, RVs c v x → AV.strict.strictL v = true → RVs c' (AV.tr.trL f v) x
  | _, _, .nil, _ => .nil
  | _, _, .cons v r x y hv hr, hs => by
    simp only [AV.strict.strictL, Bool.and_eq_true] at hs
    exact .cons _ _ x y (RV.trS h hv hs.1) (RVs.trS h hr hs.2)
end
structure Ctx.Dn (σ : Nat → Nat) (m : Nat) (c c' : Ctx) : Prop where
  ok : ∀ own b, c.ok own b → c'.ok own b
  hp : c'.hp = c.hp
  ρ : ∀ i, i < m → c'.ρ i = c.ρ (σ i)
  born : ∀ i, i < m → c'.born i
def sub (σ : Nat → Nat) : Nat → Option Nat := fun i => some (σ i)
mutual
theorem RC.dn {σ : Nat → Nat} {m : Nat} {c c' : Ctx} (h : Ctx.Dn σ m c c') : ∀ {v : AV} {cs : List Value}, RC c (v.tr (sub σ)) cs → (∀ i ∈ v.refs, i < m) → RC c' v cs
  | .int k x, cs, hr, _ => by cases hr; exact .int k x
  | .bool b, cs, hr, _ => by cases hr; exact .bool b
  | .str l, cs, hr, _ => by cases hr; exact .str l
  | .pure d x, cs, hr, _ => by cases hr with | pure _ _ _ hq => exact .pure d x cs (hq.mono fun own b h1 h2 => ⟨h.ok own b h1, by rw [h.hp]⟩)
  | .nilp, cs, hr, _ => by cases hr; exact .nilp
  | .ptr id p o, cs, hr, hi => by
    have hr' : RC c (.ptr (σ id) p o) cs := hr
    have hm := hi id (List.mem_singleton.2 rfl)
    cases hr' with | ptr _ _ _ g o' hb hq => exact .ptr id p o g o' (h.born id hm) ((h.ρ id hm).trans hq)
  | .arrp id p i o sz n, cs, hr, hi => by
    have hr' : RC c (.arrp (σ id) p i o sz n) cs := hr
    have hm := hi id (List.mem_singleton.2 rfl)
    cases hr' with | arrp _ _ _ _ _ _ g o' hb hq => exact .arrp id p i o sz n g o' (h.born id hm) ((h.ρ id hm).trans hq)
  | .ept own d x, cs, hr, _ => by
    have hr' : RC c (.ept own d x) cs := hr
    cases hr' with | ept _ _ _ b o rc el fr flat hok hh hq hf => exact .ept own d x b o rc el fr flat (h.ok own b hok) (by rw [h.hp]; exact hh) (hq.mono fun own b h1 h2 => ⟨h.ok own b h1, by rw [h.hp]⟩) hf
  | .nilsl, cs, hr, _ => by cases hr; exact .nilsl
  | .tsl id p i o s n, cs, hr, hi => by
    have hr' : RC c (.tsl (σ id) p i o s n) cs := hr
    have hm := hi id (List.mem_singleton.2 rfl)
    cases hr' with
    | tsl _ _ _ _ _ _ g o' cap A hb hq hl hA rc el fr hh hs => exact .tsl id p i o s n g o' cap A (h.born id hm) ((h.ρ id hm).trans hq) hl hA rc el fr (by rw [h.hp]; exact hh) hs
    | tslv _ _ _ _ _ _ hb hq h0 => exact .tslv id p i o s n (h.born id hm) ((h.ρ id hm).trans hq) h0
  | .nmap, cs, hr, _ => by cases hr; exact .nmap
  | .map id, cs, hr, hi => by
    have hr' : RC c (.map (σ id)) cs := hr
    have hm := hi id (List.mem_singleton.2 rfl)
    cases hr' with | map _ g hb hq => exact .map id g (h.born id hm) ((h.ρ id hm).trans hq)
  | .nilFunc, cs, hr, _ => by cases hr; exact .nilFunc
  | .func fn a b, cs, hr, hi => by
    have hr' : RC c (.func fn (AV.tr.trL (sub σ) a) (AV.tr.trL (sub σ) b)) cs := hr
    cases hr' with | func _ _ _ x y ha hb => exact .func fn a b x y (RVs.dn h ha fun i hh => hi i (List.mem_append_left _ hh)) (RVs.dn h hb fun i hh => hi i (List.mem_append_right _ hh))
  | .nilIface, cs, hr, _ => by cases hr; exact .nilIface
  | .iface t v, cs, hr, hi => by
    have hr' : RC c (.iface t (v.tr (sub σ))) cs := hr
    cases hr' with | iface _ _ x hv => exact .iface t v x (RV.dn h hv hi)
  | .agg l, cs, hr, hi => by
    have hr' : RC c (.agg (AV.tr.trL (sub σ) l)) cs := hr
    cases hr' with | agg _ _ hl => exact .agg l cs (RCs.dn h hl hi)
  | .tuple l, cs, hr, _ => by cases hr
  | .dead, cs, hr, _ => by cases hr with | dead x hx => exact .dead x hx
theorem RCs.dn {σ : Nat → Nat} {m : Nat} {c c' : Ctx} (h : Ctx.Dn σ m c c') : ∀ {v : List AV} {cs : List Value}, RCs c (AV.tr.trL (sub σ) v) cs → (∀ i ∈ AV.refs.refsL v, i < m) → RCs c' v cs
  | [], cs, hr, _ => by cases hr; exact .nil
  | v :: r, cs, hr, hi => by
    have hr' : RCs c (v.tr (sub σ) :: AV.tr.trL (sub σ) r) cs := hr
    cases hr' with | cons _ _ c1 c2 hv hq => exact .cons v r c1 c2 (RC.dn h hv fun i hh => hi i (List.mem_append_left _ hh)) (RCs.dn h hq fun i hh => hi i (List.mem_append_right _ hh))
theorem RV.dn {σ : Nat → Nat} {m : Nat} {c c' : Ctx} (h : Ctx.Dn σ m c c') : ∀ {v : AV} {X : Value}, RV c (v.tr (sub σ)) X → (∀ i ∈ v.refs, i < m) → RV c' v X
  | .tuple l, X, hr, hi => by
    have hr' : RV c (.tuple (AV.tr.trL (sub σ) l)) X := hr
    obtain ⟨x, rfl, hl⟩ := hr'.tuple_inv
    exact .tuple l x (RVs.dn h hl hi)
  | .agg l, X, hr, hi => by
    have hr' : RV c (.agg (AV.tr.trL (sub σ) l)) X := hr
    obtain ⟨a, rfl, hl⟩ := hr'.agg_inv
    exact .agg _ _ rfl (.agg l _ (RCs.dn h hl hi))
  | .pure d x, X, hr, hi => by
    have hr' : RV c (.pure d x) X := hr
    cases hr' with
    | one _ _ h0 hc => exact .one _ _ h0 (by cases hc with | pure _ _ _ hq => exact .pure d x _ (hq.mono fun own b h1 h2 => ⟨h.ok own b h1, by rw [h.hp]⟩))
    | agg _ a h0 hc =>
      refine .agg _ a h0 ?_
      generalize a.toList = cs at hc
      cases hc with | pure _ _ _ hq => exact .pure d x _ (hq.mono fun own b h1 h2 => ⟨h.ok own b h1, by rw [h.hp]⟩)
  | .int k x, X, hr, hi => by cases hr with | one _ _ _ hc => cases hc; exact .one _ _ rfl (.int k x) | agg _ _ h0 => cases h0
  | .bool b, X, hr, hi => by cases hr with | one _ _ _ hc => cases hc; exact .one _ _ rfl (.bool b) | agg _ _ h0 => cases h0
  | .str b, X, hr, hi => by cases hr with | one _ _ _ hc => cases hc; exact .one _ _ rfl (.str b) | agg _ _ h0 => cases h0
  | .nilp, X, hr, hi => by cases hr with | one _ _ _ hc => cases hc; exact .one _ _ rfl .nilp | agg _ _ h0 => cases h0
  | .nilsl, X, hr, hi => by cases hr with | one _ _ _ hc => cases hc; exact .one _ _ rfl .nilsl | agg _ _ h0 => cases h0
  | .nmap, X, hr, hi => by cases hr with | one _ _ _ hc => cases hc; exact .one _ _ rfl .nmap | agg _ _ h0 => cases h0
  | .nilFunc, X, hr, hi => by cases hr with | one _ _ _ hc => cases hc; exact .one _ _ rfl .nilFunc | agg _ _ h0 => cases h0
  | .nilIface, X, hr, hi => by cases hr with | one _ _ _ hc => cases hc; exact .one _ _ rfl .nilIface | agg _ _ h0 => cases h0
  | .dead, X, hr, hi => by
    cases hr with
    | one _ _ _ hc => (cases hc with | dead x hx => exact .one _ _ rfl (.dead _ hx))
    | agg _ _ h0 => cases h0
  | .ptr id p o, X, hr, hi => by
    have hr' : RV c (.ptr (σ id) p o) X := hr
    have hm := hi id (List.mem_singleton.2 rfl)
    cases hr' with
    | one _ _ _ hc => cases hc with | ptr _ _ _ g o' hb hq => exact .one _ _ rfl (.ptr id p o g o' (h.born id hm) ((h.ρ id hm).trans hq))
    | agg _ _ h0 => cases h0
  | .arrp id p i o sz n, X, hr, hi => by
    have hr' : RV c (.arrp (σ id) p i o sz n) X := hr
    have hm := hi id (List.mem_singleton.2 rfl)
    cases hr' with
    | one _ _ _ hc => cases hc with | arrp _ _ _ _ _ _ g o' hb hq => exact .one _ _ rfl (.arrp id p i o sz n g o' (h.born id hm) ((h.ρ id hm).trans hq))
    | agg _ _ h0 => cases h0
  | .ept own d x, X, hr, hi => by
    have hr' : RV c (.ept own d x) X := hr
    cases hr' with
    | one _ _ _ hc => cases hc with | ept _ _ _ b o rc el fr flat hok hh hq hf => exact .one _ _ rfl (.ept own d x b o rc el fr flat (h.ok own b hok) (by rw [h.hp]; exact hh) (hq.mono fun own b h1 h2 => ⟨h.ok own b h1, by rw [h.hp]⟩) hf)
    | agg _ _ h0 => cases h0
  | .tsl id p i o s n, X, hr, hi => by
    have hr' : RV c (.tsl (σ id) p i o s n) X := hr
    have hm := hi id (List.mem_singleton.2 rfl)
    cases hr' with
    | one _ _ _ hc => cases hc with
      | tsl _ _ _ _ _ _ g o' cap A hb hq hl hA rc el fr hh hs => exact .one _ _ rfl (.tsl id p i o s n g o' cap A (h.born id hm) ((h.ρ id hm).trans hq) hl hA rc el fr (by rw [h.hp]; exact hh) hs)
      | tslv _ _ _ _ _ _ hb hq h0 => exact .one _ _ rfl (.tslv id p i o s n (h.born id hm) ((h.ρ id hm).trans hq) h0)
    | agg _ _ h0 => cases h0
  | .map id, X, hr, hi => by
    have hr' : RV c (.map (σ id)) X := hr
    have hm := hi id (List.mem_singleton.2 rfl)
    cases hr' with
    | one _ _ _ hc => cases hc with | map _ g hb hq => exact .one _ _ rfl (.map id g (h.born id hm) ((h.ρ id hm).trans hq))
    | agg _ _ h0 => cases h0
  | .func fn a b, X, hr, hi => by
    have hr' : RV c (.func fn (AV.tr.trL (sub σ) a) (AV.tr.trL (sub σ) b)) X := hr
    cases hr' with
    | one _ _ _ hc => cases hc with | func _ _ _ x y ha hb => exact .one _ _ rfl (.func fn a b x y (RVs.dn h ha fun i hh => hi i (List.mem_append_left _ hh)) (RVs.dn h hb fun i hh => hi i (List.mem_append_right _ hh)))
    | agg _ _ h0 => cases h0
  | .iface t v, X, hr, hi => by
    have hr' : RV c (.iface t (v.tr (sub σ))) X := hr
    cases hr' with
    | one _ _ _ hc => cases hc with | iface _ _ x hv => exact .one _ _ rfl (.iface t v x (RV.dn h hv hi))
    | agg _ _ h0 => cases h0
theorem RVs.dn {σ : Nat → Nat} {m : Nat} {c c' : Ctx} (h : Ctx.Dn σ m c c') : ∀ {v : List AV} {x : List Value}, RVs c (AV.tr.trL (sub σ) v) x → (∀ i ∈ AV.refs.refsL v, i < m) → RVs c' v x
  | [], x, hr, _ => by cases hr; exact .nil
  | v :: r, x, hr, hi => by
    have hr' : RVs c (v.tr (sub σ) :: AV.tr.trL (sub σ) r) x := hr
    cases hr' with | cons _ _ x y hv hq => exact .cons v r x y (RV.dn h hv fun i hh => hi i (List.mem_append_left _ hh)) (RVs.dn h hq fun i hh => hi i (List.mem_append_right _ hh))
end
end Go.Vc

namespace Go.Vc
structure Out where
  v : AV
  fin : List AV
structure Con where
  Par : Type
  m : Nat
  kill : List Nat
  pre : Par → List Prop
  args : Par → List AV
  heap : Par → List AV
  out : Par → Out
  inv : List AV → HP (Par × List Nat × List Prop)
def sg (ids : List Nat) (nb m n : Nat) : Nat → Option Nat := fun i => if i < m then some (ids.getD i 0) else if i < n then some (nb + (i - m)) else none
def wrL (σ : Nat → Option Nat) : List AV → Nat → List (Nat × Slot)
  | [], _ => []
  | b :: r, i => ((σ i).getD 0, .live (b.tr σ)) :: wrL σ r (i + 1)
def Con.res (K : Con) (p : K.Par) (ids : List Nat) (obs : List Prop) (nb : Nat) : Res :=
  { v := some ((K.out p).v.tr (sg ids nb K.m (K.out p).fin.length)), wr := wrL (sg ids nb K.m (K.out p).fin.length) (K.out p).fin 0, kill := K.kill.map (ids.getD · 0), obs := obs ++ K.pre p, new := (K.out p).fin.length - K.m }
def Con.sum (K : Con) (args : List AV) (nb : Nat) : HP Res := (K.inv args).bind fun q => .ret (K.res q.1 q.2.1 q.2.2 nb)
def CoB (σ : Nat → Nat) (m : Nat) (b b' : AV) : Prop := (∀ c c', Ctx.Dn σ m c c' → ∀ cs, RC c b cs → RC c' b' cs) ∧ (b.emptyRow → b'.emptyRow) ∧ ∀ l, b ≠ .tuple l
def Lend (S : AS) (ρ : Nat → Option (Nat × Nat)) (σ : Nat → Nat) (m : Nat) (c' : Ctx) : Prop := ∀ id b g o, S.blk id = .live b → (∀ i, i < m → σ i ≠ id) → ρ id = some (g, o) → c'.ok false g
def Coe (mem : Nat → Slot) (σ : Nat → Nat) (m : Nat) (v v' : AV) : Prop :=
  ∀ (E : Env) (ρ : Nat → Option (Nat × Nat)) (S : AS) (a : Act) (w : World) (c' : Ctx), S.blk = mem → Rel E ρ S a w → Ctx.Dn σ m (ctx E ρ S.blk w) c' → Lend S ρ σ m c' → ∀ X, RV (ctx E ρ S.blk w) v X → RV c' v' X
inductive CoeL (mem : Nat → Slot) (σ : Nat → Nat) (m : Nat) : List AV → List AV → Prop
  | nil : CoeL mem σ m [] []
  | cons (v v' : AV) (l l' : List AV) (h : Coe mem σ m v v') (r : CoeL mem σ m l l') : CoeL mem σ m (v :: l) (v' :: l')
def sg0 (ids : List Nat) : Nat → Nat := fun i => ids.getD i 0
structure InvOK1 (K : Con) (mem : Nat → Slot) (args : List AV) (p : K.Par) (ids : List Nat) : Prop where
  len : ids.length = K.m
  nodup : ids.Nodup
  heap : (K.heap p).length = K.m
  blk : ∀ i, i < K.m → ∃ b b', mem (sg0 ids i) = .live b ∧ (K.heap p)[i]? = some b' ∧ CoB (sg0 ids) K.m b b'
  args : CoeL mem (sg0 ids) K.m args (K.args p)
def InvOK (K : Con) : Prop := ∀ mem args p ids obs l, (K.inv args).run mem = some ((p, ids, obs), l) → (∀ q ∈ obs, q) → InvOK1 K mem args p ids
def resA1 (C : Cfg) (S : AS) : ResultVar → HP (AV × List Prop)
  | .tmp t => match S.tmps.getD t none with | some v => .ret (v, []) | none => .fail
  | .cell a t => match C.ty t, S.tmps.getD a none with
    | some i, some (.ptr id p off) => .get id fun b => match b.at p with
      | some v => if v.isAgg = i.td.agg ∧ v.size = i.sz ∧ v.isTup = false then .ret (v, (off = b.off p) :: b.ob p) else .fail
      | none => .fail
    | _, _ => .fail
def resA (C : Cfg) (S : AS) : List ResultVar → HP (List AV × List Prop)
  | [] => .ret ([], [])
  | x :: r => (resA1 C S x).bind fun p => (resA C S r).bind fun q => .ret (p.1 :: q.1, p.2 ++ q.2)
def resV : List AV → AV
  | [v] => v
  | l => .tuple l
def rdRes (tm : Array Value) : ResultVar → Sem Value
  | .tmp t => pure (tm.getD t undef)
  | .cell b t => do loadVar t (← asAddr (tm.getD b undef))
theorem resA1_sound {P : Program} {C : Cfg} (hT : TysOK P C.ty) {E : Env} {ρ : Nat → Option (Nat × Nat)} {S : AS} {a : Act} {w : World} (hR : Rel E ρ S a w) {x : ResultVar} {v : AV} {obs : List Prop} {l : List Nat}
    (h : (resA1 C S x).run S.blk = some ((v, obs), l)) (ho : ∀ q ∈ obs, q) :
    ∃ V, (rdRes a.tmps x).run P w = .ok V w ∧ RV (ctx E ρ S.blk w) v V := by
  have tmpV : ∀ {t : Nat} {u : AV}, S.tmps.getD t none = some u → RV (ctx E ρ S.blk w) u (a.tmps.getD t undef) := by
    intro t u hu
    obtain ⟨V, h1, h2⟩ := hR.tmp hu
    rw [Array.getD_eq_getD_getElem?, h1]; exact h2
  cases x with
  | tmp t =>
    simp only [resA1] at h
    split at h
    · rename_i u hu
      have := HP.run_ret h
      injection this with e1 e2
      subst e1
      exact ⟨_, rfl, tmpV hu⟩
    · cases h
  | cell b t =>
    simp only [resA1] at h
    split at h
    · rename_i i id p off hi hx
      obtain ⟨bl, l', h1, h2, h3⟩ := HP.run_get h
      split at h2
      · rename_i v' hat
        split at h2
        · rename_i hcond
          have := HP.run_ret h2
          injection this with e1 e2
          subst e1 e2
          simp only [List.mem_cons, forall_eq_or_imp] at ho
          obtain ⟨g, o', hb, hr, heq⟩ := (tmpV hx).ptr_inv
          obtain ⟨rc, el, lo, hi', cs, f1, f2, f3, f4, f5⟩ := hR.at h1 hr hat ho.2 (AV.not_tup hcond.2.2)
          obtain ⟨V, g1, g2⟩ := run_loadVar (P := P) (hT t i hi) f1 f2 f3 hcond.1 hcond.2.1 f2.not_tuple
          refine ⟨V, ?_, g2⟩
          simp only [rdRes, heq, asAddr, Sem.run_bind, Sem.run_pure, Result.andThen_ok, ho.1, g1]
        · cases h2
      · cases h2
    · cases h
theorem resA_sound {P : Program} {C : Cfg} (hT : TysOK P C.ty) {E : Env} {ρ : Nat → Option (Nat × Nat)} {S : AS} {a : Act} {w : World} (hR : Rel E ρ S a w) : ∀ {xs : List ResultVar} {vs : List AV} {obs : List Prop} {l : List Nat},
    (resA C S xs).run S.blk = some ((vs, obs), l) → (∀ q ∈ obs, q) →
    ∃ V, (xs.mapM (rdRes a.tmps)).run P w = .ok V w ∧ RVs (ctx E ρ S.blk w) vs V
  | [], vs, obs, l, h, ho => by
    have := HP.run_ret h
    injection this with e1 e2
    subst e1
    exact ⟨[], rfl, .nil⟩
  | x :: r, vs, obs, l, h, ho => by
    simp only [resA] at h
    obtain ⟨p, l1, l2, h1, h2, h3⟩ := HP.run_bind h
    obtain ⟨q, l3, l4, h4, h5, h6⟩ := HP.run_bind h2
    have := HP.run_ret h5
    injection this with e1 e2
    subst e1 e2
    obtain ⟨V, f1, f2⟩ := resA1_sound hT hR (x := x) (v := p.1) (obs := p.2) h1 (fun q hq => ho q (List.mem_append_left _ hq))
    obtain ⟨W, f3, f4⟩ := resA_sound hT hR (xs := r) (vs := q.1) (obs := q.2) h4 (fun q hq => ho q (List.mem_append_right _ hq))
    refine ⟨V :: W, ?_, .cons _ _ _ _ f2 f4⟩
    rw [List.mapM_cons, Sem.run_bind, f1, Result.andThen_ok, Sem.run_bind, f3, Result.andThen_ok]
    rfl
theorem results_sound {P : Program} {C : Cfg} (hT : TysOK P C.ty) {E : Env} {ρ : Nat → Option (Nat × Nat)} {S : AS} {a : Act} {w : World} (hR : Rel E ρ S a w) {fn : Func} {vs : List AV} {obs : List Prop} {l : List Nat}
    (h : (resA C S fn.results.toList).run S.blk = some ((vs, obs), l)) (ho : ∀ q ∈ obs, q) : ∃ V, (results fn a.tmps).run P w = .ok V w ∧ RV (ctx E ρ S.blk w) (resV vs) V := by
  obtain ⟨V, h1, h2⟩ := resA_sound hT hR h ho
  have h3 : (fn.results.mapM (rdRes a.tmps)).run P w = .ok V.toArray w := by
    rw [← Array.toArray_toList (xs := fn.results), List.mapM_toArray, Sem.run_map, h1]
    rfl
  have e : results fn a.tmps = (fn.results.mapM (rdRes a.tmps)) >>= fun vs => pure (if h : vs.size = 1 then vs[0] else .tuple vs) := by
    unfold results
    congr 1
  rw [e, Sem.run_bind, h3, Result.andThen_ok]
  cases h2 with
  | nil => exact ⟨.tuple #[], rfl, .tuple [] [] .nil⟩
  | cons v r x y hv hr =>
    cases hr with
    | nil => exact ⟨x, rfl, hv⟩
    | cons v' r x' y' hv' hr => exact ⟨.tuple (x :: x' :: y').toArray, by simp, .tuple _ _ (.cons _ _ _ _ hv (.cons _ _ _ _ hv' hr))⟩
end Go.Vc

namespace Go.Vc
def Con.pins (K : Con) : List Nat := (List.range K.m).filter fun i => !K.kill.contains i
def Con.start (K : Con) (p : K.Par) (n : Nat) : AS := ⟨(K.args p).map some ++ List.replicate (n - (K.args p).length) none, (K.heap p).map .live⟩
def Con.post (K : Con) (C : Cfg2) (fn : Func) (p : K.Par) : Exit → AS → Prop := fun e S =>
  (e = .ret ∨ e = .normal) ∧ ∃ vs obs l, (resA C.toCfg S fn.results.toList).run S.blk = some ((vs, obs), l) ∧ (∀ q ∈ obs, q) ∧ Wk { C with pin := K.pins } ⟨[some (resV vs)], S.heap⟩ ⟨[some (K.out p).v], (K.out p).fin.map .live⟩
structure BodyOK (P : Program) (C : Cfg2) (fn : Func) (c : Code) (K : Con) (p : K.Par) : Prop where
  run : Tri P { C with pin := K.pins } (K.start p fn.ntmps) c (K.post C fn p)
  size : K.m ≤ (K.out p).fin.length
  strict : (K.out p).v.strict = true ∧ AV.strict.strictL (K.out p).fin = true
theorem CfgOK.pins {P : Program} {C : Cfg2} (h : CfgOK P C) (l : List Nat) : CfgOK P { C with pin := l } := ⟨h.ty, h.fn, h.eq⟩
theorem RVs.len {c : Ctx} : ∀ {l : List AV} {x : List Value}, RVs c l x → x.length = l.length
  | _, _, .nil => rfl
  | _, _, .cons _ _ _ _ _ hr => by simp [hr.len]
theorem RVs.get1 {c : Ctx} : ∀ {l : List AV} {x : List Value}, RVs c l x → ∀ {i : Nat} {v : AV}, l[i]? = some v → ∃ X, x[i]? = some X ∧ RV c v X
  | _, _, .nil, i, v, h => by simp at h
  | _, _, .cons _ _ x _ hv hr, i, v, h => by
    cases i with
    | zero => simp only [List.getElem?_cons_zero, Option.some.injEq] at h; subst h; exact ⟨x, rfl, hv⟩
    | succ i => simp only [List.getElem?_cons_succ] at h ⊢; exact hr.get1 h
theorem CoeL.sound {mem : Nat → Slot} {σ : Nat → Nat} {m : Nat} {E : Env} {ρ : Nat → Option (Nat × Nat)} {S : AS} {a : Act} {w : World} {c' : Ctx} (hm : S.blk = mem) (hR : Rel E ρ S a w) (hd : Ctx.Dn σ m (ctx E ρ S.blk w) c') (hl : Lend S ρ σ m c') :
    ∀ {l l' : List AV}, CoeL mem σ m l l' → ∀ {x : List Value}, RVs (ctx E ρ S.blk w) l x → RVs c' l' x
  | _, _, .nil, x, h => by cases h; exact .nil
  | _, _, .cons v v' l l' h r, x, hx => by
    cases hx with
    | cons _ _ X y hv hr => exact .cons _ _ _ _ (h E ρ S a w c' hm hR hd hl X hv) (r.sound hm hR hd hl hr)
theorem blk_live (ts : List (Option AV)) (l : List AV) (i : Nat) : (⟨ts, l.map .live⟩ : AS).blk i = match l[i]? with | some b => .live b | none => .unborn := by
  simp only [AS.blk, List.getD_eq_getElem?_getD, List.getElem?_map]
  cases l[i]? <;> rfl
theorem blk_map_live {ts : List (Option AV)} {l : List AV} {i : Nat} {b : AV} : (⟨ts, l.map .live⟩ : AS).blk i = .live b ↔ l[i]? = some b := by
  rw [blk_live]
  cases l[i]? <;> simp
theorem wrs_wrL {σ : Nat → Option Nat} : ∀ {fin : List AV} {i0 : Nat} {h : List Slot}, (∀ i j, i0 ≤ i → i < i0 + fin.length → i0 ≤ j → j < i0 + fin.length → (σ i).getD 0 = (σ j).getD 0 → i = j) →
    (∀ j b, fin[j]? = some b → (wrs h (wrL σ fin i0)).getD ((σ (i0 + j)).getD 0) .unborn = .live (b.tr σ)) ∧
    (∀ id, (∀ j, j < fin.length → (σ (i0 + j)).getD 0 ≠ id) → (wrs h (wrL σ fin i0)).getD id .unborn = h.getD id .unborn)
  | [], i0, h, hi => ⟨fun j b hj => by simp at hj, fun id _ => rfl⟩
  | b :: r, i0, h, hi => by
    have ih := wrs_wrL (σ := σ) (fin := r) (i0 := i0 + 1) (h := setAt h ((σ i0).getD 0) (.live (b.tr σ))) (fun i j h1 h2 h3 h4 => hi i j (by omega) (by simp; omega) (by omega) (by simp; omega))
    refine ⟨fun j b' hj => ?_, fun id hid => ?_⟩
    · cases j with
      | zero =>
        simp only [List.getElem?_cons_zero, Option.some.injEq] at hj
        subst hj
        simp only [wrL, wrs, Nat.add_zero]
        rw [ih.2, setAt_getD, if_pos rfl]
        intro j hj e
        have := hi i0 (i0 + 1 + j) (Nat.le_refl _) (by simp) (by omega) (by simp; omega) e.symm
        omega
      | succ j =>
        simp only [List.getElem?_cons_succ] at hj
        simp only [wrL, wrs]
        rw [show i0 + (j + 1) = i0 + 1 + j by omega]
        exact ih.1 j b' hj
    · simp only [wrL, wrs]
      rw [ih.2, setAt_getD, if_neg]
      · intro e
        exact hid 0 (by simp) (by rw [Nat.add_zero]; exact e.symm)
      · intro j hj
        have := hid (j + 1) (by simp; omega)
        rwa [show i0 + (j + 1) = i0 + 1 + j by omega] at this
theorem killF_nil : killF [] = some := by funext j; simp [killF]
theorem killF_some {l : List Nat} {i j : Nat} (h : killF l i = some j) : j = i ∧ i ∉ l := by
  simp only [killF] at h
  split at h
  · cases h
  · rename_i hc
    injection h with h
    exact ⟨h.symm, by simpa using hc⟩
theorem AS.killed_eq (S : AS) (k : List Nat) : S.killed k = { tmps := S.tmps.map (Option.map (AV.tr (killF k))), heap := S.heap.map (Slot.tr (killF k)) } := by
  cases k with
  | nil =>
    simp only [AS.killed, killF_nil, map_tr_some]
    have : S.heap.map (Slot.tr some) = S.heap := by
      rw [show Slot.tr some = id from funext fun s => Slot.tr_some s]; simp
    rw [this]
  | cons => rfl
theorem AS.killed_get (S : AS) (k : List Nat) (id : Nat) : (S.killed k).heap.getD id .unborn = (S.blk id).tr (killF k) := by
  rw [AS.killed_eq]
  simp only [AS.blk, List.getD_eq_getElem?_getD, List.getElem?_map]
  cases S.heap[id]? <;> rfl
theorem Slot.tr_live {f : Nat → Option Nat} {s : Slot} {b : AV} (h : s.tr f = .live b) : ∃ b0, s = .live b0 ∧ b = b0.tr f := by
  cases s with
  | live b0 => injection h with h; exact ⟨b0, rfl, h.symm⟩
  | unborn => cases h
  | dead => cases h
theorem Slot.tr_unborn {f : Nat → Option Nat} {s : Slot} : s.tr f = .unborn ↔ s = .unborn := by
  cases s <;> simp [Slot.tr]
theorem strictL_get : ∀ {l : List AV} {i : Nat} {b : AV}, AV.strict.strictL l = true → l[i]? = some b → b.strict = true
  | [], i, b, _, h => by simp at h
  | v :: r, i, b, hs, h => by
    simp only [AV.strict.strictL, Bool.and_eq_true] at hs
    cases i with
    | zero => simp only [List.getElem?_cons_zero, Option.some.injEq] at h; subst h; exact hs.1
    | succ i => simp only [List.getElem?_cons_succ] at h; exact strictL_get hs.2 h
theorem RB.trS {f : Nat → Option Nat} {c c' : Ctx} (h : Ctx.LeS f c c') {b : AV} (hs : b.strict = true) {r : Option (Nat × Nat)} (hr : RB c b r) (hq : c'.hp = c.hp) : RB c' (b.tr f) r := by
  cases r with
  | none =>
    cases b <;> first | exact hr.elim | exact hr
  | some p =>
    rcases hr with ⟨rc, el, lo, hi, flat, h1, h2, h3, h4, h5⟩ | ⟨h0, d, xs, es, clock, h1, h2, h3⟩
    · exact .inl ⟨rc, el, lo, hi, flat, by rw [hq]; exact h1, h2, h3.trS h hs, h4, h5⟩
    · subst h1
      exact .inr ⟨h0, d, xs, es, clock, rfl, by rw [hq]; exact h2, h3⟩
section
variable {P : Program} {C : Cfg2} {E : Env} {ρ : Nat → Option (Nat × Nat)} {S : AS} {a : Act} {w : World}
def callEnv (E : Env) (ρ : Nat → Option (Nat × Nat)) (S : AS) (w : World) (σ : Nat → Nat) (m : Nat) (pins : List Nat) (hF : ∀ g, (E.F g ∨ ∃ id b o, S.blk id = .live b ∧ (∀ i, i < m → σ i ≠ id) ∧ ρ id = some (g, o)) → g < w.heap.size) : Env where
  F := fun g => E.F g ∨ ∃ id b o, S.blk id = .live b ∧ (∀ i, i < m → σ i ≠ id) ∧ ρ id = some (g, o)
  w0 := w
  T := fun g => ∃ i o, i < m ∧ ρ (σ i) = some (g, o)
  ρ0 := fun i => if i < m then ρ (σ i) else none
  pin := fun i => i ∈ pins
  glob := E.glob
  hF := hF
theorem callEnv_hF (hR : Rel E ρ S a w) (σ : Nat → Nat) (m : Nat) : ∀ g, (E.F g ∨ ∃ id b o, S.blk id = .live b ∧ (∀ i, i < m → σ i ≠ id) ∧ ρ id = some (g, o)) → g < w.heap.size := by
  intro g h
  rcases h with h | ⟨id, b, o, h1, _, h3⟩
  · exact Nat.lt_of_lt_of_le (E.hF g h) hR.fr.size
  · exact hR.lt h1 h3
theorem call_start {K : Con} {args : List AV} {p : K.Par} {ids : List Nat} (hR : Rel E ρ S a w) (I : InvOK1 K S.blk args p ids) {V : List Value} (hV : RVs (ctx E ρ S.blk w) args V) (n : Nat) :
    Rel (callEnv E ρ S w (sg0 ids) K.m K.pins (callEnv_hF hR _ _)) (fun i => if i < K.m then ρ (sg0 ids i) else none) (K.start p n)
      { tmps := V.toArray ++ Array.replicate (n - V.toArray.size) undef, defers := [] } w := by
  have hget : ∀ {i : Nat} {b' : AV}, (K.heap p)[i]? = some b' → i < K.m := fun h => by
    have := (List.getElem?_eq_some_iff.1 h).1
    rw [I.heap] at this; exact this
  have hlive : ∀ {i : Nat} {b' : AV}, (K.start p n).blk i = .live b' → (K.heap p)[i]? = some b' := fun h => blk_map_live.1 h
  have hσ : ∀ i j, i < K.m → j < K.m → sg0 ids i = sg0 ids j → i = j := by
    intro i j hi hj h
    have h1 : i < ids.length := by rw [I.len]; exact hi
    have h2 : j < ids.length := by rw [I.len]; exact hj
    simp only [sg0, List.getD_eq_getElem?_getD, List.getElem?_eq_getElem h1, List.getElem?_eq_getElem h2, Option.getD_some] at h
    exact (List.getElem_inj I.nodup).1 h
  have hdn : Ctx.Dn (sg0 ids) K.m (ctx E ρ S.blk w) (ctx (callEnv E ρ S w (sg0 ids) K.m K.pins (callEnv_hF hR _ _)) (fun i => if i < K.m then ρ (sg0 ids i) else none) (K.start p n).blk w) := by
    refine ⟨fun own b h => ⟨fun id bl o hl => ?_, fun ho hF => ?_⟩, rfl, fun i hi => ?_, fun i hi => ?_⟩
    · have hm := hget (hlive hl)
      show (if id < K.m then ρ (sg0 ids id) else none) ≠ _
      rw [if_pos hm]
      obtain ⟨b0, b1, h1, _, _⟩ := I.blk id hm
      exact h.1 (sg0 ids id) b0 o h1
    · rcases hF with hF | ⟨id, b0, o, h1, h2, h3⟩
      · exact h.2 ho hF
      · exact h.1 id b0 o h1 h3
    · show (if i < K.m then ρ (sg0 ids i) else none) = _
      rw [if_pos hi]; rfl
    · obtain ⟨b0, b1, _, h2, _⟩ := I.blk i hi
      show (K.start p n).blk i ≠ .unborn
      rw [show (K.start p n).blk i = .live b1 from blk_map_live.2 h2]
      simp
  have hlend : Lend S ρ (sg0 ids) K.m (ctx (callEnv E ρ S w (sg0 ids) K.m K.pins (callEnv_hF hR _ _)) (fun i => if i < K.m then ρ (sg0 ids i) else none) (K.start p n).blk w) := by
    intro id b g o h1 h2 h3
    refine ⟨fun i bl o' hl => ?_, fun e => by cases e⟩
    have hm := hget (hlive hl)
    show (if i < K.m then ρ (sg0 ids i) else none) ≠ _
    rw [if_pos hm]
    intro e
    obtain ⟨b0, b1, h4, _, _⟩ := I.blk i hm
    exact h2 i hm (hR.inj _ _ _ _ g _ _ h4 h1 e h3)
  have hargs := I.args.sound rfl hR hdn hlend hV
  have hl := hargs.len
  have e0 : V.toArray ++ Array.replicate (n - V.toArray.size) undef = (V ++ List.replicate (n - V.length) undef).toArray := by
    apply Array.ext'; simp
  rw [e0]
  refine ⟨?_, rfl, fun i v hv => ?_, fun i b hb => ?_, fun i j b b' g o o' hb hb' hr hr' => ?_, fun i b g o hb hr => ?_, Kept.refl _ _, fun i hi => ?_, fun g pd hg => ?_⟩
  · simp only [Con.start, List.length_append, List.length_map, List.length_replicate, List.size_toArray, hl]
  · simp only [Con.start, List.getElem?_append, List.length_map] at hv
    split at hv
    · rename_i hlt
      rw [List.getElem?_map] at hv
      cases hx : (K.args p)[i]? with
      | none => rw [hx] at hv; cases hv
      | some u =>
        rw [hx] at hv
        simp only [Option.map_some, Option.some.injEq] at hv
        subst hv
        obtain ⟨X, h1, h2⟩ := hargs.get1 hx
        refine ⟨X, ?_, h2⟩
        simp only [List.getElem?_toArray, List.getElem?_append]
        rw [if_pos (by omega)]; exact h1
    · rw [List.getElem?_replicate] at hv
      split at hv <;> simp at hv
  · have hh := hlive hb
    have hm := hget hh
    obtain ⟨b0, b1, h1, h2, h3⟩ := I.blk i hm
    rw [hh] at h2
    injection h2 with h2
    subst h2
    have hrb := hR.hb _ _ h1
    show RB _ b (if i < K.m then ρ (sg0 ids i) else none)
    rw [if_pos hm]
    cases hr : ρ (sg0 ids i) with
    | none => rw [hr] at hrb; exact h3.2.1 hrb
    | some q =>
      rw [hr] at hrb
      obtain ⟨rc, el, lo, hi', flat, f1, f2, f3, f4, f5⟩ := hrb.cl h3.2.2
      exact .inl ⟨rc, el, lo, hi', flat, f1, f2, h3.1 _ _ hdn flat f3, f4, f5⟩
  · have hm := hget (hlive hb)
    have hm' := hget (hlive hb')
    rw [if_pos hm] at hr
    rw [if_pos hm'] at hr'
    obtain ⟨b0, b1, h1, _, _⟩ := I.blk i hm
    obtain ⟨b2, b3, h2, _, _⟩ := I.blk j hm'
    exact hσ i j hm hm' (hR.inj _ _ _ _ g o o' h1 h2 hr hr')
  · have hm := hget (hlive hb)
    rw [if_pos hm] at hr
    obtain ⟨b0, b1, h1, _, _⟩ := I.blk i hm
    refine ⟨?_, .inr ⟨i, o, hm, hr⟩⟩
    rintro (hF | ⟨id, b2, o', h2, h3, h4⟩)
    · exact (hR.nf _ _ g o h1 hr).1 hF
    · exact h3 i hm (hR.inj _ _ _ _ g o o' h1 h2 hr h4)
  · have hi' : i < K.m := by
      have hi'' : i ∈ K.pins := hi
      unfold Con.pins at hi''
      rw [List.mem_filter, List.mem_range] at hi''
      exact hi''.1
    obtain ⟨b0, b1, _, h2, _⟩ := I.blk i hi'
    refine ⟨?_, rfl⟩
    rw [show (K.start p n).blk i = .live b1 from blk_map_live.2 h2]
    simp
  · have := hR.gl g pd hg
    exact RV.dn hdn (v := .ept true pd.d pd.x) this fun i hi => by simp [AV.refs] at hi
end
end Go.Vc
