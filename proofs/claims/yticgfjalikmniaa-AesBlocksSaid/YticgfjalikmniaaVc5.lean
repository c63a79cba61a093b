/- Part of a proof: any block under any key is encrypted as the standard has it, as the document's answer tells (the law AesBlocks answers true at every input and leaves its arguments as they were). No further condition. -/
import Derived.Test.YticgfjalikmniaaVc4
import Derived.ProofKit
/- Vc, part Zg: behind a law that answers true: what 'post' asks. -/
namespace Go.Vc
set_option linter.unusedVariables false
set_option linter.unusedSimpArgs false
set_option linter.unusedSectionVars false
open Go.ChangeShapes Go.WideShapes Go.ChangeAt Go.RowKit

section
variable {H : Type} {enc : TypeId × Value → H} {P : Program}
theorem trodAll_keeps (hl : laidOutB P = true) {W W' : World} (hb : Below W.heap.size W W') (sp : Nat → Bool) : ∀ {ts : List TypeId} {vs : List Value} {ds : List (DataW H)} {ps : List MemPlace},
    (ts.all fun t => P.readableRec t && decide (t < P.types.size)) = true → DataW.TrodAll enc P W 0 (fun _ => true) true ts vs ds ps → (∀ x ∈ ps, x.block < W.heap.size) → (∀ x ∈ ps, sp x.block = true) → DataW.TrodAll enc P W' 0 sp true ts vs ds ps
  | [], vs, ds, ps, _, h, _, _ => by
    obtain ⟨rfl, rfl, rfl⟩ := trodAll_nil h
    exact h
  | t :: ts, vs, ds, ps, hr, h, hlt, hs => by
    obtain ⟨v, vs1, d, ds1, a, b, rfl, rfl, rfl, h1, h2⟩ := trodAll_cons h
    simp only [List.all_cons, Bool.and_eq_true, decide_eq_true_eq] at hr
    exact ⟨a, b, WideElems.Trod_stays hl hr.1.1 hr.1.2 h1 (fun x hx => hb.same (hlt x (List.mem_append_left _ hx))) (fun x hx => hs x (List.mem_append_left _ hx)),
      trodAll_keeps hl hb sp hr.2 h2 (fun x hx => hlt x (List.mem_append_right _ hx)) (fun x hx => hs x (List.mem_append_right _ hx)), rfl⟩
theorem trod_bool {tb : TypeId} (htb : P.underlying tb = some .bool) (W : World) (base : Nat) (sp : Nat → Bool) (hd : Bool) (b : Bool) : DataW.TrodAll enc P W base sp hd [tb] [.bool b] [.lit (.bool b)] [] :=
  ⟨[], [], ⟨1, by simp [DataW.trod, htb, Value.cells]⟩, rfl, rfl⟩
theorem law_post {f : Func} {s : ChangeSpec} {apart fresh handsOn again : Bool} {W W' : World} {args : Array Value} {ds gs : List (DataW H)} {before : List MemPlace} {tb : TypeId}
    (hW : DataW.Whole enc P f.params.toList s.vars apart W args.toList ds gs before) (hb : Below W.heap.size W W') (hl : laidOutB P = true) (hr : (f.params.toList.all fun t => P.readableRec t && decide (t < P.types.size)) = true)
    (hvr : s.vars = []) (hrt : f.resultTypes = #[tb]) (htb : P.underlying tb = some .bool) (h1 : (s.fn H (ds ++ gs)).results = [.lit (.bool true)]) (h2 : (s.fn H (ds ++ gs)).args = ds) (h3 : (s.fn H (ds ++ gs)).vars = []) :
    s.post enc P f apart fresh handsOn again W args (.bool true) W' := by
  have hlt : ∀ x ∈ before, x.block < W.heap.size := fun x hx => hW.lt x hx
  have hW0 := hW
  obtain ⟨p, q, hA, hV, hbe, hz, hn⟩ := hW
  rw [hvr] at hV
  have hgs : gs = [] ∧ q = [] := by
    cases gs with
    | nil => exact ⟨rfl, hV⟩
    | cons g gs => exact hV.elim
  obtain ⟨hg1, hq⟩ := hgs
  subst hq
  rw [List.append_nil] at hbe
  subst hbe
  have hrl : (Value.bool true).resultList f.resultTypes.size = [.bool true] := by rw [hrt]; rfl
  have hres : ∀ (b : Nat) (sp : Nat → Bool) (hd : Bool), DataW.TrodAll enc P W' b sp hd f.resultTypes.toList ((Value.bool true).resultList f.resultTypes.size) (s.fn H (ds ++ gs)).results [] := fun b sp hd => by
    rw [hrl, h1, hrt]; exact trod_bool htb W' b sp hd true
  have hargs : ∀ sp : Nat → Bool, (∀ x ∈ before, sp x.block = true) → DataW.TrodAll enc P W' 0 sp true f.params.toList args.toList (s.fn H (ds ++ gs)).args before := fun sp hs => by
    rw [h2]; exact trodAll_keeps hl hb sp hr hA hlt hs
  have hvars : ∀ sp : Nat → Bool, DataW.TrodVars enc P W' sp s.vars (s.fn H (ds ++ gs)).vars [] := fun sp => by rw [h3, hvr]; rfl
  refine ⟨ds, gs, before, [], before, [], hW0, hres _ _ _, hargs _ (fun x hx => by simpa using hlt x hx), hvars _, hb.frame _, fun _ => ⟨?_, _, _, ([] ++ before) ++ [], ⟨[] ++ before, [], trodAll_append (hargs _ (fun _ _ => rfl)) (hres _ _ _), hvars _, rfl, ?_, ?_⟩, ?_⟩⟩
  · intro j t r hj hv
    rw [hrl] at hv
    rw [hrt] at hj
    match j, hj, hv with
    | 0, hj, hv =>
      simp at hj hv
      subst hj hv
      simp [Value.okWide, htb, Cell.okWide, Cell.ok]
  · intro b off hp
    have hp' : MemPlace.cell b off ∈ before := by simpa using hp
    rw [hb.frozen (hlt _ hp')]
    exact hz b off hp'
  · intro ha
    simpa using hn ha
  · intro p hp _
    simpa using hp
end
end Go.Vc

/- Vc, part Zh: what an argument reads as, as pure data. -/
namespace Go.Vc
set_option linter.unusedVariables false
set_option linter.unusedSimpArgs false
set_option linter.unusedSectionVars false
open Go.ChangeShapes Go.WideShapes Go.ChangeAt Go.RowKit

/-- A type is of a kind; rows in memory are such that may be kept. -/
def TyK (P : Program) : Kd → TypeId → Prop
  | .int k, t => P.underlying t = some (.int k)
  | .bool, t => P.underlying t = some .bool
  | .str, t => P.underlying t = some .string
  | .arr n d, t => ∃ e, P.underlying t = some (.array n e) ∧ TyK P d e ∧ P.cellsOf e = d.sz ∧ P.cellsOf t = n * d.sz
  | .slice true d, t => ∃ e, P.underlying t = some (.slice e) ∧ TyK P d e ∧ P.cellsOf e = d.sz ∧ 0 < d.sz
  | .st d, t => ∃ fields, P.underlying t = some (.struct fields) ∧ FK P d fields.toList 0 ∧ P.cellsOf t = d.sz
  | _, _ => False
where
  FK (P : Program) : Kd → List Field → Nat → Prop
    | .pair a b, f :: fs, off => f.offset = off ∧ TyK P a f.type ∧ P.cellsOf f.type = a.sz ∧ FK P b fs (off + a.sz)
    | .unit, [], _ => True
    | _, _, _ => False

theorem RL_mk {α : Type} {R : α → List Value → Prop} {k : Nat} : ∀ (n : Nat) (cs : List Value), n * k ≤ cs.length → (∀ i, i < n → ∃ x, R x ((cs.drop (i * k)).take k)) → ∃ xs : List α, xs.length = n ∧ RL R xs (cs.take (n * k))
  | 0, cs, _, _ => ⟨[], rfl, by simp [RL]⟩
  | n + 1, cs, hl, h => by
    have hk : k ≤ cs.length := by rw [Nat.add_mul] at hl; omega
    obtain ⟨x, hx⟩ := h 0 (by omega)
    obtain ⟨xs, h1, h2⟩ := RL_mk (R := R) (k := k) n (cs.drop k) (by rw [List.length_drop]; rw [Nat.add_mul] at hl; omega) (fun i hi => by
      obtain ⟨y, hy⟩ := h (i + 1) (by omega)
      refine ⟨y, ?_⟩
      rw [List.drop_drop, show k + i * k = (i + 1) * k by rw [Nat.add_mul]; omega]
      exact hy)
    refine ⟨x :: xs, by simp [h1], cs.take k, (cs.drop k).take (n * k), ?_, by simpa using hx, h2⟩
    rw [show (n + 1) * k = k + n * k by rw [Nat.add_mul]; omega, List.take_add]
theorem int_of_wf {k : IntKind} {n : Int} (h : (Lit.int k n).wf = true) : ∃ x : IntT k, toI k x = n := by
  refine ⟨wrapT k n, ?_⟩
  rw [toI_wrapT]
  simp only [Lit.wf, Bool.and_eq_true, decide_eq_true_eq] at h
  obtain ⟨h1, h2⟩ := h
  cases k <;> simp only [IntKind.min, IntKind.max, IntKind.signed, IntKind.bits] at h1 h2
  all_goals (simp only [IntKind.wrap, IntKind.bits, IntKind.signed] at *; first | omega | (simp; omega) | (simp at *; omega))

section
variable {H : Type} {enc : TypeId × Value → H} {P : Program} {w : World} {base : Nat} {sp : Nat → Bool} {hd : Bool}
/-- Cells that are there, one behind the other. -/
theorem cells_at {a : Addr} {n : Nat} {cs : List Value} (hn : 0 < n) (h : w.cells? base a n = some cs) : a.spot = none ∧ ∃ rc el fr, w.heap[a.block]? = some (.cells rc el fr) ∧ (rc.toList.drop a.off).take n = cs ∧ a.off + n ≤ rc.size := by
  unfold World.cells? at h
  split at h
  · have hlen := mapM_some_length h
    rw [List.length_range] at hlen
    have hget : ∀ i, i < n → w.cell? (a.add i) = cs[i]? := fun i hi => mapM_some_get h i i (by rw [List.getElem?_range hi])
    have h0 := hget 0 hn
    have e0 : a.add 0 = a := by simp [Addr.add]
    rw [e0, List.getElem?_eq_getElem (by omega)] at h0
    unfold World.cell? at h0
    split at h0
    · rename_i rc el fr hb
      split at h0
      · cases h0
      · rename_i hsp
        have hsn : a.spot = none := by simpa using hsp
        have hcell : ∀ i, i < n → rc[a.off + i]? = cs[i]? := fun i hi => by
          have := hget i hi
          have e : a.add i = ⟨a.block, a.off + i, none⟩ := by
            unfold Addr.add
            split
            · rename_i hz; subst hz; cases a; simp at hsn ⊢; exact hsn
            · rfl
          rw [e] at this
          simpa [World.cell?, hb] using this
        have hsize : a.off + n ≤ rc.size := by
          have := hcell (n - 1) (by omega)
          rw [List.getElem?_eq_getElem (by omega)] at this
          have := (Array.getElem?_eq_some_iff.1 this).1
          omega
        refine ⟨hsn, rc, el, fr, hb, ?_, hsize⟩
        apply List.ext_getElem?
        intro i
        rw [List.getElem?_take]
        split
        · rename_i hi
          rw [List.getElem?_drop, Array.getElem?_toList]
          exact hcell i hi
        · rw [List.getElem?_eq_none (by omega)]
    · cases h0
  · cases h
/-- What an argument's cells read as. -/
theorem trod_reads {ok : Bool → Nat → Prop} (hok : ∀ own b, ok own b) : ∀ (n : Nat) (t : TypeId) (cs : List Value) (y : DataW H × List MemPlace), DataW.trod enc P w base sp hd n t cs = some y → ∀ d : Kd, TyK P d t → ∃ x : d.T, Reads ok (fun b => w.heap[b]?) d x cs := by
  intro n
  induction n with
  | zero => intro t cs y h; simp [DataW.trod] at h
  | succ n ih =>
    intro t cs y h d hd'
    have fields : ∀ (d : Kd) (fs : List Field) (off : Nat) (xs : List (DataW H × List MemPlace)), TyK.FK P d fs off → cs.length = off + d.sz → (fs.mapM fun f => DataW.trod enc P w base sp hd n f.type ((cs.drop f.offset).take (P.cellsOf f.type))) = some xs → ∃ x : d.T, Reads ok (fun b => w.heap[b]?) d x (cs.drop off) := by
      intro d
      induction d with
      | pair a b iha ihb =>
        intro fs off xs hf hl hm
        cases fs with
        | nil => exact hf.elim
        | cons f fs =>
          obtain ⟨f1, f2, f3, f4⟩ := hf
          have h0 := mapM_some_get hm 0 f rfl
          have hm' : ∃ xs', (fs.mapM fun f => DataW.trod enc P w base sp hd n f.type ((cs.drop f.offset).take (P.cellsOf f.type))) = some xs' := by
            rw [List.mapM_cons] at hm
            cases h1 : DataW.trod enc P w base sp hd n f.type ((cs.drop f.offset).take (P.cellsOf f.type)) with
            | none => rw [h1] at hm; cases hm
            | some z =>
              rw [h1] at hm
              cases h2 : (fs.mapM fun f => DataW.trod enc P w base sp hd n f.type ((cs.drop f.offset).take (P.cellsOf f.type))) with
              | none => rw [h2] at hm; cases hm
              | some z' => exact ⟨z', rfl⟩
          obtain ⟨xs', hm'⟩ := hm'
          have hz : ∃ z, DataW.trod enc P w base sp hd n f.type ((cs.drop f.offset).take (P.cellsOf f.type)) = some z := by
            cases xs with
            | nil => have := mapM_some_length hm; simp at this
            | cons z zs => exact ⟨z, h0⟩
          obtain ⟨z, hz⟩ := hz
          obtain ⟨x1, hx1⟩ := ih _ _ _ hz a f2
          simp only [Kd.sz] at hl
          obtain ⟨x2, hx2⟩ := ihb fs (off + a.sz) xs' f4 (by omega) hm'
          refine ⟨(x1, x2), _, _, ?_, hx1, hx2⟩
          rw [f1, f3, ← List.drop_drop, List.take_append_drop]
      | unit =>
        intro fs off xs hf hl hm
        refine ⟨(), ?_⟩
        show cs.drop off = []
        rw [List.drop_eq_nil_of_le]
        simp only [Kd.sz] at hl
        omega
      | _ => intro fs off xs hf; cases fs <;> exact hf.elim
    cases d with
    | int k =>
      have hu : P.underlying t = some (.int k) := hd'
      cases cs with
      | nil => simp [DataW.trod, hu] at h
      | cons v r =>
        cases r with
        | cons => cases v <;> simp [DataW.trod, hu] at h
        | nil =>
          cases v <;> simp [DataW.trod, hu] at h
          rename_i k' m
          obtain ⟨⟨e, hw⟩, _⟩ := h
          subst e
          obtain ⟨x, hx⟩ := int_of_wf hw
          exact ⟨x, by show _ = _; rw [hx]⟩
    | bool =>
      have hu : P.underlying t = some .bool := hd'
      cases cs with
      | nil => simp [DataW.trod, hu] at h
      | cons v r =>
        cases r with
        | cons => cases v <;> simp [DataW.trod, hu] at h
        | nil =>
          cases v <;> simp [DataW.trod, hu] at h
          exact ⟨_, rfl⟩
    | str =>
      have hu : P.underlying t = some .string := hd'
      cases cs with
      | nil => simp [DataW.trod, hu] at h
      | cons v r =>
        cases r with
        | cons => cases v <;> simp [DataW.trod, hu] at h
        | nil =>
          cases v <;> simp [DataW.trod, hu] at h
          rename_i b
          exact ⟨b.data.toList, rfl⟩
    | arr m d =>
      obtain ⟨e, hu, he, hs, ht⟩ := hd'
      have h2 : cs.length = P.cellsOf t ∧ ∃ xs, ((List.range m).mapM fun i => DataW.trod enc P w base sp hd n e ((cs.drop (i * P.cellsOf e)).take (P.cellsOf e))) = some xs := by
        unfold DataW.trod at h
        rw [hu] at h
        simp only at h
        split at h
        · rename_i hl
          cases hx : ((List.range m).mapM fun i => DataW.trod enc P w base sp hd n e ((cs.drop (i * P.cellsOf e)).take (P.cellsOf e))) with
          | none => rw [hx] at h; cases h
          | some xs => exact ⟨hl, xs, rfl⟩
        · cases h
      obtain ⟨hl, xs, hx⟩ := h2
      rw [ht] at hl
      have hlen := mapM_some_length hx
      rw [List.length_range] at hlen
      obtain ⟨l, h1, h2⟩ := RL_mk (R := Reads ok (fun b => w.heap[b]?) d) (k := d.sz) m cs (by omega) (fun i hi => by
        have := mapM_some_get hx i i (by rw [List.getElem?_range hi])
        rw [List.getElem?_eq_getElem (by omega)] at this
        rw [hs] at this
        exact ih _ _ _ this d he)
      refine ⟨l, h1, ?_⟩
      rwa [← hl, List.take_length] at h2
    | st d =>
      obtain ⟨fs, hu, hf, ht⟩ := hd'
      have h2 : cs.length = P.cellsOf t ∧ ∃ xs, (fs.toList.mapM fun f => DataW.trod enc P w base sp hd n f.type ((cs.drop f.offset).take (P.cellsOf f.type))) = some xs := by
        unfold DataW.trod at h
        rw [hu] at h
        simp only at h
        split at h
        · rename_i hl
          cases hx : (fs.toList.mapM fun f => DataW.trod enc P w base sp hd n f.type ((cs.drop f.offset).take (P.cellsOf f.type))) with
          | none => rw [hx] at h; cases h
          | some xs => exact ⟨hl, xs, rfl⟩
        · cases h
      obtain ⟨hl, xs, hx⟩ := h2
      obtain ⟨x, hx⟩ := fields d fs.toList 0 xs hf (by rw [hl, ht]; omega) hx
      rw [List.drop_zero] at hx
      exact ⟨x, hx⟩
    | slice own d =>
      cases own with
      | false => exact hd'.elim
      | true =>
      obtain ⟨e, hu, he, hs, hpos⟩ := hd'
      cases cs with
      | nil => simp [DataW.trod, hu] at h
      | cons v r =>
        cases r with
        | cons => cases v <;> simp [DataW.trod, hu] at h
        | nil =>
          cases v with
          | slice A len cap =>
            cases A with
            | none =>
              unfold DataW.trod at h
              rw [hu] at h
              cases len <;> cases cap <;> simp at h
              exact ⟨([] : List d.T), none, 0, rfl, Nat.le_refl _, .inl rfl⟩
            | some a =>
              unfold DataW.trod at h
              rw [hu] at h
              simp only at h
              split at h
              · rename_i hc
                cases hx : ((List.range len).mapM fun i => (w.cells? base (a.add (i * P.cellsOf e)) (P.cellsOf e)).bind (DataW.trod enc P w base sp hd n e)) with
                | none => rw [hx] at h; cases h
                | some xs =>
                  have hlen := mapM_some_length hx
                  rw [List.length_range] at hlen
                  rcases Nat.eq_zero_or_pos len with h0 | h0
                  · subst h0
                    exact ⟨([] : List d.T), some a, cap, rfl, hc.2.1, .inl rfl⟩
                  · have hel : ∀ i, i < len → ∃ ci x, w.cells? base (a.add (i * d.sz)) d.sz = some ci ∧ Reads ok (fun b => w.heap[b]?) d x ci := fun i hi => by
                      have := mapM_some_get hx i i (by rw [List.getElem?_range hi])
                      rw [List.getElem?_eq_getElem (by omega), hs] at this
                      cases hci : w.cells? base (a.add (i * d.sz)) d.sz with
                      | none => rw [hci] at this; cases this
                      | some ci =>
                        rw [hci] at this
                        obtain ⟨x, hx⟩ := ih _ _ _ this d he
                        exact ⟨ci, x, rfl, hx⟩
                    obtain ⟨c0, x0, hc0, _⟩ := hel 0 h0
                    rw [Nat.zero_mul, show a.add 0 = a by simp [Addr.add]] at hc0
                    obtain ⟨hsp, rc, el, fr, hb, _, _⟩ := cells_at hpos hc0
                    have hadd : ∀ q, a.add q = ⟨a.block, a.off + q, none⟩ := fun q => by
                      unfold Addr.add
                      split
                      · rename_i hz; subst hz; cases a; simp at hsp ⊢; exact hsp
                      · rfl
                    have hpart : ∀ i, i < len → ∃ x, Reads ok (fun b => w.heap[b]?) d x ((rc.toList.drop (a.off + i * d.sz)).take d.sz) ∧ a.off + i * d.sz + d.sz ≤ rc.size := fun i hi => by
                      obtain ⟨ci, x, h1, h2⟩ := hel i hi
                      rw [hadd] at h1
                      obtain ⟨_, rc', el', fr', hb', h3, h4⟩ := cells_at hpos h1
                      simp only at hb' h3 h4
                      rw [hb] at hb'
                      injection hb' with hb'
                      injection hb' with hb' _ _
                      subst hb'
                      exact ⟨x, by rw [h3]; exact h2, h4⟩
                    have hsize : len * d.sz ≤ (rc.toList.drop a.off).length := by
                      obtain ⟨_, _, h4⟩ := hpart (len - 1) (by omega)
                      have : len * d.sz = (len - 1) * d.sz + d.sz := by
                        conv => lhs; rw [show len = (len - 1) + 1 by omega, Nat.add_mul, Nat.one_mul]
                      rw [List.length_drop, Array.length_toList]; omega
                    obtain ⟨l, h1, h2⟩ := RL_mk (R := Reads ok (fun b => w.heap[b]?) d) (k := d.sz) len (rc.toList.drop a.off) hsize (fun i hi => by
                      obtain ⟨x, hx, _⟩ := hpart i hi
                      exact ⟨x, by rw [List.drop_drop]; exact hx⟩)
                    refine ⟨l, some a, cap, by rw [h1], by rw [h1]; exact hc.2.1, .inr ⟨a.block, a.off, rc, el, fr, _, ?_, hok _ _, hb, h2, ?_⟩⟩
                    · cases a; simp at hsp ⊢; exact hsp
                    · rw [List.length_take, Nat.min_eq_left hsize]
              · cases h
          | _ => simp [DataW.trod, hu] at h
    | pair a b => exact hd'.elim
    | unit => exact hd'.elim
end
end Go.Vc

/- Vc, part Zi: a law's call. -/
namespace Go.Vc
set_option linter.unusedVariables false
set_option linter.unusedSimpArgs false
set_option linter.unusedSectionVars false
open Go.ChangeShapes Go.WideShapes Go.ChangeAt Go.RowKit

section
variable {H : Type} {enc : TypeId × Value → H} {P : Program} {W : World}
theorem arg_RV {d : Kd} {t : TypeId} (hd : TyK P d t) {base b0 : Nat} {sp : Nat → Bool} {held : Bool} {v : Value} {D : DataW H} {ps : List MemPlace} (hv : Value.okWide P W .any base t v) (h : DataW.Trod enc P W b0 sp held t v D ps) {c : Ctx} (hok : ∀ own b, c.ok own b) (hhp : c.hp = fun b => W.heap[b]?) :
    ∃ x : d.T, RV c (.ofKd d x) v := by
  obtain ⟨n, hn⟩ := h
  obtain ⟨x, hx⟩ := trod_reads hok n t _ _ hn d hd
  rw [← hhp] at hx
  refine ⟨x, ?_⟩
  cases hag : d.isAgg with
  | true =>
    have hagg : ∃ cs, v = .agg cs := by
      cases d with
      | arr m d => obtain ⟨e, hu, _⟩ := hd; simp only [Value.okWide, hu] at hv; obtain ⟨cs, h1, _⟩ := hv; exact ⟨cs, h1⟩
      | st d => obtain ⟨e, hu, _⟩ := hd; simp only [Value.okWide, hu] at hv; obtain ⟨cs, h1, _⟩ := hv; exact ⟨cs, h1⟩
      | pair => exact hd.elim
      | unit => exact hd.elim
      | _ => cases hag
    obtain ⟨cs, rfl⟩ := hagg
    exact .agg _ _ (by rw [ofKd_isAgg, hag]) (RC.ofKd hx)
  | false =>
    have hone : ∀ cs, v ≠ .agg cs := by
      intro cs e
      subst e
      cases d with
      | int k => have hu : P.underlying t = some (.int k) := hd; simp [Value.okWide, hu, Cell.okWide, Cell.ok] at hv
      | bool => have hu : P.underlying t = some .bool := hd; simp [Value.okWide, hu, Cell.okWide, Cell.ok] at hv
      | str => have hu : P.underlying t = some .string := hd; simp [Value.okWide, hu, Cell.okWide, Cell.ok] at hv
      | slice own d =>
        cases own with
        | false => exact hd.elim
        | true => obtain ⟨e, hu, _⟩ := hd; simp [Value.okWide, hu, Cell.okWide, Cell.ok] at hv
      | _ => cases hag
    have hc : v.cells.toList = [v] := by
      cases v <;> first | rfl | exact absurd rfl (hone _)
    rw [hc] at hx
    exact .one _ _ (by rw [ofKd_isAgg, hag]) (RC.ofKd hx)
def env0 (W : World) : Env where
  F := fun _ => False
  w0 := W
  T := fun _ => False
  ρ0 := fun _ => none
  pin := fun _ => False
  glob := fun _ => none
  hF := fun _ h => h.elim
def S0 : AS := ⟨[none], []⟩
def ctx0 (W : World) : Ctx := ctx (env0 W) (fun _ => none) S0.blk W
theorem S0_blk (id : Nat) : S0.blk id = .unborn := by simp [AS.blk, S0]
theorem ctx0_ok (W : World) : ∀ own b, (ctx0 W).ok own b := fun own b => by
  refine ⟨fun id bl o h => ?_, fun _ h => h⟩
  have h' : S0.blk id = .live bl := h
  rw [S0_blk] at h'
  cases h'
theorem rel0 (W : World) : Rel (env0 W) (fun _ => none) S0 ⟨#[undef], []⟩ W := by
  refine ⟨rfl, rfl, fun i v hv => ?_, fun id b h => ?_, fun id id' b b' g o o' h => ?_, fun id b g o h => ?_, Kept.refl _ _, fun id h => h.elim, fun g pd h => by cases h⟩
  · cases i with
    | zero => simp [S0] at hv
    | succ i => simp [S0] at hv
  · rw [S0_blk] at h; cases h
  · rw [S0_blk] at h; cases h
  · rw [S0_blk] at h; cases h
theorem law_calls {f : FuncId} {sum : List AV → Nat → HP Res} (hF : FSumOK P (fun _ => none) f sum) {avs : List AV} {V : List Value} (hV : RVs (ctx0 W) avs V) {r : Res} {l : List Nat}
    (hrun : (sum avs 0).run S0.blk = some (r, l)) (hob : ∀ q ∈ r.obs, q) (hv : r.v = some (.bool true)) : Calls P f V.toArray W fun e W' => e = .returned (.bool true) ∧ Below W.heap.size W W' := by
  have := hF.calls S0 avs 0 r l hrun hob (fun j _ => S0_blk _) (env0 W) (fun _ => none) ⟨#[undef], []⟩ W rfl (fun k _ h => h) (rel0 W) V hV
  refine this.mono fun e W' ⟨v, ρ', he, hrel⟩ => ?_
  have hR := hrel (some 0)
  have ht : (S0.app (some 0) r).tmps[0]? = some (some (.bool true)) := by
    have h1 := app_tmp S0 (some 0) r 0
    rw [if_pos ⟨rfl, by simp [S0]⟩, hv] at h1
    have h2 : 0 < (S0.app (some 0) r).tmps.length := by rw [app_len]; simp [S0]
    rw [List.getD_eq_getElem?_getD, List.getElem?_eq_getElem h2] at h1
    rw [List.getElem?_eq_getElem h2]
    simpa using h1
  obtain ⟨X, h1, h2⟩ := hR.tm 0 _ ht
  have hX : X = v := by simpa [Act.put] using h1.symm
  have hb := h2.bool_inv
  rw [hX] at hb
  refine ⟨by rw [he, hb], hR.fr.os, hR.fr.tape, hR.fr.output, hR.fr.size, fun k hk => hR.fr.block k hk (fun h => h)⟩
end
end Go.Vc

/- Vc, part Zj: a region, operation by operation. -/
namespace Go.Vc
set_option linter.unusedVariables false
set_option linter.unusedSimpArgs false
set_option linter.unusedSectionVars false
theorem Obs.app : ∀ {l m : List Prop}, Obs l → Obs m → Obs (l ++ m)
  | [], _, _, h => h
  | _ :: l, _, h, k => ⟨h.1, Obs.app (l := l) h.2 k⟩
def RunT (C : Cfg2) (ops : Array Oper) (l : List Oper) (S : AS) (K : AS → Prop) : Prop := ∃ S' obs, runOps C ops l S = some (S', obs) ∧ Obs obs ∧ K S'
def RunD (C : Cfg2) (ops : Array Oper) (l : List Oper) (S : AS) (K : AS → List FP → Prop) : Prop := ∃ S' obs fps, runRc C ops l S = some (S', obs, fps) ∧ Obs obs ∧ K S' fps
section
variable {P : Program} {C : Cfg2} {ops : Array Oper} {o : Oper} {rest : List Oper} {S S1 : AS} {r : Res} {rd : List Nat}
theorem wantedA_none (h : o.guard = none) : wantedA ops S o = some true := by simp only [wantedA, h]
theorem RunT.nil {K : AS → Prop} (h : K S) : RunT C ops [] S K := ⟨S, [], rfl, trivial, h⟩
theorem RunT.one {K : AS → Prop} (hw : wantedA ops S o = some true) (hp : (opProg C (S.ev C.G) S.heap.length o).run S.blk = some (r, rd)) (hS : S.app o.dst r = S1) (ho : Obs r.obs)
    (h : RunT C ops rest S1 K) : RunT C ops (o :: rest) S K := by
  obtain ⟨S', obs, h1, h2, h3⟩ := h
  refine ⟨S', r.obs ++ obs, ?_, ho.app h2, h3⟩
  simp only [runOps, hw, hp, hS, h1]
theorem RunT.not {K : AS → Prop} (hw : wantedA ops S o = some false) (hS : S.put o.dst (some (.tuple [])) = S1)
    (h : RunT C ops rest S1 K) : RunT C ops (o :: rest) S K := by
  obtain ⟨S', obs, h1, h2, h3⟩ := h
  refine ⟨S', obs, ?_, h2, h3⟩
  simp only [runOps, hw, hS, h1]
theorem RunD.nil {K : AS → List FP → Prop} (h : K S []) : RunD C ops [] S K := ⟨S, [], [], rfl, trivial, h⟩
theorem RunD.one {K : AS → List FP → Prop} (hw : wantedA ops S o = some true) (hp : (opProg C (S.ev C.G) S.heap.length o).run S.blk = some (r, rd)) (hS : S.app o.dst r = S1) (ho : Obs r.obs)
    (h : RunD C ops rest S1 (fun S' fps => K S' (Rc.fp ops ⟨o, S, r, S.heap.length, rd⟩ :: fps))) : RunD C ops (o :: rest) S K := by
  obtain ⟨S', obs, fps, h1, h2, h3⟩ := h
  refine ⟨S', r.obs ++ obs, _, ?_, ho.app h2, h3⟩
  simp only [runRc, hw, hp, hS, h1]
theorem RunD.not {K : AS → List FP → Prop} (hw : wantedA ops S o = some false) (hS : S.put o.dst (some (.tuple [])) = S1)
    (h : RunD C ops rest S1 (fun S' fps => K S' (Rc.fp ops ⟨o, S, { v := some (.tuple []) }, S.heap.length, []⟩ :: fps))) : RunD C ops (o :: rest) S K := by
  obtain ⟨S', obs, fps, h1, h2, h3⟩ := h
  refine ⟨S', obs, _, ?_, h2, h3⟩
  simp only [runRc, hw, hS, h1]
theorem Tri.at {c : Code} {Q : Exit → AS → Prop} (hS : S = S1) (h : Tri P C S1 c Q) : Tri P C S c Q := hS ▸ h
theorem Tri.regT (hC : CfgOK P C) {id : Nat} {l : List Oper} {K : AS → Prop} {Q : Exit → AS → Prop} (h : RunT C l.toArray l S K) : Tri P C S (.region id l.toArray false) (Then K Q) := by
  obtain ⟨S', obs, h1, h2, h3⟩ := h
  exact Tri.reg hC h1 h2 h3
theorem Tri.rgnT (hC : CfgOK P C) {id : Nat} {l : List Oper} {Q : Exit → AS → Prop} (h : RunT C l.toArray l S (Q .normal)) : Tri P C S (.region id l.toArray false) Q := by
  obtain ⟨S', obs, h1, h2, h3⟩ := h
  exact Tri.rgn hC h1 h2 h3
theorem Tri.drwT (hm : P.follows .mixedOrders = true) (hC : CfgOK P C) {id : Nat} {l : List Oper} {K : AS → Prop} {Q : Exit → AS → Prop} (h : RunD C l.toArray l S (fun S' fps => drawOK l fps = true ∧ K S')) : Tri P C S (.region id l.toArray true) (Then K Q) := by
  obtain ⟨S', obs, fps, h1, h2, h3, h4⟩ := h
  exact Tri.drw hm hC h1 h2 h3 h4
theorem Tri.drnT (hm : P.follows .mixedOrders = true) (hC : CfgOK P C) {id : Nat} {l : List Oper} {Q : Exit → AS → Prop} (h : RunD C l.toArray l S (fun S' fps => drawOK l fps = true ∧ Q .normal S')) : Tri P C S (.region id l.toArray true) Q := by
  obtain ⟨S', obs, fps, h1, h2, h3, h4⟩ := h
  exact Tri.drn hm hC h1 h2 h3 h4
end
end Go.Vc

/- Vc, part Zk: bits of ints that are not below 0. -/
namespace Go.Vc
set_option linter.unusedVariables false
set_option linter.unusedSimpArgs false
set_option linter.unusedSectionVars false
theorem xor64 (a b : Nat) (ha : a < 9223372036854775808) (hb : b < 9223372036854775808) : xorT .i64 (a : Int) (b : Int) = ((a ^^^ b : Nat) : Int) := by
  show bits .xor .i64 (a : Int) (b : Int) = _
  rw [bits_ofNat]
  have h : (BitVec.ofNat IntKind.i64.bits a ^^^ BitVec.ofNat IntKind.i64.bits b).toNat = a ^^^ b := by
    show (BitVec.ofNat 64 a ^^^ BitVec.ofNat 64 b).toNat = _
    rw [BitVec.toNat_xor, BitVec.toNat_ofNat, BitVec.toNat_ofNat, Nat.mod_eq_of_lt (by omega), Nat.mod_eq_of_lt (by omega)]
  show IntKind.i64.wrap ((BitVec.ofNat IntKind.i64.bits a ^^^ BitVec.ofNat IntKind.i64.bits b).toNat : Int) = _
  rw [h]
  have := Nat.xor_lt_two_pow (n := 63) (x := a) (y := b) ha hb
  exact wrapN _ (by omega)
theorem and64 (a b : Nat) (ha : a < 9223372036854775808) (hb : b < 9223372036854775808) : andT .i64 (a : Int) (b : Int) = ((a &&& b : Nat) : Int) := by
  show bits .and .i64 (a : Int) (b : Int) = _
  rw [bits_ofNat]
  have h : (BitVec.ofNat IntKind.i64.bits a &&& BitVec.ofNat IntKind.i64.bits b).toNat = a &&& b := by
    show (BitVec.ofNat 64 a &&& BitVec.ofNat 64 b).toNat = _
    rw [BitVec.toNat_and, BitVec.toNat_ofNat, BitVec.toNat_ofNat, Nat.mod_eq_of_lt (by omega), Nat.mod_eq_of_lt (by omega)]
  show IntKind.i64.wrap ((BitVec.ofNat IntKind.i64.bits a &&& BitVec.ofNat IntKind.i64.bits b).toNat : Int) = _
  rw [h]
  have : a &&& b ≤ a := Nat.and_le_left
  exact wrapN _ (by omega)
theorem or64 (a b : Nat) (ha : a < 9223372036854775808) (hb : b < 9223372036854775808) : orT .i64 (a : Int) (b : Int) = ((a ||| b : Nat) : Int) := by
  show bits .or .i64 (a : Int) (b : Int) = _
  rw [bits_ofNat]
  have h : (BitVec.ofNat IntKind.i64.bits a ||| BitVec.ofNat IntKind.i64.bits b).toNat = a ||| b := by
    show (BitVec.ofNat 64 a ||| BitVec.ofNat 64 b).toNat = _
    rw [BitVec.toNat_or, BitVec.toNat_ofNat, BitVec.toNat_ofNat, Nat.mod_eq_of_lt (by omega), Nat.mod_eq_of_lt (by omega)]
  show IntKind.i64.wrap ((BitVec.ofNat IntKind.i64.bits a ||| BitVec.ofNat IntKind.i64.bits b).toNat : Int) = _
  rw [h]
  have := Nat.or_lt_two_pow (n := 63) (x := a) (y := b) ha hb
  exact wrapN _ (by omega)
theorem xor64r (a b : Nat) (ha : a < 9223372036854775808) (hb : b < 9223372036854775808) : xorT .i64 (a : Int) (no_index (OfNat.ofNat b)) = ((a ^^^ (OfNat.ofNat b : Nat) : Nat) : Int) := xor64 a b ha hb
theorem and64r (a b : Nat) (ha : a < 9223372036854775808) (hb : b < 9223372036854775808) : andT .i64 (a : Int) (no_index (OfNat.ofNat b)) = ((a &&& (OfNat.ofNat b : Nat) : Nat) : Int) := and64 a b ha hb
theorem shr64 (a n : Nat) (h : n < 64) : shrT .i64 (a : Int) n = ((a / 2 ^ n : Nat) : Int) := by
  show Int.fdiv (a : Int) (2 ^ min n 64) = _
  rw [show min n 64 = n by omega]
  have : ((2 : Int) ^ n) = ((2 ^ n : Nat) : Int) := by simp
  rw [this, Int.fdiv_eq_ediv_of_nonneg _ (Int.natCast_nonneg _)]
  rfl
theorem shr64l (a n : Nat) (h : n < 64) : shrT .i64 (no_index (OfNat.ofNat a)) n = (((OfNat.ofNat a : Nat) / 2 ^ n : Nat) : Int) := shr64 a n h
theorem shl64 (a n : Nat) (h : n < 64) (hb : a * 2 ^ n ≤ 9223372036854775807) : shlT .i64 (a : Int) n = ((a * 2 ^ n : Nat) : Int) := by
  show IntKind.i64.wrap (Int.mul (a : Int) (2 ^ min n 64)) = _
  rw [show min n 64 = n by omega]
  have : ((2 : Int) ^ n) = ((2 ^ n : Nat) : Int) := by simp
  rw [this]
  exact wrapN _ hb
theorem u64nat (n : Nat) (h : n < 18446744073709551616) : (UInt64.ofInt (n : Int)).toNat = n := by
  show (UInt64.ofNat _).toNat = n
  have : ((n : Int) % (2 ^ 64 : Nat)).toNat = n := by omega
  simp [this]
  omega
end Go.Vc
