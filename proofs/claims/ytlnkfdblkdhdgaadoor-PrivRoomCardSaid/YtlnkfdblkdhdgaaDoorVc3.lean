/- Part of a proof: No more boxes are open than there is room for; what is acknowledged makes room for as many -/
import Derived.Test.YtlnkfdblkdhdgaaDoorVc2
import Derived.KernelRfl
import Derived.ProofKit
set_option linter.unusedVariables false
set_option linter.unusedSimpArgs false
set_option linter.unusedSectionVars false
namespace Go.Vc
section
variable {P : Program} {C : Cfg2} {E : Env} {ρ : Nat → Option (Nat × Nat)} {S : AS} {a : Act} {w : World}
def rho3 (ρ ρ2 : Nat → Option (Nat × Nat)) (ids : List Nat) (nb m n : Nat) : Nat → Option (Nat × Nat) := fun id =>
  if id ∈ ids then ρ2 (ids.idxOf id) else if nb ≤ id ∧ id < nb + (n - m) then ρ2 (m + (id - nb)) else ρ id
theorem call_end {K : Con} {args : List AV} {p : K.Par} {ids : List Nat} {obs : List Prop} {nb : Nat} (hR : Rel E ρ S a w) (I : InvOK1 K S.blk args p ids)
    (hnew : ∀ j, j < (K.res p ids obs nb).new → S.blk (nb + j) = .unborn) (hpin : ∀ k ∈ (K.res p ids obs nb).kill, ¬ E.pin k) (hsize : K.m ≤ (K.out p).fin.length)
    (hs1 : (K.out p).v.strict = true) (hs2 : AV.strict.strictL (K.out p).fin = true) {ρ2 : Nat → Option (Nat × Nat)} {X : Value} {w' : World}
    (hF : Rel (callEnv E ρ S w (sg0 ids) K.m K.pins (callEnv_hF hR _ _)) ρ2 ⟨[some (K.out p).v], (K.out p).fin.map .live⟩ ⟨#[X], []⟩ w') :
    ∀ dst, Rel E (rho3 ρ ρ2 ids nb K.m (K.out p).fin.length) (S.app dst (K.res p ids obs nb)) (a.put dst X) w' := by
  generalize hfin : (K.out p).fin = fin at *
  generalize hv : (K.out p).v = v at *
  have hres : K.res p ids obs nb = { v := some (v.tr (sg ids nb K.m fin.length)), wr := wrL (sg ids nb K.m fin.length) fin 0, kill := K.kill.map (ids.getD · 0), obs := obs ++ K.pre p, new := fin.length - K.m } := by
    unfold Con.res
    rw [hfin, hv]
  rw [hres] at hnew hpin ⊢
  simp only at hnew hpin
  generalize hσ1 : sg ids nb K.m fin.length = σ1
  generalize hkl : K.kill.map (ids.getD · 0) = kl at *
  -- the names
  have hσ : ∀ i j, i < K.m → j < K.m → sg0 ids i = sg0 ids j → i = j := by
    intro i j hi hj h
    have h1 : i < ids.length := by rw [I.len]; exact hi
    have h2 : j < ids.length := by rw [I.len]; exact hj
    simp only [sg0, List.getD_eq_getElem?_getD, List.getElem?_eq_getElem h1, List.getElem?_eq_getElem h2, Option.getD_some] at h
    exact (List.getElem_inj I.nodup).1 h
  have hmem : ∀ i, i < K.m → sg0 ids i ∈ ids := by
    intro i hi
    have h1 : i < ids.length := by rw [I.len]; exact hi
    simp only [sg0, List.getD_eq_getElem?_getD, List.getElem?_eq_getElem h1, Option.getD_some]
    exact List.getElem_mem h1
  have hofmem : ∀ id, id ∈ ids → ids.idxOf id < K.m ∧ sg0 ids (ids.idxOf id) = id := by
    intro id h
    have h1 : ids.idxOf id < ids.length := List.idxOf_lt_length_iff.2 h
    refine ⟨by rw [← I.len]; exact h1, ?_⟩
    simp only [sg0, List.getD_eq_getElem?_getD, List.getElem?_eq_getElem h1, Option.getD_some]
    exact List.getElem_idxOf h1
  have hidx : ∀ i, i < K.m → ids.idxOf (sg0 ids i) = i := fun i hi => by
    obtain ⟨h1, h2⟩ := hofmem _ (hmem i hi)
    exact hσ _ _ h1 hi h2
  have hliveI : ∀ i, i < K.m → ∃ b, S.blk (sg0 ids i) = .live b := fun i hi => by
    obtain ⟨b, _, h, _⟩ := I.blk i hi
    exact ⟨b, h⟩
  have hnotids : ∀ j, j < fin.length - K.m → nb + j ∉ ids := by
    intro j hj hin
    obtain ⟨h1, h2⟩ := hofmem _ hin
    obtain ⟨b, hb⟩ := hliveI _ h1
    rw [h2, hnew j hj] at hb
    cases hb
  have ht1 : ∀ i, i < K.m → σ1 i = some (sg0 ids i) := fun i hi => by rw [← hσ1]; simp only [sg, if_pos hi]; rfl
  have ht2 : ∀ i, K.m ≤ i → i < fin.length → σ1 i = some (nb + (i - K.m)) := fun i h1 h2 => by rw [← hσ1]; simp only [sg]; rw [if_neg (by omega), if_pos h2]
  have ht3 : ∀ i j, σ1 i = some j → i < fin.length := fun i j h => by
    rw [← hσ1] at h
    simp only [sg] at h
    split at h
    · omega
    · split at h
      · assumption
      · cases h
  generalize hT : (fun i => (σ1 i).getD 0) = tg
  have htg : ∀ i, (σ1 i).getD 0 = tg i := fun i => by rw [← hT]
  have htg' : ∀ i, i < fin.length → σ1 i = some (tg i) := by
    intro i hi
    rw [← htg]
    rcases Nat.lt_or_ge i K.m with h | h
    · rw [ht1 i h]; rfl
    · rw [ht2 i h hi]; rfl
  have hinjT : ∀ i j, i < fin.length → j < fin.length → tg i = tg j → i = j := by
    intro i j hi hj h
    rw [← htg, ← htg] at h
    rcases Nat.lt_or_ge i K.m with h1 | h1 <;> rcases Nat.lt_or_ge j K.m with h2 | h2
    · rw [ht1 i h1, ht1 j h2] at h; exact hσ i j h1 h2 h
    · rw [ht1 i h1, ht2 j h2 hj] at h
      simp only [Option.getD_some] at h
      exact absurd (by rw [← h]; exact hmem i h1) (hnotids (j - K.m) (by omega))
    · rw [ht2 i h1 hi, ht1 j h2] at h
      simp only [Option.getD_some] at h
      exact absurd (by rw [h]; exact hmem j h2) (hnotids (i - K.m) (by omega))
    · rw [ht2 i h1 hi, ht2 j h2 hj] at h
      simp only [Option.getD_some] at h
      omega
  generalize hρ3 : rho3 ρ ρ2 ids nb K.m fin.length = ρ3
  have hρt : ∀ i, i < fin.length → ρ3 (tg i) = ρ2 i := by
    intro i hi
    rw [← hρ3, ← htg]
    rcases Nat.lt_or_ge i K.m with h | h
    · rw [ht1 i h]; simp only [rho3, Option.getD_some, if_pos (hmem i h), hidx i h]
    · rw [ht2 i h hi]
      simp only [rho3, Option.getD_some, if_neg (hnotids (i - K.m) (by omega))]
      rw [if_pos (by omega)]
      congr 1
      omega
  have hcase : ∀ id, (∃ i, i < fin.length ∧ id = tg i) ∨ ((∀ j, j < fin.length → tg j ≠ id) ∧ ρ3 id = ρ id ∧ (∀ i, i < K.m → sg0 ids i ≠ id)) := by
    intro id
    by_cases h1 : id ∈ ids
    · obtain ⟨h2, h3⟩ := hofmem id h1
      refine .inl ⟨ids.idxOf id, by omega, ?_⟩
      rw [← htg, ht1 _ h2]; exact h3.symm
    · by_cases h2 : nb ≤ id ∧ id < nb + (fin.length - K.m)
      · refine .inl ⟨K.m + (id - nb), by omega, ?_⟩
        rw [← htg, ht2 _ (by omega) (by omega)]
        simp only [Option.getD_some]; omega
      · refine .inr ⟨fun j hj e => ?_, by rw [← hρ3]; simp only [rho3, if_neg h1, if_neg h2], fun i hi e => h1 (by rw [← e]; exact hmem i hi)⟩
        rw [← htg] at e
        rcases Nat.lt_or_ge j K.m with h3 | h3
        · rw [ht1 j h3] at e; exact h1 (by rw [← e]; exact hmem j h3)
        · rw [ht2 j h3 hj] at e
          simp only [Option.getD_some] at e
          omega
  -- the blocks
  have hwr := wrs_wrL (σ := σ1) (fin := fin) (i0 := 0) (h := (S.killed kl).heap) (fun i j _ hi _ hj h => hinjT i j (by omega) (by omega) (by rw [← htg, ← htg]; exact h))
  let S1 : AS := { (S.killed kl) with heap := wrs (S.killed kl).heap (wrL σ1 fin 0) }
  have hB1 : ∀ i b, fin[i]? = some b → S1.blk (tg i) = .live (b.tr σ1) := fun i b h => by
    have := hwr.1 i b h
    rw [Nat.zero_add, htg] at this
    exact this
  have hB2 : ∀ id, (∀ j, j < fin.length → tg j ≠ id) → S1.blk id = (S.blk id).tr (killF kl) := fun id h => by
    have := hwr.2 id (fun j hj => by rw [Nat.zero_add, htg]; exact h j hj)
    rw [AS.killed_get] at this
    exact this
  have hfinlive : ∀ i b, fin[i]? = some b → (⟨[some v], fin.map .live⟩ : AS).blk i = .live b := fun i b h => blk_map_live.2 h
  -- addresses of the blocks that the call had or made
  have hadr : ∀ i g o, i < fin.length → ρ2 i = some (g, o) → (¬ E.F g) ∧ (∀ id b o', S.blk id = .live b → (∀ j, j < K.m → sg0 ids j ≠ id) → ρ id ≠ some (g, o')) ∧ (w.heap.size ≤ g ∨ ∃ j o', j < K.m ∧ ρ (sg0 ids j) = some (g, o')) := by
    intro i g o hi hr
    obtain ⟨h1, h2⟩ := hF.nf i fin[i] g o (hfinlive i _ (List.getElem?_eq_getElem hi)) hr
    refine ⟨fun h => h1 (.inl h), fun id b o' h3 h4 h5 => h1 (.inr ⟨id, b, o', h3, h4, h5⟩), ?_⟩
    rcases h2 with h2 | ⟨j, o', h3, h4⟩
    · exact .inl h2
    · exact .inr ⟨j, o', h3, h4⟩
  have hsame : ∀ g, g < w.heap.size → (∀ j o', j < K.m → ρ (sg0 ids j) ≠ some (g, o')) → w'.heap[g]? = w.heap[g]? := fun g hg hn => hF.fr.block g hg fun ⟨j, o', h1, h2⟩ => hn j o' h1 h2
  have hpins : ∀ i, i < K.m → i ∉ K.kill → ρ2 i = ρ (sg0 ids i) := by
    intro i hi hk
    have h1 : i ∈ K.pins := by
      unfold Con.pins
      rw [List.mem_filter, List.mem_range]
      exact ⟨hi, by simp [hk]⟩
    have := (hF.pn i h1).2
    rw [this]
    show (if i < K.m then ρ (sg0 ids i) else none) = _
    rw [if_pos hi]
  have hkillid : ∀ i, i < K.m → sg0 ids i ∉ kl → i ∉ K.kill := fun i hi h hk => h (by rw [← hkl]; exact List.mem_map.2 ⟨i, hk, rfl⟩)
  -- how the caller's values follow
  have hle : Ctx.Le (killF kl) (ctx E ρ S.blk w) (ctx E ρ3 S1.blk w') := by
    refine ⟨fun own b hk hne => ?_, fun id j hb hj => ?_, fun id j g o hb hj hr rc el fr hh => ?_⟩
    · obtain ⟨x, hx⟩ : ∃ x, w.heap[b]? = some x := Option.ne_none_iff_exists'.1 hne
      have hlt := lt_of_getElem?_some hx
      refine ⟨⟨fun id bl o hl => ?_, hk.2⟩, hsame b hlt fun j o' hj e => ?_⟩
      · rcases hcase id with ⟨i, hi, e⟩ | ⟨h1, h2, h3⟩
        · subst e
          show ρ3 (tg i) ≠ _
          rw [hρt i hi]
          intro e
          obtain ⟨_, _, h4⟩ := hadr i b o hi e
          rcases h4 with h4 | ⟨j, o', h4, h5⟩
          · omega
          · obtain ⟨b0, hb0⟩ := hliveI j h4
            exact hk.1 _ b0 o' hb0 h5
        · show ρ3 id ≠ _
          rw [h2]
          rw [hB2 id h1] at hl
          obtain ⟨b0, hb0, _⟩ := Slot.tr_live hl
          exact hk.1 id b0 o hb0
      · obtain ⟨b0, hb0⟩ := hliveI j hj
        exact hk.1 _ b0 o' hb0 e
    · obtain ⟨h1, h2⟩ := killF_some hj
      subst h1
      rcases hcase j with ⟨i, hi, e⟩ | ⟨h3, h4, h5⟩
      · subst e
        refine ⟨?_, ?_⟩
        · show S1.blk (tg i) ≠ .unborn
          rw [hB1 i _ (List.getElem?_eq_getElem hi)]; simp
        · show ρ3 (tg i) = ρ (tg i)
          rw [hρt i hi]
          have hS : S.blk (tg i) ≠ .unborn := hb
          rcases Nat.lt_or_ge i K.m with hm | hm
          · have e : tg i = sg0 ids i := by rw [← htg, ht1 i hm]; rfl
            rw [e] at h2 ⊢
            exact hpins i hm (hkillid i hm h2)
          · exfalso
            have e : tg i = nb + (i - K.m) := by rw [← htg, ht2 i hm hi]; rfl
            exact hS (by rw [e]; exact hnew _ (by omega))
      · refine ⟨?_, h4⟩
        show S1.blk j ≠ .unborn
        rw [hB2 j h3]
        intro e
        exact hb (Slot.tr_unborn.1 e)
    · exact hF.fr.cells g rc el fr hh
  -- how the called function's values follow
  have hle2 : Ctx.LeS σ1 (ctx (callEnv E ρ S w (sg0 ids) K.m K.pins (callEnv_hF hR _ _)) ρ2 (⟨[some v], fin.map .live⟩ : AS).blk w') (ctx E ρ3 S1.blk w') := by
    refine ⟨fun b hk hne => ⟨⟨fun id bl o hl => ?_, fun _ hF' => hk.2 rfl (.inl hF')⟩, rfl⟩, fun id j hb hj => ?_, fun id j g o hb hj hr rc el fr hh => ⟨rc, el, fr, hh, Nat.le_refl _⟩⟩
    · rcases hcase id with ⟨i, hi, e⟩ | ⟨h1, h2, h3⟩
      · subst e
        show ρ3 (tg i) ≠ _
        rw [hρt i hi]
        exact hk.1 i fin[i] o (hfinlive i _ (List.getElem?_eq_getElem hi))
      · show ρ3 id ≠ _
        rw [h2]
        rw [hB2 id h1] at hl
        obtain ⟨b0, hb0, _⟩ := Slot.tr_live hl
        exact fun e => hk.2 rfl (.inr ⟨id, b0, o, hb0, h3, e⟩)
    · have hi := ht3 id j hj
      rw [htg' id hi] at hj
      injection hj with hj
      subst hj
      exact ⟨by show S1.blk (tg id) ≠ .unborn; rw [hB1 id _ (List.getElem?_eq_getElem hi)]; simp, hρt id hi⟩
  have hRel : Rel E ρ3 S1 a w' := by
    refine ⟨?_, hR.df, fun i u hu => ?_, fun id b hl => ?_, fun id id' b b' g o o' hl hl' hr hr' => ?_, fun id b g o hl hr => ?_, ?_, fun id hp => ?_, fun g pd hg => ?_⟩
    · show (S.killed kl).tmps.length = _
      rw [AS.killed_eq, List.length_map]; exact hR.len
    · have hu' : (S.killed kl).tmps[i]? = some (some u) := hu
      rw [AS.killed_eq] at hu'
      simp only [List.getElem?_map] at hu'
      cases hx : S.tmps[i]? with
      | none => rw [hx] at hu'; cases hu'
      | some y =>
        rw [hx] at hu'
        cases y with
        | none => cases hu'
        | some y =>
          simp only [Option.map_some, Option.some.injEq] at hu'
          subst hu'
          obtain ⟨V, h1, h2⟩ := hR.tm i y hx
          exact ⟨V, h1, h2.tr hle⟩
    · rcases hcase id with ⟨i, hi, e⟩ | ⟨h1, h2, h3⟩
      · subst e
        rw [hB1 i _ (List.getElem?_eq_getElem hi)] at hl
        injection hl with hl
        subst hl
        rw [hρt i hi]
        exact RB.trS hle2 (strictL_get hs2 (List.getElem?_eq_getElem hi)) (hF.hb i fin[i] (hfinlive i _ (List.getElem?_eq_getElem hi))) rfl
      · rw [hB2 id h1] at hl
        obtain ⟨b0, hb0, e⟩ := Slot.tr_live hl
        subst e
        rw [h2]
        refine RB.tr hle (hR.hb id b0 hb0) fun g o hr => ?_
        exact hsame g (hR.lt hb0 hr) fun j o' hj e => by
          obtain ⟨b1, hb1⟩ := hliveI j hj
          exact h3 j hj (hR.inj _ _ _ _ g o' o hb1 hb0 e hr)
    · rcases hcase id with ⟨i, hi, e⟩ | ⟨h1, h2, h3⟩
      · subst e
        rw [hρt i hi] at hr
        rcases hcase id' with ⟨j, hj, e⟩ | ⟨h1', h2', h3'⟩
        · subst e
          rw [hρt j hj] at hr'
          have := hF.inj i j fin[i] fin[j] g o o' (hfinlive i _ (List.getElem?_eq_getElem hi)) (hfinlive j _ (List.getElem?_eq_getElem hj)) hr hr'
          rw [this]
        · rw [h2'] at hr'
          rw [hB2 id' h1'] at hl'
          obtain ⟨b0, hb0, _⟩ := Slot.tr_live hl'
          exact absurd hr' ((hadr i g o hi hr).2.1 id' b0 o' hb0 h3')
      · rw [h2] at hr
        rw [hB2 id h1] at hl
        obtain ⟨b0, hb0, _⟩ := Slot.tr_live hl
        rcases hcase id' with ⟨j, hj, e⟩ | ⟨h1', h2', h3'⟩
        · subst e
          rw [hρt j hj] at hr'
          exact absurd hr ((hadr j g o' hj hr').2.1 id b0 o hb0 h3)
        · rw [h2'] at hr'
          rw [hB2 id' h1'] at hl'
          obtain ⟨b1, hb1, _⟩ := Slot.tr_live hl'
          exact hR.inj id id' b0 b1 g o o' hb0 hb1 hr hr'
    · rcases hcase id with ⟨i, hi, e⟩ | ⟨h1, h2, h3⟩
      · subst e
        rw [hρt i hi] at hr
        obtain ⟨h1, _, h3⟩ := hadr i g o hi hr
        refine ⟨h1, ?_⟩
        rcases h3 with h3 | ⟨j, o', h3, h4⟩
        · exact .inl (Nat.le_trans hR.fr.size h3)
        · obtain ⟨b0, hb0⟩ := hliveI j h3
          exact (hR.nf _ b0 g o' hb0 h4).2
      · rw [h2] at hr
        rw [hB2 id h1] at hl
        obtain ⟨b0, hb0, _⟩ := Slot.tr_live hl
        exact hR.nf id b0 g o hb0 hr
    · refine hR.fr.trans hF.fr fun g ⟨j, o', h1, h2⟩ hg => ?_
      obtain ⟨b0, hb0⟩ := hliveI j h1
      rcases (hR.nf _ b0 g o' hb0 h2).2 with h3 | h3
      · omega
      · exact h3
    · obtain ⟨h1, h2⟩ := hR.pn id hp
      have hnk : id ∉ kl := fun h => hpin id h hp
      have := hle.born id id h1 (by simp only [killF]; rw [if_neg (by simpa using hnk)])
      exact ⟨this.1, this.2.trans h2⟩
    · exact (hR.gl g pd hg).tr hle
  intro dst
  have hX : RV (ctx E ρ3 S1.blk w') (v.tr σ1) X := by
    obtain ⟨V, h1, h2⟩ := hF.tm 0 v rfl
    have e : X = V := by simpa using h1
    rw [e]
    exact h2.trS hle2 hs1
  exact hRel.put dst (some (v.tr σ1)) X fun u hu => by injection hu with hu; subst hu; exact hX
end
end Go.Vc

namespace Go.Vc
section
variable {P : Program} {C : Cfg2}
theorem Con.sumOK (hC : CfgOK P C) {f : FuncId} {fn : Func} {c : Code} (K : Con) (hf : P.funcs[f]? = some fn) (hb : fn.body = some c) (hname : (fn.name == "runtime.NumGoroutine") = false)
    (hInv : InvOK K) (hbody : ∀ p, (∀ q ∈ K.pre p, q) → BodyOK P C fn c K p) : FSumOK P C.G f K.sum := by
  refine ⟨fun args w => by
    have h1 : fn.name ≠ "runtime.NumGoroutine" := by simpa using hname
    simp [callFunc, hf, h1, hb], ?_⟩
  intro S args nb r l hrun hobs hnew E ρ a w hG hpin hR V hV
  obtain ⟨q, l1, l2, h1, h2, h3⟩ := HP.run_bind hrun
  obtain ⟨p, ids, obs⟩ := q
  have := HP.run_ret h2
  subst this
  have ho1 : ∀ q ∈ obs, q := fun q hq => hobs q (List.mem_append_left _ hq)
  have ho2 : ∀ q ∈ K.pre p, q := fun q hq => hobs q (List.mem_append_right _ hq)
  have I := hInv _ _ _ _ _ _ h1 ho1
  have B := hbody p ho2
  have hs := call_start hR I hV fn.ntmps
  have hrun := B.run (callEnv E ρ S w (sg0 ids) K.m K.pins (callEnv_hF hR _ _)) _ _ _ hG (fun id hid => hid) hs
  refine calls_of_wp hf hb (wp_mono hrun fun e a' w' ⟨S', ρ', hq, hrel⟩ => ?_)
  obtain ⟨he, vs, obs', l', hres, hobs', hwk⟩ := hq
  have hT : TysOK P C.ty := hC.ty
  obtain ⟨X, hx1, hx2⟩ := results_sound hT hrel hres hobs'
  have hmid : Rel (callEnv E ρ S w (sg0 ids) K.m K.pins (callEnv_hF hR _ _)) ρ' ⟨[some (resV vs)], S'.heap⟩ ⟨#[X], []⟩ w' := by
    refine ⟨rfl, rfl, fun i v hv => ?_, hrel.hb, hrel.inj, hrel.nf, hrel.fr, hrel.pn, hrel.gl⟩
    cases i with
    | zero =>
      simp only [List.getElem?_cons_zero, Option.some.injEq] at hv
      subst hv
      exact ⟨X, rfl, hx2⟩
    | succ i => simp at hv
  obtain ⟨ρ2, hfin⟩ := hwk (callEnv E ρ S w (sg0 ids) K.m K.pins (callEnv_hF hR _ _)) _ _ _ hG (fun id hid => hid) hmid
  have hend := call_end (obs := obs) (nb := nb) hR I hnew hpin B.size B.strict.1 B.strict.2 hfin
  have : bodyPost P fn (fun e w' => ∃ v ρ', e = .returned v ∧ ∀ dst, Rel E ρ' (S.app dst (K.res p ids obs nb)) (a.put dst v) w') .ret a' w' :=
    ⟨hrel.df, X, hx1, X, _, rfl, hend⟩
  rcases he with rfl | rfl
  · exact this
  · exact this
end
end Go.Vc

namespace Go.Vc
inductive AK where
  | v (d : Kd) | p (d : Kd)
@[reducible] def AK.T : AK → Type | .v d => d.T | .p d => d.T
@[reducible] def AT : List AK → Type
  | [] => Unit
  | k :: r => k.T × AT r
def AK.cnt : List AK → Nat
  | [] => 0 | .v _ :: r => cnt r | .p _ :: r => cnt r + 1
def Kd.nz : Kd → Bool | .arr 0 _ => false | _ => true
def lentOf : AV → List Nat | .tsl id _ _ _ _ _ => [id] | _ => []
def rdV (d : Kd) (v : AV) : HP (d.T × List Nat × List Prop) :=
  match d.of v with | some x => if v.isAgg = d.isAgg then .ret (x, [], []) else .fail | none => .fail
def rdS (d : Kd) (v : AV) : HP (List d.T × List Nat × List Prop) :=
  (rdSl d v).bind fun s => match castK (.arr 0 d) (.arr 0 s.d) s.xs with | some x => .ret (x, lentOf v, s.obs) | none => .fail
def rdPk (d : Kd) (id : Nat) (b : AV) : HP (d.T × List Nat × List Prop) := match d.of b with | some x => if d.nz = true then .ret (x, [id], []) else .fail | none => .fail
def rdP (d : Kd) : AV → HP (d.T × List Nat × List Prop)
  | .ptr id [] 0 => .get id fun b => rdPk d id b
  | _ => .fail
theorem rdPk_st (d : Kd) (id : Nat) (x : d.T) : rdPk (.st d) id (.pure (.st d) x) = .ret (x, [id], []) := by
  unfold rdPk
  rw [Kd.of_st_self d x]
  rfl
theorem rdPk_arr (n : Nat) (d : Kd) (id : Nat) (x : List d.T) (h : n ≠ 0) : rdPk (.arr n d) id (.pure (.arr n d) x) = .ret (x, [id], []) := by
  unfold rdPk
  rw [show (Kd.arr n d).of (.pure (.arr n d) x) = some x from castK_self (.arr n d) x]
  cases n with
  | zero => exact absurd rfl h
  | succ n => rfl
theorem rdPk_agg (d : Kd) (id : Nat) (l : List AV) : rdPk (.st d) id (.agg l) = match Kd.of.ofL d l with | some x => .ret (x, [id], []) | none => .fail := by
  unfold rdPk
  rw [show (Kd.st d).of (.agg l) = Kd.of.ofL d l from rfl]
  cases Kd.of.ofL d l <;> rfl
def rdA : (ks : List AK) → List AV → HP (AT ks × List Nat × List Nat × List Prop)
  | [], [] => .ret ((), [], [], [])
  | .v (.slice false d) :: r, v :: vs => (rdS d v).bind fun p => (rdA r vs).bind fun q => .ret ((p.1, q.1), q.2.1, p.2.1 ++ q.2.2.1, p.2.2 ++ q.2.2.2)
  | .v d :: r, v :: vs => (rdV d v).bind fun p => (rdA r vs).bind fun q => .ret ((p.1, q.1), q.2.1, p.2.1 ++ q.2.2.1, p.2.2 ++ q.2.2.2)
  | .p d :: r, v :: vs => (rdP d v).bind fun p => (rdA r vs).bind fun q => .ret ((p.1, q.1), p.2.1 ++ q.2.1, q.2.2.1, p.2.2 ++ q.2.2.2)
  | _, _ => .fail
def argA : (ks : List AK) → Nat → AT ks → List AV
  | [], _, _ => []
  | .v d :: r, i, x => .ofKd d x.1 :: argA r i x.2
  | .p d :: r, i, x => .ptr i [] 0 :: argA r (i + 1) x.2
def heapA : (ks : List AK) → AT ks → List AV
  | [], _ => []
  | .v _ :: r, x => heapA r x.2
  | .p d :: r, x => .ofKd d x.1 :: heapA r x.2
def nodupB : List Nat → Bool | [] => true | i :: r => !r.contains i && nodupB r
def Con.of (ks : List AK) (pre : AT ks → List Prop) (out : AT ks → Out) : Con where
  Par := AT ks
  m := AK.cnt ks
  kill := []
  pre := pre
  args := argA ks 0
  heap := heapA ks
  out := out
  inv := fun l => (rdA ks l).bind fun q => if (nodupB q.2.1 && q.2.2.1.all fun i => !q.2.1.contains i) = true then .ret (q.1, q.2.1, q.2.2.2) else .fail
theorem nodupB_spec : ∀ {l : List Nat}, nodupB l = true → l.Nodup
  | [], _ => .nil
  | i :: r, h => by
    simp only [nodupB, Bool.and_eq_true, Bool.not_eq_true', List.contains_eq_mem, decide_eq_false_iff_not] at h
    exact List.nodup_cons.2 ⟨h.1, nodupB_spec h.2⟩
theorem ofKd_isAgg (d : Kd) (x : d.T) : (AV.ofKd d x).isAgg = d.isAgg := by cases d <;> rfl
theorem RV.ofKd1 {c c' : Ctx} (hm : ∀ own b, c.ok own b → c.hp b ≠ none → c'.ok own b ∧ c'.hp b = c.hp b) {d : Kd} {x : d.T} {v : AV} {X : Value} (hv : RV c v X) (h : d.of v = some x) (ha : v.isAgg = d.isAgg) : RV c' (.ofKd d x) X := by
  cases hv with
  | one _ _ h0 hc => exact .one _ _ (by rw [ofKd_isAgg, ← ha]; exact h0) (RC.ofKd ((Kd.of_sound h hc).mono hm))
  | agg _ a h0 hc => exact .agg _ _ (by rw [ofKd_isAgg, ← ha]; exact h0) (RC.ofKd ((Kd.of_sound h hc).mono hm))
  | tuple l x hl => cases d <;> simp [Kd.of] at h
theorem Coe.val {mem : Nat → Slot} {σ : Nat → Nat} {m : Nat} {d : Kd} {x : d.T} {v : AV} (h : d.of v = some x) (ha : v.isAgg = d.isAgg) : Coe mem σ m v (.ofKd d x) :=
  fun E ρ S a w c' hm hR hd hl X hX => hX.ofKd1 (fun own b h1 _ => ⟨hd.ok own b h1, by rw [hd.hp]⟩) h ha
theorem Coe.ptr {mem : Nat → Slot} {σ : Nat → Nat} {m i id : Nat} {p : List Nat} {o : Nat} (h : σ i = id) (hi : i < m) : Coe mem σ m (.ptr id p o) (.ptr i p o) := by
  intro E ρ S a w c' hm hR hd hl X hX
  subst h
  exact RV.dn hd (v := .ptr i p o) hX fun j hj => by simp [AV.refs] at hj; omega
theorem Coe.slice {mem : Nat → Slot} {σ : Nat → Nat} {m : Nat} {dk : Kd} {v : AV} {r : SL} {l : List Nat} (h : (rdSl dk v).run mem = some (r, l)) (ho : ∀ q ∈ r.obs, q) (hlent : ∀ j ∈ lentOf v, ∀ i, i < m → σ i ≠ j) :
    Coe mem σ m v (.ofKd (.slice false r.d) r.xs) := by
  intro E ρ S a w c' hm hR hd hl X hX
  subst hm
  have key : ∀ {d : Kd} {xs : List d.T} {flat : List Value}, RL (Reads (ctx E ρ S.blk w).ok (ctx E ρ S.blk w).hp d) xs flat → RL (Reads c'.ok c'.hp d) xs flat :=
    fun hh => hh.imp fun _ _ hr => hr.mono fun own b h1 _ => ⟨hd.ok own b h1, by rw [hd.hp]⟩
  cases v with
  | nilsl =>
    have := HP.run_ret h
    subst this
    rw [hX.nilsl_inv]
    exact .one _ _ rfl (.pure _ _ _ ⟨none, 0, rfl, Nat.le_refl _, .inl rfl⟩)
  | pure d x =>
    cases d with
    | slice own d =>
      have := HP.run_ret h
      subst this
      obtain ⟨A, cap, e1, e2, e3⟩ := hX.slice_inv
      injection e1 with e1 _
      subst e1
      refine .one _ _ rfl (.pure _ _ _ ⟨A, cap, rfl, e2, ?_⟩)
      rcases e3 with e3 | ⟨b, off, rc, el, fr, flat, f1, f2, f3, f4, f5⟩
      · exact .inl e3
      · have hok : c'.ok false b := by
          have := hd.ok own b f2
          cases own
          · exact this
          · exact c'.weak b this
        exact .inr ⟨b, off, rc, el, fr, flat, f1, hok, by rw [hd.hp]; exact f3, key f4, f5⟩
    | _ => cases h
  | tsl id path i off sz len =>
    obtain ⟨b, l', h1, h2, h3⟩ := HP.run_get h
    have hb : S.blk id = .live b := h1
    have hsr := rdSl_sound hR hX h ho
    obtain ⟨A, cap, e1, e2, e3⟩ := hsr
    refine .one _ _ rfl (.pure _ _ _ ⟨A, cap, by rw [e1], e2, ?_⟩)
    rcases e3 with e3 | ⟨g, o, rc, el, fr, flat, f1, f2, f3, f4⟩
    · exact .inl e3
    · by_cases hne : r.xs = []
      · exact .inl hne
      refine .inr ⟨g, o, rc, el, fr, flat, f1, ?_, by rw [hd.hp]; exact f2, key f3, f4⟩
      rcases hX.tsl_inv with ⟨_, _, g3, g4⟩ | ⟨g', o', cap', A', rc', el', fr', g1, g2, g3, g4, g5, g6, g7⟩
      · rw [g4] at e1
        injection e1 with e1 _ _
        rw [← e1] at f1
        cases f1
      · rw [g7] at e1
        injection e1 with e1 e4 e5
        have hz : 0 < cap' := by
          have := List.length_pos_iff.2 hne
          omega
        have := g4 hz
        rw [e1, f1] at this
        injection this with this
        injection this with this _ _
        subst this
        exact hl id b _ o' hb (fun i hi e => hlent id (List.mem_singleton.2 rfl) i hi e) g2
  | _ => cases h
theorem rdA_sound {mem : Nat → Slot} {σ : Nat → Nat} {m : Nat} : ∀ {ks : List AK} {vs : List AV} {x : AT ks} {ids lent : List Nat} {obs : List Prop} {l : List Nat} {i0 : Nat},
    (rdA ks vs).run mem = some ((x, ids, lent, obs), l) → (∀ q ∈ obs, q) → (∀ j, j < ids.length → σ (i0 + j) = ids.getD j 0) → i0 + ids.length ≤ m → (∀ j ∈ lent, ∀ i, i < m → σ i ≠ j) →
    ids.length = AK.cnt ks ∧ (heapA ks x).length = AK.cnt ks ∧ (∀ j, j < AK.cnt ks → ∃ b b', mem (σ (i0 + j)) = .live b ∧ (heapA ks x)[j]? = some b' ∧ CoB σ m b b') ∧ CoeL mem σ m vs (argA ks i0 x)
  | [], [], x, ids, lent, obs, l, i0, h, ho, hσ, hm, hlent => by
    have := HP.run_ret h
    injection this with _ e
    injection e with e _
    subst e
    exact ⟨rfl, rfl, fun j hj => by simp [AK.cnt] at hj, .nil⟩
  | .p d :: r, v :: vs, x, ids, lent, obs, l, i0, h, ho, hσ, hm, hlent => by
    simp only [rdA] at h
    obtain ⟨p, l1, l2, h1, h2, h3⟩ := HP.run_bind h
    obtain ⟨⟨qx, qi, ql, qo⟩, l3, l4, h4, h5, h6⟩ := HP.run_bind h2
    have := HP.run_ret h5
    injection this with e1 e
    injection e with e2 e
    injection e with e3 e4
    simp only at e1 e2 e3 e4
    subst e1 e2 e3 e4
    unfold rdP at h1
    split at h1
    · rename_i id
      obtain ⟨b, l', g1, g2, g3⟩ := HP.run_get h1
      unfold rdPk at g2
      split at g2
      · rename_i y hy
        split at g2
        · rename_i hnz
          have := HP.run_ret g2
          subst this
          simp only [List.cons_append, List.nil_append, List.length_cons] at hσ hm ho
          have ih := rdA_sound (σ := σ) (m := m) (i0 := i0 + 1) h4 ho (fun j hj => by have := hσ (j + 1) (by omega); rw [show i0 + 1 + j = i0 + (j + 1) by omega, this]; rfl) (by omega) hlent
          obtain ⟨k1, k2, k3, k4⟩ := ih
          have h0 : σ i0 = id := hσ 0 (by omega)
          refine ⟨by simp [AK.cnt, k1], by simp [AK.cnt, heapA, k2], fun j hj => ?_, .cons _ _ _ _ (Coe.ptr h0 (by omega)) k4⟩
          cases j with
          | zero =>
            refine ⟨b, .ofKd d y, by rw [Nat.add_zero, h0]; exact g1, rfl, fun c c' hd cs hc => RC.ofKd ((Kd.of_sound hy hc).mono fun own b h1 _ => ⟨hd.ok own b h1, by rw [hd.hp]⟩), fun hem => ?_, fun l e => (by subst e; cases d <;> simp [Kd.of] at hy)⟩
            exfalso
            cases b <;> simp only [AV.emptyRow] at hem
            rename_i d' x'
            cases d' <;> simp only at hem
            rename_i n' d'
            cases d <;> simp only [Kd.of, reduceCtorEq] at hy
            all_goals first | (split at hy <;> first | (rename_i hy'; obtain ⟨e, _⟩ := castK_some hy'; cases e) | (simp [Kd.stF] at hy)) | (obtain ⟨e, _⟩ := castK_some hy; cases e)
            obtain ⟨e0, _⟩ := hem
            subst e0
            cases hnz
          | succ j =>
            obtain ⟨b1, b2, k5, k6, k7⟩ := k3 j (by simp [AK.cnt] at hj; exact hj)
            exact ⟨b1, b2, by rw [show i0 + (j + 1) = i0 + 1 + j by omega]; exact k5, by simp only [heapA, List.getElem?_cons_succ]; exact k6, k7⟩
        · cases g2
      · cases g2
    · cases h1
  | .v d :: r, v :: vs, x, ids, lent, obs, l, i0, h, ho, hσ, hm, hlent => by
    have key : ∃ (p : d.T × List Nat × List Prop) (q : AT r × List Nat × List Nat × List Prop) (l3 : List Nat), (rdA r vs).run mem = some (q, l3) ∧ x = (p.1, q.1) ∧ ids = q.2.1 ∧ lent = p.2.1 ++ q.2.2.1 ∧ obs = p.2.2 ++ q.2.2.2 ∧
        ((∀ q ∈ p.2.2, q) → (∀ j ∈ p.2.1, ∀ i, i < m → σ i ≠ j) → Coe mem σ m v (.ofKd d p.1)) := by
      have plain : ∀ l, ((rdV d v).bind fun p => (rdA r vs).bind fun q => .ret ((p.1, q.1), q.2.1, p.2.1 ++ q.2.2.1, p.2.2 ++ q.2.2.2) : HP (AT (.v d :: r) × List Nat × List Nat × List Prop)).run mem = some ((x, ids, lent, obs), l) → ∃ (p : d.T × List Nat × List Prop) (q : AT r × List Nat × List Nat × List Prop) (l3 : List Nat), (rdA r vs).run mem = some (q, l3) ∧ x = (p.1, q.1) ∧ ids = q.2.1 ∧ lent = p.2.1 ++ q.2.2.1 ∧ obs = p.2.2 ++ q.2.2.2 ∧
        ((∀ q ∈ p.2.2, q) → (∀ j ∈ p.2.1, ∀ i, i < m → σ i ≠ j) → Coe mem σ m v (.ofKd d p.1)) := by
        intro l h
        obtain ⟨p, l1, l2, h1, h2, h3⟩ := HP.run_bind h
        obtain ⟨q, l3, l4, h4, h5, h6⟩ := HP.run_bind h2
        have := HP.run_ret h5
        injection this with e1 e
        injection e with e2 e
        injection e with e3 e4
        refine ⟨p, q, l3, h4, e1, e2, e3, e4, fun _ _ => ?_⟩
        unfold rdV at h1
        split at h1
        · rename_i y hy
          split at h1
          · rename_i ha
            have := HP.run_ret h1
            subst this
            exact Coe.val hy ha
          · cases h1
        · cases h1
      cases d with
      | slice own d =>
        cases own with
        | true => exact plain l h
        | false =>
          simp only [rdA] at h
          obtain ⟨p, l1, l2, h1, h2, h3⟩ := HP.run_bind h
          obtain ⟨q, l3, l4, h4, h5, h6⟩ := HP.run_bind h2
          have := HP.run_ret h5
          injection this with e1 e
          injection e with e2 e
          injection e with e3 e4
          refine ⟨p, q, l3, h4, e1, e2, e3, e4, fun hob hl => ?_⟩
          unfold rdS at h1
          obtain ⟨s, l5, l6, g1, g2, g3⟩ := HP.run_bind h1
          split at g2
          · rename_i y hy
            have := HP.run_ret g2
            subst this
            obtain ⟨e, hy'⟩ := castK_arr hy
            have := Coe.slice (σ := σ) (m := m) g1 hob hl
            obtain ⟨sd, sxs, sobs⟩ := s
            simp only at e hy' this
            subst e
            simp only at hy'
            rw [show y = sxs from hy']
            exact this
          · cases g2
      | _ => exact plain l h
    obtain ⟨p, q, l3, h4, e1, e2, e3, e4, hco⟩ := key
    subst e1 e2 e3 e4
    obtain ⟨k1, k2, k3, k4⟩ := rdA_sound (σ := σ) (m := m) (i0 := i0) h4 (fun q hq => ho q (List.mem_append_right _ hq)) hσ hm (fun j hj => hlent j (List.mem_append_right _ hj))
    exact ⟨k1, k2, k3, .cons _ _ _ _ (hco (fun q hq => ho q (List.mem_append_left _ hq)) (fun j hj => hlent j (List.mem_append_left _ hj))) k4⟩
  | [], _ :: _, x, ids, lent, obs, l, i0, h, ho, hσ, hm, hlent => by cases h
  | .p d :: r, [], x, ids, lent, obs, l, i0, h, ho, hσ, hm, hlent => by cases h
  | .v d :: r, [], x, ids, lent, obs, l, i0, h, ho, hσ, hm, hlent => by cases d <;> first | cases h | (rename_i o d; cases o <;> cases h)
theorem Con.of_inv (ks : List AK) (pre : AT ks → List Prop) (out : AT ks → Out) : InvOK (Con.of ks pre out) := by
  intro mem args p ids obs l h ho
  obtain ⟨⟨qx, qi, ql, qo⟩, l1, l2, h1, h2, h3⟩ := HP.run_bind h
  simp only at h2
  split at h2
  · rename_i hc
    have := HP.run_ret h2
    injection this with e1 e
    injection e with e2 e3
    subst e1 e2 e3
    simp only [Bool.and_eq_true, List.all_eq_true, Bool.not_eq_true', List.contains_eq_mem, decide_eq_false_iff_not] at hc
    have hcnt : ∀ {ks : List AK} {vs : List AV} {q : AT ks × List Nat × List Nat × List Prop} {l : List Nat}, (rdA ks vs).run mem = some (q, l) → True := fun _ => trivial
    obtain ⟨k1, k2, k3, k4⟩ := rdA_sound (σ := sg0 ids) (m := ids.length) (i0 := 0) h1 ho (fun j hj => by rw [Nat.zero_add]; rfl) (by omega) (fun j hj i hi e => by
      refine hc.2 j hj ?_
      rw [← e]
      simp only [sg0, List.getD_eq_getElem?_getD, List.getElem?_eq_getElem hi, Option.getD_some]
      exact List.getElem_mem hi)
    rw [k1] at k3 k4
    exact ⟨k1, nodupB_spec hc.1, k2, fun i hi => by have := k3 i hi; rwa [Nat.zero_add] at this, k4⟩
  · cases h2
end Go.Vc

namespace Go.Vc
theorem evL_congr {ev ev' : Operand → Option AV} : ∀ {l : List Operand}, (∀ x ∈ l, ev x = ev' x) → evL ev l = evL ev' l
  | [], _ => rfl
  | x :: r, h => by simp only [evL, h x (List.mem_cons_self ..), evL_congr fun y hy => h y (List.mem_cons_of_mem _ hy)]
theorem evParts_congr {ev ev' : Operand → Option AV} : ∀ {l : List (Nat × Operand)}, (∀ x ∈ l.map (·.2), ev x = ev' x) → evParts ev l = evParts ev' l
  | [], _ => rfl
  | (i, x) :: r, h => by simp only [evParts, h x (by simp), evParts_congr fun y hy => h y (by simp at hy ⊢; exact .inr hy)]
theorem opProg_congr {C : Cfg2} {ev ev' : Operand → Option AV} {nb : Nat} {o : Oper} (h : ∀ x ∈ o.op.operands, ev x = ev' x) : opProg C ev nb o = opProg C ev' nb o := by
  obtain ⟨dst, op, type, pos, after, guard⟩ := o
  cases op <;> simp only [Op.operands] at h <;> simp only [opProg]
  case build t ps => simp only [pBuild, evParts_congr (ev := ev) (ev' := ev') (l := ps.toList) fun x hx => h x (by simpa using hx)]
  case buildSlice t n ps => simp only [pBuildSlice, evParts_congr (ev := ev) (ev' := ev') (l := ps.toList) fun x hx => h x (by simpa using hx)]
  case makeFunc fn a b => simp only [evL_congr (ev := ev) (ev' := ev') (l := a.toList) fun x hx => h x (by simp at hx ⊢; exact .inl hx), evL_congr (ev := ev) (ev' := ev') (l := b.toList) fun x hx => h x (by simp at hx ⊢; exact .inr hx)]
  case slice t x lo hi mx =>
    cases mx with
    | some m => rfl
    | none =>
      cases lo <;> cases hi <;> simp_all
  case call c =>
    obtain ⟨callee, args, argTypes⟩ := c
    have hargs : evL ev args.toList = evL ev' args.toList := evL_congr fun x hx => h x (by simp at hx; simp [Call.operands, hx])
    cases callee with
    | value f =>
      have hf : ev f = ev' f := h f (by simp [Call.operands])
      simp only [hargs, hf]
    | builtin b =>
      simp only
      have hh : ∀ x ∈ args.toList, ev x = ev' x := fun x hx => h x (by simp at hx; simp [Call.operands, hx])
      generalize args.toList = as at hh
      generalize argTypes.toList = ts
      unfold pBuiltin
      split <;> simp_all
    | invoke r m => rfl
  case makeMap t r => cases r <;> rfl
  case lookup t x k ok => cases ok <;> simp_all
  all_goals (first | rfl | (simp_all; done))
theorem ev_congr {G : Nat → Option PD} {X S : AS} {x : Operand} (h : ∀ t, x = .tmp t → X.tmps.getD t none = S.tmps.getD t none) : X.ev G x = S.ev G x := by
  cases x with
  | tmp t => exact h t rfl
  | _ => rfl
theorem looks_ev {ops : Array Oper} {o : Oper} {G : Nat → Option PD} {X S : AS} (h : ∀ t ∈ o.looksAt ops, X.tmps.getD t none = S.tmps.getD t none) : ∀ x ∈ o.op.operands, X.ev G x = S.ev G x := by
  intro x hx
  refine ev_congr fun t e => h t ?_
  subst e
  exact List.mem_append_left _ (List.mem_filterMap.2 ⟨.tmp t, by simpa using hx, rfl⟩)
theorem wantedA_congr {ops : Array Oper} {o : Oper} {X S : AS} (h : ∀ t ∈ o.looksAt ops, X.tmps.getD t none = S.tmps.getD t none) : wantedA ops X o = wantedA ops S o := by
  unfold wantedA
  cases hg : o.guard with
  | none => rfl
  | some gw =>
    obtain ⟨g, want⟩ := gw
    have : X.gval ops g = S.gval ops g := by
      unfold AS.gval
      cases ht : (ops[g]?).bind (·.dst) with
      | none => rfl
      | some d => exact h d (by simp [Oper.looksAt, hg, ht])
    simp only [this]
def AV.alive : AV → Bool
  | .dead => false
  | .func _ a b => aliveL a && aliveL b
  | .iface _ v => alive v
  | .agg l => aliveL l
  | .tuple l => aliveL l
  | _ => true
where aliveL : List AV → Bool
  | [] => true
  | v :: r => alive v && aliveL r
mutual
theorem AV.tr_kill_alive {k : List Nat} : ∀ {v : AV}, (v.tr (killF k)).alive = true → v.tr (killF k) = v
  | .int _ _, _ => rfl | .bool _, _ => rfl | .str _, _ => rfl | .pure _ _, _ => rfl | .nilp, _ => rfl | .ept _ _ _, _ => rfl | .nilsl, _ => rfl | .nmap, _ => rfl | .nilFunc, _ => rfl | .nilIface, _ => rfl | .dead, _ => rfl
  | .ptr id p o, h => by
    by_cases hc : k.contains id = true
    · simp only [AV.tr, killF, if_pos hc, AV.alive, reduceCtorEq, Bool.false_eq_true] at h
    · simp only [AV.tr, killF, if_neg hc]
  | .arrp id p i o s n, h => by
    by_cases hc : k.contains id = true
    · simp only [AV.tr, killF, if_pos hc, AV.alive, reduceCtorEq, Bool.false_eq_true] at h
    · simp only [AV.tr, killF, if_neg hc]
  | .tsl id p i o s n, h => by
    by_cases hc : k.contains id = true
    · simp only [AV.tr, killF, if_pos hc, AV.alive, reduceCtorEq, Bool.false_eq_true] at h
    · simp only [AV.tr, killF, if_neg hc]
  | .map id, h => by
    by_cases hc : k.contains id = true
    · simp only [AV.tr, killF, if_pos hc, AV.alive, reduceCtorEq, Bool.false_eq_true] at h
    · simp only [AV.tr, killF, if_neg hc]
  | .func fn a b, h => by
    simp only [AV.tr, AV.alive, Bool.and_eq_true] at h
    simp only [AV.tr, AV.trL_kill_alive h.1, AV.trL_kill_alive h.2]
  | .iface t v, h => by
    simp only [AV.tr, AV.alive] at h
    simp only [AV.tr, AV.tr_kill_alive h]
  | .agg l, h => by
    simp only [AV.tr, AV.alive] at h
    simp only [AV.tr, AV.trL_kill_alive h]
  | .tuple l, h => by
    simp only [AV.tr, AV.alive] at h
    simp only [AV.tr, AV.trL_kill_alive h]
theorem AV.trL_kill_alive {k : List Nat} : ∀ {l : List AV}, AV.alive.aliveL (AV.tr.trL (killF k) l) = true → AV.tr.trL (killF k) l = l
  | [], _ => rfl
  | v :: r, h => by
    simp only [AV.tr.trL, AV.alive.aliveL, Bool.and_eq_true] at h
    simp only [AV.tr.trL, AV.tr_kill_alive h.1, AV.trL_kill_alive h.2]
end
mutual
theorem AV.tr_kill_refs {k : List Nat} : ∀ {v : AV}, (∀ i ∈ v.refs, i ∉ k) → v.tr (killF k) = v
  | .int _ _, _ => rfl | .bool _, _ => rfl | .str _, _ => rfl | .pure _ _, _ => rfl | .nilp, _ => rfl | .ept _ _ _, _ => rfl | .nilsl, _ => rfl | .nmap, _ => rfl | .nilFunc, _ => rfl | .nilIface, _ => rfl | .dead, _ => rfl
  | .ptr id p o, h => by
    have := h id (List.mem_singleton.2 rfl)
    simp only [AV.tr, killF, List.contains_eq_mem, this, decide_false, Bool.false_eq_true, if_false]
  | .arrp id p i o s n, h => by
    have := h id (List.mem_singleton.2 rfl)
    simp only [AV.tr, killF, List.contains_eq_mem, this, decide_false, Bool.false_eq_true, if_false]
  | .tsl id p i o s n, h => by
    have := h id (List.mem_singleton.2 rfl)
    simp only [AV.tr, killF, List.contains_eq_mem, this, decide_false, Bool.false_eq_true, if_false]
  | .map id, h => by
    have := h id (List.mem_singleton.2 rfl)
    simp only [AV.tr, killF, List.contains_eq_mem, this, decide_false, Bool.false_eq_true, if_false]
  | .func fn a b, h => by
    simp only [AV.tr, AV.trL_kill_refs fun i hi => h i (List.mem_append_left _ hi), AV.trL_kill_refs fun i hi => h i (List.mem_append_right _ hi)]
  | .iface t v, h => by simp only [AV.tr, AV.tr_kill_refs (v := v) h]
  | .agg l, h => by simp only [AV.tr, AV.trL_kill_refs (l := l) h]
  | .tuple l, h => by simp only [AV.tr, AV.trL_kill_refs (l := l) h]
theorem AV.trL_kill_refs {k : List Nat} : ∀ {l : List AV}, (∀ i ∈ AV.refs.refsL l, i ∉ k) → AV.tr.trL (killF k) l = l
  | [], _ => rfl
  | v :: r, h => by
    simp only [AV.tr.trL, AV.tr_kill_refs fun i hi => h i (List.mem_append_left _ hi), AV.trL_kill_refs fun i hi => h i (List.mem_append_right _ hi)]
end
theorem killF_in {k : List Nat} {i : Nat} (h : i ∈ k) : killF k i = none := by simp [killF, h]
theorem killF_out {k : List Nat} {i : Nat} (h : i ∉ k) : killF k i = some i := by simp [killF, h]
mutual
theorem AV.tr_kill_comm {a b : List Nat} : ∀ (v : AV), (v.tr (killF a)).tr (killF b) = (v.tr (killF b)).tr (killF a)
  | .int _ _ => rfl | .bool _ => rfl | .str _ => rfl | .pure _ _ => rfl | .nilp => rfl | .ept _ _ _ => rfl | .nilsl => rfl | .nmap => rfl | .nilFunc => rfl | .nilIface => rfl | .dead => rfl
  | .ptr id p o => by by_cases h1 : id ∈ a <;> by_cases h2 : id ∈ b <;> simp [AV.tr, killF_in, killF_out, h1, h2]
  | .arrp id p i o s n => by by_cases h1 : id ∈ a <;> by_cases h2 : id ∈ b <;> simp [AV.tr, killF_in, killF_out, h1, h2]
  | .tsl id p i o s n => by by_cases h1 : id ∈ a <;> by_cases h2 : id ∈ b <;> simp [AV.tr, killF_in, killF_out, h1, h2]
  | .map id => by by_cases h1 : id ∈ a <;> by_cases h2 : id ∈ b <;> simp [AV.tr, killF_in, killF_out, h1, h2]
  | .func fn x y => by simp only [AV.tr, AV.trL_kill_comm x, AV.trL_kill_comm y]
  | .iface t v => by simp only [AV.tr, AV.tr_kill_comm v]
  | .agg l => by simp only [AV.tr, AV.trL_kill_comm l]
  | .tuple l => by simp only [AV.tr, AV.trL_kill_comm l]
theorem AV.trL_kill_comm {a b : List Nat} : ∀ (l : List AV), AV.tr.trL (killF b) (AV.tr.trL (killF a) l) = AV.tr.trL (killF a) (AV.tr.trL (killF b) l)
  | [] => rfl
  | v :: r => by simp only [AV.tr.trL, AV.tr_kill_comm v, AV.trL_kill_comm r]
end
def wlk : List (Nat × Slot) → Nat → Slot → Slot
  | [], _, d => d
  | (i, s) :: r, id, d => wlk r id (if id = i then s else d)
theorem wrs_wlk : ∀ (wr : List (Nat × Slot)) (h : List Slot) (id : Nat), (wrs h wr).getD id .unborn = wlk wr id (h.getD id .unborn)
  | [], h, id => rfl
  | (i, s) :: r, h, id => by rw [wrs, wrs_wlk r, wlk, setAt_getD]
theorem wlk_out : ∀ {wr : List (Nat × Slot)} {id : Nat} {d : Slot}, id ∉ wr.map (·.1) → wlk wr id d = d
  | [], id, d, _ => rfl
  | (i, s) :: r, id, d, h => by
    simp only [List.map_cons, List.mem_cons, not_or] at h
    rw [wlk, if_neg h.1, wlk_out h.2]
theorem wlk_in : ∀ {wr : List (Nat × Slot)} {id : Nat}, id ∈ wr.map (·.1) → ∃ s, (id, s) ∈ wr ∧ ∀ d, wlk wr id d = s
  | [], id, h => by simp at h
  | (i, s) :: r, id, h => by
    by_cases hr : id ∈ r.map (·.1)
    · obtain ⟨s', h1, h2⟩ := wlk_in hr
      exact ⟨s', List.mem_cons_of_mem _ h1, fun d => by rw [wlk]; exact h2 _⟩
    · simp only [List.map_cons, List.mem_cons] at h
      have hi : id = i := h.resolve_right hr
      exact ⟨s, by rw [hi]; exact List.mem_cons_self .., fun d => by rw [wlk, if_pos hi, wlk_out hr]⟩
theorem app_blk (X : AS) (dst : Option Nat) (r : Res) (id : Nat) : (X.app dst r).blk id = wlk r.wr id ((X.blk id).tr (killF r.kill)) := by
  unfold AS.app
  rw [AS.put_blk]
  show (wrs _ _).getD id .unborn = _
  rw [wrs_wlk, AS.killed_get]
theorem app_len (X : AS) (dst : Option Nat) (r : Res) : (X.app dst r).tmps.length = X.tmps.length := by
  unfold AS.app AS.put
  rw [AS.killed_eq]
  cases dst <;> simp
theorem app_tmp (X : AS) (dst : Option Nat) (r : Res) (t : Nat) : (X.app dst r).tmps.getD t none = if dst = some t ∧ t < X.tmps.length then r.v else (X.tmps.getD t none).map (AV.tr (killF r.kill)) := by
  unfold AS.app
  rw [AS.killed_eq]
  have hm : ∀ t, (X.tmps.map (Option.map (AV.tr (killF r.kill)))).getD t none = (X.tmps.getD t none).map (AV.tr (killF r.kill)) := fun t => by
    simp only [List.getD_eq_getElem?_getD, List.getElem?_map]
    cases X.tmps[t]? <;> rfl
  cases dst with
  | none => simp only [AS.put, reduceCtorEq, false_and, if_false]; exact hm t
  | some d =>
    simp only [AS.put, Option.some.injEq]
    rw [← hm]
    simp only [List.getD_eq_getElem?_getD, List.getElem?_set, List.length_map]
    by_cases hd : d = t
    · subst hd
      by_cases hl : d < X.tmps.length
      · simp [hl]
      · simp [hl]
    · simp [hd]
structure Eqv (X Y : AS) : Prop where
  len : X.tmps.length = Y.tmps.length
  tmp : ∀ t, X.tmps.getD t none = Y.tmps.getD t none
  blk : ∀ id, X.blk id = Y.blk id
theorem Eqv.rfl {X : AS} : Eqv X X := ⟨Eq.refl _, fun _ => Eq.refl _, fun _ => Eq.refl _⟩
theorem Eqv.symm {X Y : AS} (h : Eqv X Y) : Eqv Y X := ⟨h.len.symm, fun t => (h.tmp t).symm, fun t => (h.blk t).symm⟩
theorem Eqv.trans {X Y Z : AS} (h : Eqv X Y) (k : Eqv Y Z) : Eqv X Z := ⟨h.len.trans k.len, fun t => (h.tmp t).trans (k.tmp t), fun t => (h.blk t).trans (k.blk t)⟩
theorem Eqv.app {X Y : AS} (h : Eqv X Y) (dst : Option Nat) (r : Res) : Eqv (X.app dst r) (Y.app dst r) :=
  ⟨by rw [app_len, app_len, h.len], fun t => by rw [app_tmp, app_tmp, h.len, h.tmp], fun id => by rw [app_blk, app_blk, h.blk]⟩
theorem Rel.eqv {E : Env} {ρ : Nat → Option (Nat × Nat)} {X Y : AS} {a : Act} {w : World} (h : Rel E ρ X a w) (e : Eqv X Y) : Rel E ρ Y a w := by
  refine h.same ?_ fun id => (e.blk id).symm
  refine List.ext_getElem e.len.symm fun i h1 h2 => ?_
  have := e.tmp i
  simp only [List.getD_eq_getElem?_getD, List.getElem?_eq_getElem h1, List.getElem?_eq_getElem h2, Option.getD_some] at this
  exact this.symm
end Go.Vc

namespace Go.Vc
structure Rc where
  o : Oper
  S : AS
  r : Res
  nb : Nat
  rd : List Nat
structure Rc.OK (C : Cfg2) (ops : Array Oper) (q : Rc) : Prop where
  run : (wantedA ops q.S q.o = some true ∧ (opProg C (q.S.ev C.G) q.nb q.o).run q.S.blk = some (q.r, q.rd)) ∨ (wantedA ops q.S q.o = some false ∧ q.r = { v := some (.tuple []) })
  obs : ∀ p ∈ q.r.obs, p
structure Pre (ops : Array Oper) (q : Rc) (X : AS) : Prop where
  look : ∀ t ∈ q.o.looksAt ops, X.tmps.getD t none = q.S.tmps.getD t none
  rd : ∀ id ∈ q.rd, X.blk id = q.S.blk id
  new : ∀ j, j < q.r.new → X.blk (q.nb + j) = .unborn
theorem Pre.eqv {ops : Array Oper} {q : Rc} {X Y : AS} (h : Pre ops q X) (e : Eqv X Y) : Pre ops q Y :=
  ⟨fun t ht => (e.tmp t).symm.trans (h.look t ht), fun id hi => (e.blk id).symm.trans (h.rd id hi), fun j hj => (e.blk _).symm.trans (h.new j hj)⟩
structure FP where
  looks : List Nat
  dst : Option Nat
  rd : List Nat
  wr : List Nat
  kill : List Nat
  refs : List Nat
  alive : Bool
  new : List Nat
def disj (a b : List Nat) : Bool := a.all fun i => !b.contains i
def FP.ind (p q : FP) : Bool :=
  (match p.dst with | some d => !q.looks.contains d && q.dst != some d | none => true) && (match q.dst with | some d => !p.looks.contains d | none => true) &&
  disj p.wr q.rd && disj q.wr p.rd && disj p.wr q.wr && (p.kill.isEmpty || q.alive) && disj p.kill q.refs && disj q.kill p.refs && disj p.new q.wr && disj q.new p.wr
def optRefs : Option AV → List Nat | some v => v.refs | none => []
def optAlive : Option AV → Bool | some v => v.alive | none => true
def Slot.alive : Slot → Bool | .live b => b.alive | _ => true
def Rc.fp (ops : Array Oper) (q : Rc) : FP where
  looks := q.o.looksAt ops
  dst := q.o.dst
  rd := q.rd
  wr := q.r.wr.map (·.1)
  kill := q.r.kill
  refs := (q.o.looksAt ops).flatMap (fun t => optRefs (q.S.tmps.getD t none)) ++ q.rd.flatMap (fun id => (q.S.blk id).refs) ++ optRefs q.r.v ++ q.r.wr.flatMap (fun p => p.2.refs)
  alive := (q.o.looksAt ops).all (fun t => optAlive (q.S.tmps.getD t none)) && q.rd.all (fun id => (q.S.blk id).alive)
  new := (List.range q.r.new).map (q.nb + ·)
theorem disj_spec {a b : List Nat} (h : disj a b = true) : ∀ i ∈ a, i ∉ b := by
  simp only [disj, List.all_eq_true, Bool.not_eq_true', List.contains_eq_mem, decide_eq_false_iff_not] at h
  exact h
structure Ind (ops : Array Oper) (p q : Rc) : Prop where
  d1 : ∀ d, p.o.dst = some d → d ∉ q.o.looksAt ops
  d2 : ∀ d, p.o.dst = some d → q.o.dst ≠ some d
  d3 : ∀ d, q.o.dst = some d → d ∉ p.o.looksAt ops
  w1 : ∀ i ∈ p.r.wr.map (·.1), i ∉ q.rd
  w2 : ∀ i ∈ q.r.wr.map (·.1), i ∉ p.rd
  w3 : ∀ i ∈ p.r.wr.map (·.1), i ∉ q.r.wr.map (·.1)
  w4 : ∀ j, j < p.r.new → p.nb + j ∉ q.r.wr.map (·.1)
  w5 : ∀ j, j < q.r.new → q.nb + j ∉ p.r.wr.map (·.1)
  al1 : p.r.kill = [] ∨ ∀ t ∈ q.o.looksAt ops, optAlive (q.S.tmps.getD t none) = true
  al2 : p.r.kill = [] ∨ ∀ id ∈ q.rd, (q.S.blk id).alive = true
  k1 : ∀ u, q.r.v = some u → u.tr (killF p.r.kill) = u
  k2 : ∀ id s, (id, s) ∈ q.r.wr → s.tr (killF p.r.kill) = s
  k3 : ∀ t ∈ p.o.looksAt ops, (p.S.tmps.getD t none).map (AV.tr (killF q.r.kill)) = p.S.tmps.getD t none
  k4 : ∀ id ∈ p.rd, (p.S.blk id).tr (killF q.r.kill) = p.S.blk id
  k5 : ∀ u, p.r.v = some u → u.tr (killF q.r.kill) = u
  k6 : ∀ id s, (id, s) ∈ p.r.wr → s.tr (killF q.r.kill) = s
theorem Slot.tr_kill_refs {k : List Nat} {s : Slot} (h : ∀ i ∈ s.refs, i ∉ k) : s.tr (killF k) = s := by
  cases s with
  | live b => simp only [Slot.tr, AV.tr_kill_refs (v := b) h]
  | _ => rfl
theorem ind_of {ops : Array Oper} {p q : Rc} (h : FP.ind (p.fp ops) (q.fp ops) = true) : Ind ops p q := by
  simp only [FP.ind, Bool.and_eq_true] at h
  obtain ⟨⟨⟨⟨⟨⟨⟨⟨⟨h1, h2⟩, h3⟩, h4⟩, h5⟩, h6⟩, h7⟩, h8⟩, h9⟩, h10⟩ := h
  have h3 := disj_spec h3
  have h4 := disj_spec h4
  have h5 := disj_spec h5
  have h7 := disj_spec h7
  have h8 := disj_spec h8
  have h9 := disj_spec h9
  have h10 := disj_spec h10
  have hal : p.r.kill = [] ∨ (q.fp ops).alive = true := by
    rcases Bool.or_eq_true _ _ ▸ h6 with h | h
    · exact .inl (by simpa [Rc.fp] using h)
    · exact .inr h
  have mt : ∀ (q : Rc) t u, t ∈ q.o.looksAt ops → q.S.tmps.getD t none = some u → ∀ i ∈ u.refs, i ∈ (q.fp ops).refs := fun q t u ht hu i hi =>
    List.mem_append_left _ (List.mem_append_left _ (List.mem_append_left _ (List.mem_flatMap.2 ⟨t, ht, by rw [hu]; exact hi⟩)))
  have mr : ∀ (q : Rc) id, id ∈ q.rd → ∀ i ∈ (q.S.blk id).refs, i ∈ (q.fp ops).refs := fun q id hd i hi =>
    List.mem_append_left _ (List.mem_append_left _ (List.mem_append_right _ (List.mem_flatMap.2 ⟨id, hd, hi⟩)))
  have mv : ∀ (q : Rc) u, q.r.v = some u → ∀ i ∈ u.refs, i ∈ (q.fp ops).refs := fun q u hu i hi =>
    List.mem_append_left _ (List.mem_append_right _ (by rw [hu]; exact hi))
  have mw : ∀ (q : Rc) id s, (id, s) ∈ q.r.wr → ∀ i ∈ s.refs, i ∈ (q.fp ops).refs := fun q id s hs i hi =>
    List.mem_append_right _ (List.mem_flatMap.2 ⟨(id, s), hs, hi⟩)
  have n7 : ∀ i ∈ (q.fp ops).refs, i ∉ p.r.kill := fun i hi hk => h7 i hk hi
  have n8 : ∀ i ∈ (p.fp ops).refs, i ∉ q.r.kill := fun i hi hk => h8 i hk hi
  refine ⟨fun d hd => ?_, fun d hd => ?_, fun d hd => ?_, h3, h4, h5, fun j hj => ?_, fun j hj => ?_, ?_, ?_, fun u hu => AV.tr_kill_refs fun i hi => n7 i (mv q u hu i hi),
    fun id s hs => Slot.tr_kill_refs fun i hi => n7 i (mw q id s hs i hi), fun t ht => ?_, fun id hd => Slot.tr_kill_refs fun i hi => n8 i (mr p id hd i hi),
    fun u hu => AV.tr_kill_refs fun i hi => n8 i (mv p u hu i hi), fun id s hs => Slot.tr_kill_refs fun i hi => n8 i (mw p id s hs i hi)⟩
  · simp only [Rc.fp, hd, Bool.and_eq_true, Bool.not_eq_true', List.contains_eq_mem, decide_eq_false_iff_not] at h1
    exact h1.1
  · simp only [Rc.fp, hd, Bool.and_eq_true, bne_iff_ne] at h1
    exact h1.2
  · simp only [Rc.fp, hd, Bool.not_eq_true', List.contains_eq_mem, decide_eq_false_iff_not] at h2
    exact h2
  · exact h9 _ (List.mem_map.2 ⟨j, List.mem_range.2 hj, rfl⟩)
  · exact h10 _ (List.mem_map.2 ⟨j, List.mem_range.2 hj, rfl⟩)
  · rcases hal with h | h
    · exact .inl h
    · simp only [Rc.fp, Bool.and_eq_true, List.all_eq_true] at h
      exact .inr h.1
  · rcases hal with h | h
    · exact .inl h
    · simp only [Rc.fp, Bool.and_eq_true, List.all_eq_true] at h
      exact .inr h.2
  · cases hx : p.S.tmps.getD t none with
    | none => rfl
    | some u => simp only [Option.map_some, AV.tr_kill_refs fun i hi => n8 i (mt p t u ht hx i hi)]
theorem swap {ops : Array Oper} {p q : Rc} (h : Ind ops p q) {X : AS} (hp : Pre ops p X) (hq : Pre ops q (X.app p.o.dst p.r)) :
    Pre ops q X ∧ Pre ops p (X.app q.o.dst q.r) ∧ Eqv ((X.app p.o.dst p.r).app q.o.dst q.r) ((X.app q.o.dst q.r).app p.o.dst p.r) := by
  refine ⟨⟨fun t ht => ?_, fun id hd => ?_, fun j hj => ?_⟩, ⟨fun t ht => ?_, fun id hd => ?_, fun j hj => ?_⟩, by simp only [app_len], fun t => ?_, fun id => ?_⟩
  · have h1 := hq.look t ht
    rw [app_tmp, if_neg (fun e => h.d1 t e.1 ht)] at h1
    rcases h.al1 with h2 | h2
    · rw [h2, killF_nil] at h1
      rw [← h1]
      cases X.tmps.getD t none <;> simp [AV.tr_some]
    · have h3 := h2 t ht
      rw [← h1] at h3 ⊢
      cases hx : X.tmps.getD t none with
      | none => rfl
      | some u =>
        rw [hx] at h3
        simp only [Option.map_some, AV.tr_kill_alive h3]
  · have h1 := hq.rd id hd
    rw [app_blk, wlk_out (fun hi => h.w1 id hi hd)] at h1
    rcases h.al2 with h2 | h2
    · rw [h2, killF_nil, Slot.tr_some] at h1
      exact h1
    · have h3 := h2 id hd
      rw [← h1] at h3 ⊢
      cases hx : X.blk id with
      | live b =>
        rw [hx] at h3
        simp only [Slot.tr, AV.tr_kill_alive h3]
      | _ => rfl
  · have h1 := hq.new j hj
    rw [app_blk] at h1
    rw [wlk_out (h.w5 j hj)] at h1
    exact Slot.tr_unborn.1 h1
  · rw [app_tmp, if_neg (fun e => h.d3 t e.1 ht), hp.look t ht]
    exact h.k3 t ht
  · rw [app_blk, wlk_out (fun hi => h.w2 id hi hd), hp.rd id hd]
    exact h.k4 id hd
  · rw [app_blk, wlk_out (h.w4 j hj), hp.new j hj]; rfl
  · rw [app_tmp, app_tmp, app_tmp, app_tmp, app_len, app_len]
    by_cases e1 : q.o.dst = some t ∧ t < X.tmps.length
    · rw [if_pos e1, if_neg (fun e => h.d2 t e.1 e1.1), if_pos e1]
      cases hv : q.r.v with
      | none => rfl
      | some u => simp only [Option.map_some, h.k1 u hv]
    · rw [if_neg e1, if_neg e1]
      by_cases e2 : p.o.dst = some t ∧ t < X.tmps.length
      · rw [if_pos e2, if_pos e2]
        cases hv : p.r.v with
        | none => rfl
        | some u => simp only [Option.map_some, h.k5 u hv]
      · rw [if_neg e2, if_neg e2]
        cases X.tmps.getD t none with
        | none => rfl
        | some u => simp only [Option.map_some, AV.tr_kill_comm]
  · rw [app_blk, app_blk, app_blk, app_blk]
    by_cases e1 : id ∈ q.r.wr.map (·.1)
    · obtain ⟨s, h1, h2⟩ := wlk_in e1
      rw [h2, h2, wlk_out (fun hi => h.w3 id hi e1), h.k2 id s h1]
    · rw [wlk_out e1, wlk_out e1]
      by_cases e2 : id ∈ p.r.wr.map (·.1)
      · obtain ⟨s, h1, h2⟩ := wlk_in e2
        rw [h2, h2, h.k6 id s h1]
      · rw [wlk_out e2, wlk_out e2]
        cases X.blk id with
        | live b => simp only [Slot.tr, AV.tr_kill_comm]
        | _ => rfl
end Go.Vc

namespace Go.Vc
inductive Vs (ops : Array Oper) (rs : List Rc) : List Nat → AS → AS → Prop
  | nil (X Y : AS) (h : Eqv X Y) : Vs ops rs [] X Y
  | cons (i : Nat) (s : List Nat) (q : Rc) (X Y : AS) (hq : rs[i]? = some q) (hp : Pre ops q X) (r : Vs ops rs s (X.app q.o.dst q.r) Y) : Vs ops rs (i :: s) X Y
theorem Vs.eqv {ops : Array Oper} {rs : List Rc} : ∀ {s : List Nat} {X X' Y : AS}, Vs ops rs s X Y → Eqv X X' → Vs ops rs s X' Y
  | _, _, _, _, .nil X Y h, e => .nil _ _ (e.symm.trans h)
  | _, _, _, _, .cons i s q X Y hq hp r, e => .cons i s q _ _ hq (hp.eqv e) (r.eqv (e.app _ _))
def IndAt (ops : Array Oper) (rs : List Rc) (p i : Nat) : Prop := ∀ qp qi, rs[p]? = some qp → rs[i]? = some qi → Ind ops qp qi
theorem Vs.front {ops : Array Oper} {rs : List Rc} {i : Nat} {s2 : List Nat} : ∀ {s1 : List Nat} {X Y : AS}, Vs ops rs (s1 ++ i :: s2) X Y → (∀ p ∈ s1, IndAt ops rs p i) → Vs ops rs (i :: (s1 ++ s2)) X Y
  | [], X, Y, h, _ => h
  | p :: s1, X, Y, h, hi => by
    cases h with
    | cons _ _ q _ _ hq hp r =>
      have h1 := Vs.front r fun p' hp' => hi p' (List.mem_cons_of_mem _ hp')
      cases h1 with
      | cons _ _ q' _ _ hq' hp' r' =>
        obtain ⟨k1, k2, k3⟩ := swap (hi p (List.mem_cons_self ..) q q' hq hq') hp hp'
        exact .cons i _ q' _ _ hq' k1 (.cons p _ q _ _ hq k2 (r'.eqv k3))
def direct (o : Oper) : List Nat := (o.after.toList.filter (Region.binds .any)).map (·.on)
def tblOK (ops : List Oper) (T : List (List Nat)) : Bool :=
  (List.range ops.length).all fun i => (T.getD i []).all fun p =>
    let d := (ops[i]?).elim [] direct
    d.contains p || d.any fun j => decide (j < i) && (T.getD j []).contains p
def edgesOK (ops : List Oper) : Bool := (List.range ops.length).all fun i => ((ops[i]?).elim [] direct).all fun j => decide (j < i)
def apartOK (fps : List FP) (T : List (List Nat)) : Bool :=
  (List.range fps.length).all fun i => (List.range i).all fun p => (T.getD i []).contains p || match fps[p]?, fps[i]? with | some a, some b => FP.ind a b | _, _ => false
def tblGo : List Oper → List (List Nat) → List (List Nat)
  | [], acc => acc
  | o :: r, acc => tblGo r (acc ++ [((direct o) ++ (direct o).flatMap fun j => acc.getD j []).eraseDups])
def drawOK (ops : List Oper) (fps : List FP) : Bool := edgesOK ops && tblOK ops (tblGo ops []) && apartOK fps (tblGo ops []) && decide (fps.length = ops.length)
def Down (ops : List Oper) (listed : Array Bool) : Prop := ∀ i : Nat, listed.getD i false = true → ∀ o, ops[i]? = some o → ∀ j ∈ direct o, listed.getD j false = true
theorem tbl_listed {ops : List Oper} {T : List (List Nat)} (hT : tblOK ops T = true) {listed : Array Bool} (hd : Down ops listed) : ∀ (i : Nat) (o : Oper), ops[i]? = some o → (∀ j ∈ direct o, listed.getD j false = true) → ∀ p ∈ T.getD i [], listed.getD p false = true := by
  intro i
  induction i using Nat.strongRecOn with
  | _ i ih =>
    intro o ho hl p hp
    have hi : i < ops.length := (List.getElem?_eq_some_iff.1 ho).1
    simp only [tblOK, List.all_eq_true, List.mem_range] at hT
    have h1 := hT i hi p hp
    simp only [ho, Option.elim_some, Bool.or_eq_true, List.contains_eq_mem, decide_eq_true_eq, List.any_eq_true, Bool.and_eq_true] at h1
    rcases h1 with h1 | ⟨j, hj, hlt, hpj⟩
    · exact hl p h1
    · have hjl := hl j hj
      have hjn : j < ops.length := by omega
      exact ih j hlt ops[j] (List.getElem?_eq_getElem hjn) (fun k hk => hd j hjl ops[j] (List.getElem?_eq_getElem hjn) k hk) p hpj
def unl (listed : Array Bool) (n : Nat) : List Nat := (List.range n).filter fun i => !listed.getD i true
theorem mem_unl {listed : Array Bool} {n i : Nat} : i ∈ unl listed n ↔ i < n ∧ listed.getD i true = false := by
  simp [unl, List.mem_filter]
theorem range_split {n i : Nat} (h : i < n) : List.range n = List.range i ++ i :: (List.range' (i + 1) (n - i - 1)) := by
  apply List.ext_getElem?
  intro k
  rw [List.getElem?_append]
  simp only [List.length_range]
  by_cases h1 : k < i
  · rw [if_pos h1, List.getElem?_range h1, List.getElem?_range (by omega)]
  · rw [if_neg h1]
    by_cases h2 : k = i
    · subst h2; rw [Nat.sub_self, List.getElem?_cons_zero, List.getElem?_range h]
    · obtain ⟨j, hj⟩ : ∃ j, k = i + 1 + j := ⟨k - i - 1, by omega⟩
      subst hj
      rw [show i + 1 + j - i = j + 1 by omega, List.getElem?_cons_succ]
      by_cases h3 : i + 1 + j < n
      · rw [List.getElem?_range h3, List.getElem?_range' (by omega)]; simp
      · rw [List.getElem?_eq_none (by simp; omega), List.getElem?_eq_none (by simp; omega)]
theorem unl_split {listed : Array Bool} {n i : Nat} (h : i < n) (hl : listed.getD i true = false) : ∃ s1 s2, unl listed n = s1 ++ i :: s2 ∧ unl (listed.setIfInBounds i true) n = s1 ++ s2 ∧ ∀ p ∈ s1, p < i ∧ listed.getD p true = false := by
  refine ⟨(List.range i).filter fun j => !listed.getD j true, (List.range' (i + 1) (n - i - 1)).filter fun j => !listed.getD j true, ?_, ?_, fun p hp => ?_⟩
  · unfold unl
    rw [range_split h, List.filter_append, List.filter_cons, hl]
    rfl
  · have hlt : i < listed.size := by
      rcases Nat.lt_or_ge i listed.size with h' | h'
      · exact h'
      · simp [Array.getElem?_eq_none h'] at hl
    unfold unl
    rw [range_split h, List.filter_append, List.filter_cons]
    have e1 : (listed.setIfInBounds i true).getD i true = true := by simp [hlt]
    rw [e1]
    simp only [Bool.not_true, Bool.false_eq_true, if_false]
    congr 1
    · refine List.filter_congr fun j hj => ?_
      have := List.mem_range.1 hj
      rw [getD_set_ne true (by omega)]
    · refine List.filter_congr fun j hj => ?_
      have := List.mem_range'_1.1 hj
      rw [getD_set_ne true (by omega)]
  · simp only [List.mem_filter, List.mem_range, Bool.not_eq_true'] at hp
    exact hp
section
variable {P : Program} {C : Cfg2}
theorem any_sound (hC : CfgOK P C) {l : List Oper} {rs : List Rc} {T : List (List Nat)} (hlen : rs.length = l.length) (hok : ∀ (i : Nat) (q : Rc), rs[i]? = some q → Rc.OK C l.toArray q ∧ l[i]? = some q.o) (he : edgesOK l = true) (hT : tblOK l T = true)
    (hap : ∀ (i p : Nat), i < l.length → p < i → p ∈ T.getD i [] ∨ IndAt l.toArray rs p i) {E : Env} (hG : E.glob = C.G) (hpin : ∀ id, E.pin id → id ∈ C.pin) {Y : AS} {Q : Exit → Act → World → Prop} (hQ : ∀ ρ a w, Rel E ρ Y a w → Q .normal a w) :
    ∀ (fuel : Nat) (listed : Array Bool) (X : AS) (ρ : Nat → Option (Nat × Nat)) (a : Act) (w : World), listed.size = l.length → Down l listed → (unl listed l.length).length ≤ fuel → Vs l.toArray rs (unl listed l.length) X Y → Rel E ρ X a w →
      wpAny P .any l.toArray Q fuel listed a w := by
  have nilQ : ∀ (listed : Array Bool) (X : AS) (ρ : Nat → Option (Nat × Nat)) (a : Act) (w : World), unl listed l.length = [] → Vs l.toArray rs (unl listed l.length) X Y → Rel E ρ X a w → Q .normal a w := by
    intro listed X ρ a w h0 hv hR
    rw [h0] at hv
    cases hv with
    | nil _ _ h => exact hQ ρ a w (hR.eqv h)
  have readyUn : ∀ (listed : Array Bool) i, i ∈ Region.ready .any l.toArray listed → i ∈ unl listed l.length := by
    intro listed i hi
    obtain ⟨h1, o, h2, h3⟩ := mem_ready.1 hi
    refine mem_unl.2 ⟨?_, h1⟩
    have := (Array.getElem?_eq_some_iff.1 h2).1
    simpa using this
  have unReady : ∀ (listed : Array Bool), listed.size = l.length → Region.ready .any l.toArray listed = [] → unl listed l.length = [] := by
    intro listed hsz h0
    cases hu : unl listed l.length with
    | nil => rfl
    | cons i s =>
      exfalso
      -- the first that is not listed
      have hmin : ∀ k, k ∈ unl listed l.length → ∃ j, j ∈ Region.ready .any l.toArray listed := by
        intro k
        induction k using Nat.strongRecOn with
        | _ k ih =>
          intro hk
          obtain ⟨hk1, hk2⟩ := mem_unl.1 hk
          by_cases hall : ∀ j ∈ direct l[k], listed.getD j false = true
          · refine ⟨k, mem_ready.2 ⟨hk2, l[k], by simp [hk1], fun e hee hb => hall e.on ?_⟩⟩
            exact List.mem_map.2 ⟨e, List.mem_filter.2 ⟨by simpa using hee, hb⟩, rfl⟩
          · have ⟨j, hj⟩ : ∃ j, ¬ (j ∈ direct l[k] → listed.getD j false = true) := Classical.not_forall.1 hall
            have ⟨hj1, hj2⟩ := Classical.not_imp.1 hj
            have hlt : j < k := by
              simp only [edgesOK, List.all_eq_true, List.mem_range] at he
              have := he k hk1 j (by rw [List.getElem?_eq_getElem hk1]; exact hj1)
              simpa using this
            refine ih j hlt (mem_unl.2 ⟨by omega, ?_⟩)
            have hjs : j < listed.size := by omega
            simp only [Array.getD_eq_getD_getElem?, Array.getElem?_eq_getElem hjs, Option.getD_some] at hj2 ⊢
            simpa using hj2
      obtain ⟨j, hj⟩ := hmin i (by rw [hu]; exact List.mem_cons_self ..)
      rw [h0] at hj
      cases hj
  intro fuel
  induction fuel with
  | zero =>
    intro listed X ρ a w hsz hd hlen0 hv hR
    have h0 : unl listed l.length = [] := List.eq_nil_of_length_eq_zero (by omega)
    refine ⟨?_, nilQ listed X ρ a w h0 hv hR⟩
    cases hr : Region.ready .any l.toArray listed with
    | nil => rfl
    | cons i s =>
      have := readyUn listed i (by rw [hr]; exact List.mem_cons_self ..)
      rw [h0] at this
      cases this
  | succ fuel ih =>
    intro listed X ρ a w hsz hd hlen0 hv hR
    refine ⟨fun h0 => nilQ listed X ρ a w (unReady listed hsz h0) hv hR, fun i hi => ?_⟩
    obtain ⟨hi1, hi2⟩ := mem_unl.1 (readyUn listed i hi)
    obtain ⟨_, o, ho, hall⟩ := mem_ready.1 hi
    have ho' : l[i]? = some o := by simpa using ho
    obtain ⟨s1, s2, e1, e2, e3⟩ := unl_split hi1 hi2
    have hdir : ∀ j ∈ direct o, listed.getD j false = true := by
      intro j hj
      obtain ⟨e, h1, h2⟩ := List.mem_map.1 hj
      obtain ⟨h3, h4⟩ := List.mem_filter.1 h1
      rw [← h2]
      exact hall e (by simpa using h3) h4
    have hind : ∀ p ∈ s1, IndAt l.toArray rs p i := by
      intro p hp
      obtain ⟨h1, h2⟩ := e3 p hp
      rcases hap i p hi1 h1 with h3 | h3
      · exfalso
        have := tbl_listed hT hd i o ho' hdir p h3
        have hps : p < listed.size := by omega
        simp only [Array.getD_eq_getD_getElem?, Array.getElem?_eq_getElem hps, Option.getD_some] at h2 this
        rw [h2] at this
        cases this
      · exact h3
    rw [e1] at hv hlen0
    have hv' := hv.front hind
    rw [← e2] at hv'
    cases hv' with
    | cons _ _ q _ _ hq hp r =>
    obtain ⟨hq1, hq2⟩ := hok i q hq
    rw [ho'] at hq2
    injection hq2 with hq2
    subst hq2
    have hd' : Down l (listed.setIfInBounds i true) := by
      intro k hk ok hok' j hj
      by_cases hki : k = i
      · subst hki
        rw [ho'] at hok'
        injection hok' with hok'
        subst hok'
        exact getD_set_true (hdir j hj)
      · rw [getD_set_ne false (fun e => hki e.symm)] at hk
        exact getD_set_true (hd k hk ok hok' j hj)
    have hnext : ∀ ρ' a' w', Rel E ρ' (X.app q.o.dst q.r) a' w' → wpAny P .any l.toArray Q fuel (listed.setIfInBounds i true) a' w' := fun ρ' a' w' hR' =>
      ih (listed.setIfInBounds i true) (X.app q.o.dst q.r) ρ' a' w' (by simp [hsz]) hd' (by
        rw [e2]
        simp only [List.length_append, List.length_cons] at hlen0 ⊢
        omega) r hR'
    have hw := wantedA_congr hp.look
    unfold wpOp
    simp only [ho]
    rcases hq1.run with ⟨h1, h2⟩ | ⟨h1, h2⟩
    · rw [h1] at hw
      rw [if_pos (wantedA_sound hR hw)]
      left
      have hev := opProg_congr (C := C) (nb := q.nb) (looks_ev (G := C.G) hp.look)
      have hrun : (opProg C (X.ev C.G) q.nb q.o).run X.blk = some (q.r, q.rd) := by
        rw [hev]
        exact HP.run_congr h2 hp.rd
      exact opProg_sound hC hrun hq1.obs hp.new E ρ a w hG hpin hR _ _ hnext
    · rw [h1] at hw
      rw [if_neg (by rw [wantedA_sound hR hw]; simp)]
      refine hnext ρ _ w ?_
      rw [h2, AS.app_val]
      exact hR.skip q.o.dst
def runRc (C : Cfg2) (ops : Array Oper) : List Oper → AS → Option (AS × List Prop × List FP)
  | [], S => some (S, [], [])
  | o :: rest, S => match wantedA ops S o with
    | some true => match (opProg C (S.ev C.G) S.heap.length o).run S.blk with
      | some (r, rd) => match runRc C ops rest (S.app o.dst r) with
        | some (S', obs, fps) => some (S', r.obs ++ obs, (Rc.fp ops ⟨o, S, r, S.heap.length, rd⟩) :: fps)
        | none => none
      | none => none
    | some false => match runRc C ops rest (S.put o.dst (some (.tuple []))) with
      | some (S', obs, fps) => some (S', obs, (Rc.fp ops ⟨o, S, { v := some (.tuple []) }, S.heap.length, []⟩) :: fps)
      | none => none
    | none => none
theorem runRc_spec {ops : Array Oper} : ∀ {L : List Oper} {S S' : AS} {obs : List Prop} {fps : List FP}, runRc C ops L S = some (S', obs, fps) → (∀ q ∈ obs, q) →
    ∃ rs : List Rc, rs.map (Rc.fp ops) = fps ∧ rs.length = L.length ∧ (∀ (i : Nat) (q : Rc), rs[i]? = some q → Rc.OK C ops q ∧ L[i]? = some q.o) ∧
      ∀ (k : Nat) (rs0 : List Rc), (∀ (i : Nat) (q : Rc), rs[i]? = some q → rs0[k + i]? = some q) → Vs ops rs0 (List.range' k L.length) S S'
  | [], S, S', obs, fps, h, ho => by
    simp only [runRc, Option.some.injEq, Prod.mk.injEq] at h
    obtain ⟨h1, h2, h3⟩ := h
    subst h1 h3
    exact ⟨[], rfl, rfl, fun i q hq => by simp at hq, fun k rs0 _ => .nil _ _ .rfl⟩
  | o :: rest, S, S', obs, fps, h, ho => by
    have build : ∀ (q0 : Rc) (X : AS) (obs2 : List Prop) (fps2 : List FP), q0.o = o → q0.S = S → S.app o.dst q0.r = X → Rc.OK C ops q0 → Pre ops q0 S → runRc C ops rest X = some (S', obs2, fps2) → (∀ q ∈ obs2, q) → fps = q0.fp ops :: fps2 →
        ∃ rs : List Rc, rs.map (Rc.fp ops) = fps ∧ rs.length = (o :: rest).length ∧ (∀ (i : Nat) (q : Rc), rs[i]? = some q → Rc.OK C ops q ∧ (o :: rest)[i]? = some q.o) ∧
          ∀ (k : Nat) (rs0 : List Rc), (∀ (i : Nat) (q : Rc), rs[i]? = some q → rs0[k + i]? = some q) → Vs ops rs0 (List.range' k (o :: rest).length) S S' := by
      intro q0 X obs2 fps2 hqo hqS hX hq0 hpre hrest ho2 hf
      obtain ⟨rs, k1, k2, k3, k4⟩ := runRc_spec hrest ho2
      refine ⟨q0 :: rs, by rw [hf, List.map_cons, k1], by simp [k2], fun i q hq => ?_, fun k rs0 hrs => ?_⟩
      · cases i with
        | zero =>
          simp only [List.getElem?_cons_zero, Option.some.injEq] at hq
          subst hq
          exact ⟨hq0, by rw [List.getElem?_cons_zero, hqo]⟩
        | succ i =>
          simp only [List.getElem?_cons_succ] at hq ⊢
          exact k3 i q hq
      · rw [List.length_cons, List.range'_succ]
        refine .cons k _ q0 S S' (by have := hrs 0 q0 rfl; rwa [Nat.add_zero] at this) hpre ?_
        rw [hqo, hX]
        exact k4 (k + 1) rs0 fun i q hq => by
          rw [show k + 1 + i = k + (i + 1) by omega]
          exact hrs (i + 1) q (by rw [List.getElem?_cons_succ]; exact hq)
    simp only [runRc] at h
    split at h
    · rename_i hw
      split at h
      · rename_i r rd hr
        split at h
        · rename_i S2 obs2 fps2 hrest
          simp only [Option.some.injEq, Prod.mk.injEq] at h
          obtain ⟨h1, h2, h3⟩ := h
          subst h1 h2
          exact build ⟨o, S, r, S.heap.length, rd⟩ _ obs2 fps2 rfl rfl rfl ⟨.inl ⟨hw, hr⟩, fun q hq => ho q (List.mem_append_left _ hq)⟩ ⟨fun _ _ => rfl, fun _ _ => rfl, fun j _ => blk_fresh S j⟩ hrest
            (fun q hq => ho q (List.mem_append_right _ hq)) h3.symm
        · cases h
      · cases h
    · rename_i hw
      split at h
      · rename_i S2 obs2 fps2 hrest
        simp only [Option.some.injEq, Prod.mk.injEq] at h
        obtain ⟨h1, h2, h3⟩ := h
        subst h1 h2
        exact build ⟨o, S, { v := some (.tuple []) }, S.heap.length, []⟩ _ obs2 fps2 rfl rfl (AS.app_val S o.dst _ []) ⟨.inr ⟨hw, rfl⟩, fun q hq => by cases hq⟩ ⟨fun _ _ => rfl, fun _ h => (by cases h), fun j hj => (by cases hj)⟩ hrest ho h3.symm
      · cases h
    · cases h
theorem Tri.draw (hm : P.follows .mixedOrders = true) (hC : CfgOK P C) {id : Nat} {l : List Oper} {S S' : AS} {obs : List Prop} {fps : List FP} {Q : Exit → AS → Prop} (h : runRc C l.toArray l S = some (S', obs, fps)) (ho : ∀ q ∈ obs, q)
    (hd : drawOK l fps = true) (hq : Q .normal S') : Tri P C S (.region id l.toArray true) Q := by
  intro E ρ a w hG hp hR
  refine wp_region_any hm ?_
  obtain ⟨rs, k1, k2, k3, k4⟩ := runRc_spec h ho
  simp only [drawOK, Bool.and_eq_true, decide_eq_true_eq] at hd
  obtain ⟨⟨⟨d1, d2⟩, d3⟩, d4⟩ := hd
  have hun : unl (Array.replicate l.length false) l.length = List.range l.length := by
    unfold unl
    rw [List.filter_eq_self]
    intro i hi
    have := List.mem_range.1 hi
    simp [this]
  have hsize : l.toArray.size = l.length := by simp
  rw [hsize]
  refine any_sound hC k2 k3 d1 d2 (fun i p hi hpi => ?_) hG hp (fun ρ a w hR => ⟨S', ρ, hq, hR⟩) l.length (Array.replicate l.length false) S ρ a { w with drawn := w.drawn + 1 } (by simp) (fun i hi => ?_) (by rw [hun]; simp) ?_ hR.drew
  · simp only [apartOK, List.all_eq_true, List.mem_range, Bool.or_eq_true, List.contains_eq_mem, decide_eq_true_eq] at d3
    rcases d3 i (by omega) p hpi with h1 | h1
    · exact .inl h1
    · right
      intro qp qi h2 h3
      rw [← k1] at h1
      simp only [List.getElem?_map, h2, h3, Option.map_some] at h1
      exact ind_of h1
  · exfalso
    simp only [Array.getD_eq_getD_getElem?, Array.getElem?_replicate] at hi
    split at hi <;> simp at hi
  · rw [hun, List.range_eq_range']
    exact k4 0 rs fun i q hq => by rw [Nat.zero_add]; exact hq
end
end Go.Vc

namespace Go.Vc
def Kd.zcells : Kd → List Value
  | .int k => [.int k 0] | .bool => [.bool false] | .str => [.string ⟨⟨[]⟩⟩]
  | .arr n d => (List.replicate n d.zcells).flatten | .st d => d.zcells | .pair a b => a.zcells ++ b.zcells | .unit => []
  | .slice _ _ => [.slice none 0 0]
def Kd.zval (d : Kd) : Value := if d.isAgg then .agg d.zcells.toArray else d.zcells.headD undef
theorem Kd.zero_reads {ok : Bool → Nat → Prop} {hp : Nat → Option Obj} : ∀ d : Kd, Reads ok hp d d.dflt d.zcells
  | .int k => by cases k <;> rfl
  | .bool => rfl
  | .str => rfl
  | .arr n d => ⟨List.length_replicate .., RL.replicate (Kd.zero_reads d) n⟩
  | .st d => Kd.zero_reads d
  | .pair a b => ⟨a.zcells, b.zcells, rfl, Kd.zero_reads a, Kd.zero_reads b⟩
  | .unit => rfl
  | .slice _ d => ⟨none, 0, rfl, Nat.le_refl _, .inl rfl⟩
theorem Kd.zval_cells (d : Kd) : d.zval.cells.toList = d.zcells := by
  cases d <;> first | rfl | simp [Kd.zval, Kd.isAgg, Value.cells]
theorem Kd.zero_RV (c : Ctx) (d : Kd) : RV c (.ofKd d d.dflt) d.zval := by
  have h := Kd.zero_reads (ok := c.ok) (hp := c.hp) d
  cases hd : d.isAgg with
  | true =>
    rw [show d.zval = .agg d.zcells.toArray by simp [Kd.zval, hd]]
    exact .agg _ _ (by rw [ofKd_isAgg, hd]) (RC.ofKd (by simpa using h))
  | false =>
    refine .one _ _ (by rw [ofKd_isAgg, hd]) ?_
    have : [d.zval] = d.zcells := by cases d <;> first | rfl | cases hd
    rw [this]
    exact RC.ofKd h
section
variable {P : Program} {t : TypeId}
def tyInfo (P : Program) (t : TypeId) : Option (Nat × Nat × Option Value) := (P.info? t).map fun j => (j.size, j.bytes, j.zero)
theorem TyOK.of {td : TD} {sz bytes : Nat} {z : AV} {Z : Value} {kd : Option Kd} {pap : Bool} (htd : match td with
    | .int k => P.underlying t = Option.some (.int k) | .bool => P.underlying t = Option.some .bool | .str => P.underlying t = Option.some .string
    | .ptr e => P.underlying t = Option.some (.pointer e) | .slice e => P.underlying t = Option.some (.slice e) | .arr n e => P.underlying t = Option.some (.array n e)
    | .st fs => ∃ fields, P.underlying t = Option.some (.struct fields) ∧ fields.toList.mapM (fun f => (P.info? f.type).map fun i => (f.offset, i.size)) = Option.some (fs.map (·.2)) ∧ fields.toList.map (·.type) = fs.map (·.1)
    | .func => ∃ a b c, P.underlying t = Option.some (.func a b c)
    | .iface => ∃ m, P.underlying t = Option.some (.interface m)
    | .other => ∃ d, P.underlying t = Option.some d ∧ (match d with | .struct _ => False | .array _ _ => False | _ => True)
    | .map k e d => MapLaw P t k e d)
    (hi : tyInfo P t = Option.some (sz, bytes, Option.some Z)) (hz : ∀ c, RV c z Z) (hk : ∀ d, kd = Option.some d → ∀ c, RC c (.ofKd d d.dflt) Z.cells.toList) : TyOK P t ⟨td, sz, bytes, z, kd, pap⟩ := by
  refine ⟨htd, ?_⟩
  unfold tyInfo at hi
  cases hj : P.info? t with
  | none => rw [hj] at hi; cases hi
  | some j =>
    rw [hj] at hi
    simp only [Option.map_some, Option.some.injEq, Prod.mk.injEq] at hi
    exact ⟨j, Z, rfl, hi.1, hi.2.1, hi.2.2, hz, hk⟩
def TyI.kd1 (td : TD) (d : Kd) (bytes : Nat) : TyI := ⟨td, d.sz, bytes, .ofKd d d.dflt, some d, false⟩
theorem TyOK.kd1 {td : TD} {d : Kd} {bytes : Nat} (htd : match td with
    | .int k => P.underlying t = Option.some (.int k) | .bool => P.underlying t = Option.some .bool | .str => P.underlying t = Option.some .string
    | .ptr e => P.underlying t = Option.some (.pointer e) | .slice e => P.underlying t = Option.some (.slice e) | .arr n e => P.underlying t = Option.some (.array n e)
    | .st fs => ∃ fields, P.underlying t = Option.some (.struct fields) ∧ fields.toList.mapM (fun f => (P.info? f.type).map fun i => (f.offset, i.size)) = Option.some (fs.map (·.2)) ∧ fields.toList.map (·.type) = fs.map (·.1)
    | .func => ∃ a b c, P.underlying t = Option.some (.func a b c)
    | .iface => ∃ m, P.underlying t = Option.some (.interface m)
    | .other => ∃ d, P.underlying t = Option.some d ∧ (match d with | .struct _ => False | .array _ _ => False | _ => True)
    | .map k e d => MapLaw P t k e d)
    (hi : tyInfo P t = Option.some (d.sz, bytes, Option.some d.zval)) : TyOK P t (TyI.kd1 td d bytes) :=
  TyOK.of htd hi (fun c => Kd.zero_RV c d) fun d' hd' c => by
    injection hd' with hd'
    subst hd'
    rw [Kd.zval_cells]
    exact RC.ofKd (Kd.zero_reads d)
def TyI.kdp (td : TD) (d : Kd) (bytes : Nat) : TyI := ⟨td, d.sz, bytes, .ofKd d d.dflt, some d, true⟩
theorem TyOK.kdp {k : IntKind} {bytes : Nat} (htd : P.underlying t = Option.some (.int k)) (hi : tyInfo P t = Option.some ((Kd.int k).sz, bytes, Option.some (Kd.int k).zval)) : TyOK P t (TyI.kdp (.int k) (.int k) bytes) :=
  TyOK.of (td := .int k) htd hi (fun c => Kd.zero_RV c (.int k)) fun d' hd' c => by
    injection hd' with hd'
    subst hd'
    rw [Kd.zval_cells]
    exact RC.ofKd (Kd.zero_reads (.int k))
def TyI.ptr1 (e : TypeId) : TyI := ⟨.ptr e, 1, 8, .nilp, none, false⟩
theorem TyOK.ptr1 {e : TypeId} (htd : P.underlying t = Option.some (.pointer e)) (hi : tyInfo P t = Option.some (1, 8, Option.some (.pointer none))) : TyOK P t (TyI.ptr1 e) :=
  TyOK.of (td := .ptr e) htd hi (fun c => .one _ _ rfl .nilp) fun d hd => by cases hd
def TyI.slice1 (e : TypeId) : TyI := ⟨.slice e, 1, 24, .nilsl, none, false⟩
theorem TyOK.slice1 {e : TypeId} (htd : P.underlying t = Option.some (.slice e)) (hi : tyInfo P t = Option.some (1, 24, Option.some (.slice none 0 0))) : TyOK P t (TyI.slice1 e) :=
  TyOK.of (td := .slice e) htd hi (fun c => .one _ _ rfl .nilsl) fun d hd => by cases hd
end
end Go.Vc

namespace Go.Vc
theorem constI_u8 (n : Nat) (h : n < 256) : constI .u8 (no_index (OfNat.ofNat n)) = some (.int .u8 (UInt8.ofNat n)) := by
  have h1 : wrapT .u8 (OfNat.ofNat n : Int) = UInt8.ofNat n := by
    apply toI_inj (k := .u8)
    rw [toI_wrapT, IntKind.wrap_u8]
    show (n : Int) % 256 = ((UInt8.ofNat n).toNat : Int)
    simp [UInt8.toNat_ofNat']
  unfold constI
  rw [if_pos]
  · rw [h1]
  · rw [toI_wrapT, IntKind.wrap_u8]
    show (n : Int) % 256 = n
    omega
theorem constI_u32 (n : Nat) (h : n < 4294967296) : constI .u32 (no_index (OfNat.ofNat n)) = some (.int .u32 (UInt32.ofNat n)) := by
  have h1 : wrapT .u32 (OfNat.ofNat n : Int) = UInt32.ofNat n := by
    apply toI_inj (k := .u32)
    rw [toI_wrapT, IntKind.wrap_u32]
    show (n : Int) % 4294967296 = ((UInt32.ofNat n).toNat : Int)
    simp [UInt32.toNat_ofNat']
  unfold constI
  rw [if_pos]
  · rw [h1]
  · rw [toI_wrapT, IntKind.wrap_u32]
    show (n : Int) % 4294967296 = n
    omega
theorem constI_u64 (n : Nat) (h : n < 18446744073709551616) : constI .u64 (no_index (OfNat.ofNat n)) = some (.int .u64 (UInt64.ofNat n)) := by
  have h1 : wrapT .u64 (OfNat.ofNat n : Int) = UInt64.ofNat n := by
    apply toI_inj (k := .u64)
    rw [toI_wrapT, IntKind.wrap_u64]
    show (n : Int) % 18446744073709551616 = ((UInt64.ofNat n).toNat : Int)
    simp [UInt64.toNat_ofNat']
  unfold constI
  rw [if_pos]
  · rw [h1]
  · rw [toI_wrapT, IntKind.wrap_u64]
    show (n : Int) % 18446744073709551616 = n
    omega
theorem wrap_i64_id (n : Int) (h1 : -9223372036854775808 ≤ n) (h2 : n ≤ 9223372036854775807) : IntKind.i64.wrap n = n := by
  rw [IntKind.wrap_i64]; omega
theorem constI_i64 (n : Int) (h1 : -9223372036854775808 ≤ n) (h2 : n ≤ 9223372036854775807) : constI .i64 n = some (.int .i64 n) := by
  have h : wrapT .i64 n = n := wrap_i64_id n h1 h2
  unfold constI
  rw [if_pos]
  · rw [h]
  · rw [h]; rfl
theorem addT_u8 (a b : UInt8) : addT .u8 a b = a + b := rfl
theorem subT_u8 (a b : UInt8) : subT .u8 a b = a - b := rfl
theorem mulT_u8 (a b : UInt8) : mulT .u8 a b = a * b := rfl
theorem quoT_u8 (a b : UInt8) : quoT .u8 a b = a / b := rfl
theorem remT_u8 (a b : UInt8) : remT .u8 a b = a % b := rfl
theorem andT_u8 (a b : UInt8) : andT .u8 a b = a &&& b := rfl
theorem orT_u8 (a b : UInt8) : orT .u8 a b = a ||| b := rfl
theorem xorT_u8 (a b : UInt8) : xorT .u8 a b = a ^^^ b := rfl
theorem notT_u8 (a : UInt8) : notT .u8 a = ~~~a := rfl
theorem ltT_u8 (a b : UInt8) : ltT .u8 a b = decide (a < b) := rfl
theorem eqI_u8 (a b : UInt8) : eqI .u8 a b = decide (a = b) := rfl
theorem toI_u8 (a : UInt8) : toI .u8 a = (a.toNat : Int) := rfl
theorem shlT_u8 (a : UInt8) (n : Nat) (h : n < 8) : shlT .u8 a n = a <<< UInt8.ofNat n := by show (if n < 8 then _ else _) = _; rw [if_pos h]; rfl
theorem shrT_u8 (a : UInt8) (n : Nat) (h : n < 8) : shrT .u8 a n = a >>> UInt8.ofNat n := by show (if n < 8 then _ else _) = _; rw [if_pos h]; rfl
theorem addT_u32 (a b : UInt32) : addT .u32 a b = a + b := rfl
theorem subT_u32 (a b : UInt32) : subT .u32 a b = a - b := rfl
theorem mulT_u32 (a b : UInt32) : mulT .u32 a b = a * b := rfl
theorem quoT_u32 (a b : UInt32) : quoT .u32 a b = a / b := rfl
theorem remT_u32 (a b : UInt32) : remT .u32 a b = a % b := rfl
theorem andT_u32 (a b : UInt32) : andT .u32 a b = a &&& b := rfl
theorem orT_u32 (a b : UInt32) : orT .u32 a b = a ||| b := rfl
theorem xorT_u32 (a b : UInt32) : xorT .u32 a b = a ^^^ b := rfl
theorem notT_u32 (a : UInt32) : notT .u32 a = ~~~a := rfl
theorem ltT_u32 (a b : UInt32) : ltT .u32 a b = decide (a < b) := rfl
theorem eqI_u32 (a b : UInt32) : eqI .u32 a b = decide (a = b) := rfl
theorem toI_u32 (a : UInt32) : toI .u32 a = (a.toNat : Int) := rfl
theorem shlT_u32 (a : UInt32) (n : Nat) (h : n < 32) : shlT .u32 a n = a <<< UInt32.ofNat n := by show (if n < 32 then _ else _) = _; rw [if_pos h]; rfl
theorem shrT_u32 (a : UInt32) (n : Nat) (h : n < 32) : shrT .u32 a n = a >>> UInt32.ofNat n := by show (if n < 32 then _ else _) = _; rw [if_pos h]; rfl
theorem addT_u64 (a b : UInt64) : addT .u64 a b = a + b := rfl
theorem subT_u64 (a b : UInt64) : subT .u64 a b = a - b := rfl
theorem mulT_u64 (a b : UInt64) : mulT .u64 a b = a * b := rfl
theorem quoT_u64 (a b : UInt64) : quoT .u64 a b = a / b := rfl
theorem remT_u64 (a b : UInt64) : remT .u64 a b = a % b := rfl
theorem andT_u64 (a b : UInt64) : andT .u64 a b = a &&& b := rfl
theorem orT_u64 (a b : UInt64) : orT .u64 a b = a ||| b := rfl
theorem xorT_u64 (a b : UInt64) : xorT .u64 a b = a ^^^ b := rfl
theorem notT_u64 (a : UInt64) : notT .u64 a = ~~~a := rfl
theorem ltT_u64 (a b : UInt64) : ltT .u64 a b = decide (a < b) := rfl
theorem eqI_u64 (a b : UInt64) : eqI .u64 a b = decide (a = b) := rfl
theorem toI_u64 (a : UInt64) : toI .u64 a = (a.toNat : Int) := rfl
theorem shlT_u64 (a : UInt64) (n : Nat) (h : n < 64) : shlT .u64 a n = a <<< UInt64.ofNat n := by show (if n < 64 then _ else _) = _; rw [if_pos h]; rfl
theorem shrT_u64 (a : UInt64) (n : Nat) (h : n < 64) : shrT .u64 a n = a >>> UInt64.ofNat n := by show (if n < 64 then _ else _) = _; rw [if_pos h]; rfl
theorem addT_i64 (a b : Int) : addT .i64 a b = IntKind.i64.wrap (a + b) := rfl
theorem subT_i64 (a b : Int) : subT .i64 a b = IntKind.i64.wrap (a - b) := rfl
theorem mulT_i64 (a b : Int) : mulT .i64 a b = IntKind.i64.wrap (a * b) := rfl
theorem quoT_i64 (a b : Int) : quoT .i64 a b = IntKind.i64.wrap (Int.tdiv a b) := rfl
theorem remT_i64 (a b : Int) : remT .i64 a b = Int.tmod a b := rfl
theorem ltT_i64 (a b : Int) : ltT .i64 a b = decide (a < b) := rfl
theorem eqI_i64 (a b : Int) : eqI .i64 a b = decide (a = b) := rfl
theorem toI_i64 (a : Int) : toI .i64 a = a := rfl
theorem conv_i64_u8 (x : UInt8) : convT .i64 .u8 x = (x.toNat : Int) := rfl
theorem conv_i64_u32 (x : UInt32) : convT .i64 .u32 x = (x.toNat : Int) := rfl
theorem conv_u32_u8 (x : UInt8) : convT .u32 .u8 x = x.toUInt32 := rfl
theorem conv_u64_u8 (x : UInt8) : convT .u64 .u8 x = x.toUInt64 := rfl
theorem conv_u8_u32 (x : UInt32) : convT .u8 .u32 x = x.toUInt8 := rfl
theorem conv_u8_u64 (x : UInt64) : convT .u8 .u64 x = x.toUInt8 := rfl
theorem conv_u32_u64 (x : UInt64) : convT .u32 .u64 x = x.toUInt32 := rfl
theorem conv_u64_u32 (x : UInt32) : convT .u64 .u32 x = x.toUInt64 := rfl
theorem conv_u64_u64 (x : UInt64) : convT .u64 .u64 x = x := rfl
theorem conv_u8_u8 (x : UInt8) : convT .u8 .u8 x = x := rfl
theorem conv_u32_u32 (x : UInt32) : convT .u32 .u32 x = x := rfl
theorem conv_i64_i64 (x : Int) : convT .i64 .i64 x = IntKind.i64.wrap x := rfl
theorem conv_u8_i64 (x : Int) : convT .u8 .i64 x = UInt8.ofInt x := rfl
theorem conv_u64_i64 (x : Int) : convT .u64 .i64 x = UInt64.ofInt x := rfl
theorem conv_u32_i64 (x : Int) : convT .u32 .i64 x = UInt32.ofInt x := rfl
theorem tdivN (a b : Nat) : Int.tdiv (a : Int) (no_index (OfNat.ofNat b)) = ((a / b : Nat) : Int) := (Int.ofNat_tdiv a b).symm
theorem tmodN (a b : Nat) : Int.tmod (a : Int) (no_index (OfNat.ofNat b)) = ((a % b : Nat) : Int) := (Int.ofNat_tmod a b).symm
theorem mulNl (a b : Nat) : (no_index (OfNat.ofNat a) : Int) * (b : Int) = ((a * b : Nat) : Int) := (Int.natCast_mul a b).symm
theorem mulNr (a b : Nat) : (a : Int) * (no_index (OfNat.ofNat b) : Int) = ((a * b : Nat) : Int) := (Int.natCast_mul a b).symm
theorem addNN (a b : Nat) : (a : Int) + (b : Int) = ((a + b : Nat) : Int) := (Int.natCast_add a b).symm
theorem addNl (a b : Nat) : (no_index (OfNat.ofNat a) : Int) + (b : Int) = ((a + b : Nat) : Int) := (Int.natCast_add a b).symm
theorem addNr (a b : Nat) : (a : Int) + (no_index (OfNat.ofNat b) : Int) = ((a + b : Nat) : Int) := (Int.natCast_add a b).symm
theorem wrapN (a : Nat) (h : a ≤ 9223372036854775807) : IntKind.i64.wrap (a : Int) = (a : Int) := wrap_i64_id _ (by omega) (by omega)
end Go.Vc

namespace Go.Vc
def Obs : List Prop → Prop
  | [] => True
  | q :: r => q ∧ Obs r
theorem Obs.all : ∀ {l : List Prop}, Obs l → ∀ q ∈ l, q
  | [], _, q, hq => by cases hq
  | p :: r, h, q, hq => by
    cases hq with
    | head => exact h.1
    | tail _ hq => exact Obs.all h.2 q hq
theorem Obs.of : ∀ {l : List Prop}, (∀ q ∈ l, q) → Obs l
  | [], _ => trivial
  | p :: r, h => ⟨h p (List.mem_cons_self ..), Obs.of fun q hq => h q (List.mem_cons_of_mem _ hq)⟩
section
variable {P : Program} {C : Cfg2} {S S' : AS} {Q : Exit → AS → Prop} {K : AS → Prop} {x y z : Code}
theorem Tri.reg (hC : CfgOK P C) {id : Nat} {l : List Oper} {obs : List Prop} (h : runOps C l.toArray l S = some (S', obs)) (ho : Obs obs) (hq : K S') : Tri P C S (.region id l.toArray false) (Then K Q) :=
  Tri.region hC h ho.all hq
theorem Tri.drw (hm : P.follows .mixedOrders = true) (hC : CfgOK P C) {id : Nat} {l : List Oper} {obs : List Prop} {fps : List FP} (h : runRc C l.toArray l S = some (S', obs, fps)) (ho : Obs obs) (hd : drawOK l fps = true) (hq : K S') : Tri P C S (.region id l.toArray true) (Then K Q) :=
  Tri.draw hm hC h ho.all hd hq
theorem Tri.skp (hq : K S) : Tri P C S .skip (Then K Q) := Tri.skip hq
end
theorem Con.done {K : Con} {C : Cfg2} {fn : Func} {p : K.Par} {e : Exit} {S : AS} {vs : List AV} {obs : List Prop} {l : List Nat} (he : e = .ret ∨ e = .normal)
    (h : (resA C.toCfg S fn.results.toList).run S.blk = some ((vs, obs), l)) (ho : Obs obs) (hv : resV vs = (K.out p).v) (hh : LessH S.heap ((K.out p).fin.map .live))
    (hc : (⟨[some (K.out p).v], (K.out p).fin.map .live⟩ : AS).closed = true) (hp : ∀ id ∈ K.pins, ((⟨[some (K.out p).v], (K.out p).fin.map .live⟩ : AS).blk id).born = true) : K.post C fn p e S :=
  ⟨he, vs, obs, l, h, ho.all, Wk.less (.cons _ _ _ _ (by show some (resV vs) = some _; rw [hv]) .nil) hh hc hp⟩
end Go.Vc

namespace Go.Vc
def lessTs : List (Option AV) → List (Option AV) → Prop
  | [], [] => True
  | _ :: l, none :: m => lessTs l m
  | x :: l, some y :: m => x = some y ∧ lessTs l m
  | _, _ => False
def lessHs : List Slot → List Slot → Prop
  | _, [] => True
  | _ :: l, .unborn :: m => lessHs l m
  | x :: l, y :: m => x = y ∧ lessHs l m
  | _, _ => False
theorem lessTs.less : ∀ {l m : List (Option AV)}, lessTs l m → Less lessT l m
  | [], [], _ => .nil
  | x :: l, none :: m, h => .cons _ _ _ _ trivial (lessTs.less (l := l) (m := m) h)
  | x :: l, some y :: m, h => .cons _ _ _ _ h.1 (lessTs.less (l := l) (m := m) h.2)
  | [], _ :: _, h => h.elim
  | _ :: _, [], h => h.elim
theorem lessHs.less : ∀ {l m : List Slot}, lessHs l m → LessH l m
  | _, [], _ => .nil _
  | x :: l, .unborn :: m, h => .cons _ _ _ _ trivial (lessHs.less (l := l) (m := m) h)
  | x :: l, .dead :: m, h => .cons _ _ _ _ (by rw [show x = .dead from h.1]; rfl) (lessHs.less (l := l) (m := m) h.2)
  | x :: l, .live b :: m, h => .cons _ _ _ _ (by rw [show x = .live b from h.1]; rfl) (lessHs.less (l := l) (m := m) h.2)
  | [], .unborn :: _, h => h.elim
  | [], .dead :: _, h => h.elim
  | [], .live _ :: _, h => h.elim
theorem Wk.of {C : Cfg2} {S S' : AS} (ht : lessTs S.tmps S'.tmps) (hh : lessHs S.heap S'.heap) (hc : S'.closed = true) (hp : (C.pin.all fun id => (S'.blk id).born) = true) : Wk C S S' :=
  Wk.less ht.less hh.less hc fun id h => List.all_eq_true.1 hp id h
theorem Con.fin {K : Con} {C : Cfg2} {fn : Func} {p : K.Par} {e : Exit} {S : AS} {vs : List AV} {obs : List Prop} {l : List Nat} (he : e = .ret ∨ e = .normal)
    (h : (resA C.toCfg S fn.results.toList).run S.blk = some ((vs, obs), l)) (ho : Obs obs) (hv : resV vs = (K.out p).v) (hh : lessHs S.heap ((K.out p).fin.map .live))
    (hc : (⟨[some (K.out p).v], (K.out p).fin.map .live⟩ : AS).closed = true) (hp : (K.pins.all fun id => ((⟨[some (K.out p).v], (K.out p).fin.map .live⟩ : AS).blk id).born) = true) : K.post C fn p e S :=
  Con.done he h ho hv hh.less hc fun id h => List.all_eq_true.1 hp id h
section
variable {P : Program} {C : Cfg2} {S : AS} {c : Code} {Q : Exit → AS → Prop}
theorem Tri.lp {σ : Type} (I : σ → AS) (K : σ → Prop) (μ : σ → Nat) (s0 : σ) {K' : AS → Prop} (h0 : Wk C S (I s0)) (hk : K s0)
    (round : ∀ s, K s → Tri P C (I s) c (Then (fun S' => ∃ s', K s' ∧ μ s' < μ s ∧ Wk C S' (I s')) (Then K' Q))) : Tri P C S (.loop c) (Then K' Q) := Tri.loop I K μ s0 h0 hk round
theorem Tri.rgn (hC : CfgOK P C) {id : Nat} {l : List Oper} {S' : AS} {obs : List Prop} (h : runOps C l.toArray l S = some (S', obs)) (ho : Obs obs) (hq : Q .normal S') : Tri P C S (.region id l.toArray false) Q :=
  Tri.region hC h ho.all hq
theorem Tri.drn (hm : P.follows .mixedOrders = true) (hC : CfgOK P C) {id : Nat} {l : List Oper} {S' : AS} {obs : List Prop} {fps : List FP} (h : runRc C l.toArray l S = some (S', obs, fps)) (ho : Obs obs) (hd : drawOK l fps = true) (hq : Q .normal S') : Tri P C S (.region id l.toArray true) Q :=
  Tri.draw hm hC h ho.all hd hq
theorem Tri.cF {o : Operand} {x y : Code} (hc : S.ev C.G o = some (.bool false)) (h : Tri P C S y Q) : Tri P C S (.cond o x y) Q := Tri.cond (b := false) hc h
theorem Tri.cT {o : Operand} {x y : Code} (hc : S.ev C.G o = some (.bool true)) (h : Tri P C S x Q) : Tri P C S (.cond o x y) Q := Tri.cond (b := true) hc h
theorem Tri.seqWk {x y : Code} {σ : Type} (I : σ → AS) (K : σ → Prop) (hx : Tri P C S x (Then (fun S' => ∃ s, K s ∧ Wk C S' (I s)) Q)) (hy : ∀ s, K s → Tri P C (I s) y Q) : Tri P C S (.seq x y) Q :=
  Tri.seq (hx.mono fun e S' h => by
    cases e with
    | normal =>
      obtain ⟨s, h1, h2⟩ := h
      exact (hy s h1).weak h2
    | _ => exact h)
theorem Tri.blk {id : Nat} (h : Tri P C S c (InBlock id Q)) : Tri P C S (.block id c) Q := Tri.block h
end
end Go.Vc

namespace Go.Vc
open Go.ChangeShapes Go.WideShapes Go.ChangeAt Go.RowKit
section
variable {H : Type} {enc : TypeId × Value → H} {P : Program}
theorem trodAll_keeps (hl : laidOutB P = true) {W W' : World} (hb : Below W.heap.size W W') (sp : Nat → Bool) : ∀ {ts : List TypeId} {vs : List Value} {ds : List (DataW H)} {ps : List MemPlace},
    (ts.all fun t => P.readableRec t && decide (t < P.types.size)) = true → DataW.TrodAll enc P W 0 (fun _ => true) true ts vs ds ps → (∀ x ∈ ps, x.block < W.heap.size) → (∀ x ∈ ps, sp x.block = true) → DataW.TrodAll enc P W' 0 sp true ts vs ds ps
  | [], vs, ds, ps, _, h, _, _ => by
    obtain ⟨rfl, rfl, rfl⟩ := trodAll_nil h
    exact h
  | t :: ts, vs, ds, ps, hr, h, hlt, hs => by
    obtain ⟨v, vs1, d, ds1, a, b, rfl, rfl, rfl, h1, h2⟩ := trodAll_cons h
    simp only [List.all_cons, Bool.and_eq_true, decide_eq_true_eq] at hr
    exact ⟨a, b, WideElems.Trod_stays hl hr.1.1 hr.1.2 h1 (fun x hx => hb.same (hlt x (List.mem_append_left _ hx))) (fun x hx => hs x (List.mem_append_left _ hx)),
      trodAll_keeps hl hb sp hr.2 h2 (fun x hx => hlt x (List.mem_append_right _ hx)) (fun x hx => hs x (List.mem_append_right _ hx)), rfl⟩
theorem trod_bool {tb : TypeId} (htb : P.underlying tb = some .bool) (W : World) (base : Nat) (sp : Nat → Bool) (hd : Bool) (b : Bool) : DataW.TrodAll enc P W base sp hd [tb] [.bool b] [.lit (.bool b)] [] :=
  ⟨[], [], ⟨1, by simp [DataW.trod, htb, Value.cells]⟩, rfl, rfl⟩
theorem law_post {f : Func} {s : ChangeSpec} {apart fresh handsOn again : Bool} {W W' : World} {args : Array Value} {ds gs : List (DataW H)} {before : List MemPlace} {tb : TypeId}
    (hW : DataW.Whole enc P f.params.toList s.vars apart W args.toList ds gs before) (hb : Below W.heap.size W W') (hl : laidOutB P = true) (hr : (f.params.toList.all fun t => P.readableRec t && decide (t < P.types.size)) = true)
    (hvr : s.vars = []) (hrt : f.resultTypes = #[tb]) (htb : P.underlying tb = some .bool) (h1 : (s.fn H (ds ++ gs)).results = [.lit (.bool true)]) (h2 : (s.fn H (ds ++ gs)).args = ds) (h3 : (s.fn H (ds ++ gs)).vars = []) :
    s.post enc P f apart fresh handsOn again W args (.bool true) W' := by
  have hlt : ∀ x ∈ before, x.block < W.heap.size := fun x hx => hW.lt x hx
  have hW0 := hW
  obtain ⟨p, q, hA, hV, hbe, hz, hn⟩ := hW
  rw [hvr] at hV
  have hgs : gs = [] ∧ q = [] := by
    cases gs with
    | nil => exact ⟨rfl, hV⟩
    | cons g gs => exact hV.elim
  obtain ⟨hg1, hq⟩ := hgs
  subst hq
  rw [List.append_nil] at hbe
  subst hbe
  have hrl : (Value.bool true).resultList f.resultTypes.size = [.bool true] := by rw [hrt]; rfl
  have hres : ∀ (b : Nat) (sp : Nat → Bool) (hd : Bool), DataW.TrodAll enc P W' b sp hd f.resultTypes.toList ((Value.bool true).resultList f.resultTypes.size) (s.fn H (ds ++ gs)).results [] := fun b sp hd => by
    rw [hrl, h1, hrt]; exact trod_bool htb W' b sp hd true
  have hargs : ∀ sp : Nat → Bool, (∀ x ∈ before, sp x.block = true) → DataW.TrodAll enc P W' 0 sp true f.params.toList args.toList (s.fn H (ds ++ gs)).args before := fun sp hs => by
    rw [h2]; exact trodAll_keeps hl hb sp hr hA hlt hs
  have hvars : ∀ sp : Nat → Bool, DataW.TrodVars enc P W' sp s.vars (s.fn H (ds ++ gs)).vars [] := fun sp => by rw [h3, hvr]; rfl
  refine ⟨ds, gs, before, [], before, [], hW0, hres _ _ _, hargs _ (fun x hx => by simpa using hlt x hx), hvars _, hb.frame _, fun _ => ⟨?_, _, _, ([] ++ before) ++ [], ⟨[] ++ before, [], trodAll_append (hargs _ (fun _ _ => rfl)) (hres _ _ _), hvars _, rfl, ?_, ?_⟩, ?_⟩⟩
  · intro j t r hj hv
    rw [hrl] at hv
    rw [hrt] at hj
    match j, hj, hv with
    | 0, hj, hv =>
      simp at hj hv
      subst hj hv
      simp [Value.okWide, htb, Cell.okWide, Cell.ok]
  · intro b off hp
    have hp' : MemPlace.cell b off ∈ before := by simpa using hp
    rw [hb.frozen (hlt _ hp')]
    exact hz b off hp'
  · intro ha
    simpa using hn ha
  · intro p hp _
    simpa using hp
end
end Go.Vc

namespace Go.Vc
open Go.ChangeShapes Go.WideShapes Go.ChangeAt Go.RowKit
def TyK (P : Program) : Kd → TypeId → Prop
  | .int k, t => P.underlying t = some (.int k)
  | .bool, t => P.underlying t = some .bool
  | .str, t => P.underlying t = some .string
  | .arr n d, t => ∃ e, P.underlying t = some (.array n e) ∧ TyK P d e ∧ P.cellsOf e = d.sz ∧ P.cellsOf t = n * d.sz
  | .slice true d, t => ∃ e, P.underlying t = some (.slice e) ∧ TyK P d e ∧ P.cellsOf e = d.sz ∧ 0 < d.sz
  | .st d, t => ∃ fields, P.underlying t = some (.struct fields) ∧ FK P d fields.toList 0 ∧ P.cellsOf t = d.sz
  | _, _ => False
where
  FK (P : Program) : Kd → List Field → Nat → Prop
    | .pair a b, f :: fs, off => f.offset = off ∧ TyK P a f.type ∧ P.cellsOf f.type = a.sz ∧ FK P b fs (off + a.sz)
    | .unit, [], _ => True
    | _, _, _ => False
theorem RL_mk {α : Type} {R : α → List Value → Prop} {k : Nat} : ∀ (n : Nat) (cs : List Value), n * k ≤ cs.length → (∀ i, i < n → ∃ x, R x ((cs.drop (i * k)).take k)) → ∃ xs : List α, xs.length = n ∧ RL R xs (cs.take (n * k))
  | 0, cs, _, _ => ⟨[], rfl, by simp [RL]⟩
  | n + 1, cs, hl, h => by
    have hk : k ≤ cs.length := by rw [Nat.add_mul] at hl; omega
    obtain ⟨x, hx⟩ := h 0 (by omega)
    obtain ⟨xs, h1, h2⟩ := RL_mk (R := R) (k := k) n (cs.drop k) (by rw [List.length_drop]; rw [Nat.add_mul] at hl; omega) (fun i hi => by
      obtain ⟨y, hy⟩ := h (i + 1) (by omega)
      refine ⟨y, ?_⟩
      rw [List.drop_drop, show k + i * k = (i + 1) * k by rw [Nat.add_mul]; omega]
      exact hy)
    refine ⟨x :: xs, by simp [h1], cs.take k, (cs.drop k).take (n * k), ?_, by simpa using hx, h2⟩
    rw [show (n + 1) * k = k + n * k by rw [Nat.add_mul]; omega, List.take_add]
theorem int_of_wf {k : IntKind} {n : Int} (h : (Lit.int k n).wf = true) : ∃ x : IntT k, toI k x = n := by
  refine ⟨wrapT k n, ?_⟩
  rw [toI_wrapT]
  simp only [Lit.wf, Bool.and_eq_true, decide_eq_true_eq] at h
  obtain ⟨h1, h2⟩ := h
  cases k <;> simp only [IntKind.min, IntKind.max, IntKind.signed, IntKind.bits] at h1 h2
  all_goals (simp only [IntKind.wrap, IntKind.bits, IntKind.signed] at *; first | omega | (simp; omega) | (simp at *; omega))
section
variable {H : Type} {enc : TypeId × Value → H} {P : Program} {w : World} {base : Nat} {sp : Nat → Bool} {hd : Bool}
theorem cells_at {a : Addr} {n : Nat} {cs : List Value} (hn : 0 < n) (h : w.cells? base a n = some cs) : a.spot = none ∧ ∃ rc el fr, w.heap[a.block]? = some (.cells rc el fr) ∧ (rc.toList.drop a.off).take n = cs ∧ a.off + n ≤ rc.size := by
  unfold World.cells? at h
  split at h
  · have hlen := mapM_some_length h
    rw [List.length_range] at hlen
    have hget : ∀ i, i < n → w.cell? (a.add i) = cs[i]? := fun i hi => mapM_some_get h i i (by rw [List.getElem?_range hi])
    have h0 := hget 0 hn
    have e0 : a.add 0 = a := by simp [Addr.add]
    rw [e0, List.getElem?_eq_getElem (by omega)] at h0
    unfold World.cell? at h0
    split at h0
    · rename_i rc el fr hb
      split at h0
      · cases h0
      · rename_i hsp
        have hsn : a.spot = none := by simpa using hsp
        have hcell : ∀ i, i < n → rc[a.off + i]? = cs[i]? := fun i hi => by
          have := hget i hi
          have e : a.add i = ⟨a.block, a.off + i, none⟩ := by
            unfold Addr.add
            split
            · rename_i hz; subst hz; cases a; simp at hsn ⊢; exact hsn
            · rfl
          rw [e] at this
          simpa [World.cell?, hb] using this
        have hsize : a.off + n ≤ rc.size := by
          have := hcell (n - 1) (by omega)
          rw [List.getElem?_eq_getElem (by omega)] at this
          have := (Array.getElem?_eq_some_iff.1 this).1
          omega
        refine ⟨hsn, rc, el, fr, hb, ?_, hsize⟩
        apply List.ext_getElem?
        intro i
        rw [List.getElem?_take]
        split
        · rename_i hi
          rw [List.getElem?_drop, Array.getElem?_toList]
          exact hcell i hi
        · rw [List.getElem?_eq_none (by omega)]
    · cases h0
  · cases h
theorem trod_reads {ok : Bool → Nat → Prop} (hok : ∀ own b, ok own b) : ∀ (n : Nat) (t : TypeId) (cs : List Value) (y : DataW H × List MemPlace), DataW.trod enc P w base sp hd n t cs = some y → ∀ d : Kd, TyK P d t → ∃ x : d.T, Reads ok (fun b => w.heap[b]?) d x cs := by
  intro n
  induction n with
  | zero => intro t cs y h; simp [DataW.trod] at h
  | succ n ih =>
    intro t cs y h d hd'
    have fields : ∀ (d : Kd) (fs : List Field) (off : Nat) (xs : List (DataW H × List MemPlace)), TyK.FK P d fs off → cs.length = off + d.sz → (fs.mapM fun f => DataW.trod enc P w base sp hd n f.type ((cs.drop f.offset).take (P.cellsOf f.type))) = some xs → ∃ x : d.T, Reads ok (fun b => w.heap[b]?) d x (cs.drop off) := by
      intro d
      induction d with
      | pair a b iha ihb =>
        intro fs off xs hf hl hm
        cases fs with
        | nil => exact hf.elim
        | cons f fs =>
          obtain ⟨f1, f2, f3, f4⟩ := hf
          have h0 := mapM_some_get hm 0 f rfl
          have hm' : ∃ xs', (fs.mapM fun f => DataW.trod enc P w base sp hd n f.type ((cs.drop f.offset).take (P.cellsOf f.type))) = some xs' := by
            rw [List.mapM_cons] at hm
            cases h1 : DataW.trod enc P w base sp hd n f.type ((cs.drop f.offset).take (P.cellsOf f.type)) with
            | none => rw [h1] at hm; cases hm
            | some z =>
              rw [h1] at hm
              cases h2 : (fs.mapM fun f => DataW.trod enc P w base sp hd n f.type ((cs.drop f.offset).take (P.cellsOf f.type))) with
              | none => rw [h2] at hm; cases hm
              | some z' => exact ⟨z', rfl⟩
          obtain ⟨xs', hm'⟩ := hm'
          have hz : ∃ z, DataW.trod enc P w base sp hd n f.type ((cs.drop f.offset).take (P.cellsOf f.type)) = some z := by
            cases xs with
            | nil => have := mapM_some_length hm; simp at this
            | cons z zs => exact ⟨z, h0⟩
          obtain ⟨z, hz⟩ := hz
          obtain ⟨x1, hx1⟩ := ih _ _ _ hz a f2
          simp only [Kd.sz] at hl
          obtain ⟨x2, hx2⟩ := ihb fs (off + a.sz) xs' f4 (by omega) hm'
          refine ⟨(x1, x2), _, _, ?_, hx1, hx2⟩
          rw [f1, f3, ← List.drop_drop, List.take_append_drop]
      | unit =>
        intro fs off xs hf hl hm
        refine ⟨(), ?_⟩
        show cs.drop off = []
        rw [List.drop_eq_nil_of_le]
        simp only [Kd.sz] at hl
        omega
      | _ => intro fs off xs hf; cases fs <;> exact hf.elim
    cases d with
    | int k =>
      have hu : P.underlying t = some (.int k) := hd'
      cases cs with
      | nil => simp [DataW.trod, hu] at h
      | cons v r =>
        cases r with
        | cons => cases v <;> simp [DataW.trod, hu] at h
        | nil =>
          cases v <;> simp [DataW.trod, hu] at h
          rename_i k' m
          obtain ⟨⟨e, hw⟩, _⟩ := h
          subst e
          obtain ⟨x, hx⟩ := int_of_wf hw
          exact ⟨x, by show _ = _; rw [hx]⟩
    | bool =>
      have hu : P.underlying t = some .bool := hd'
      cases cs with
      | nil => simp [DataW.trod, hu] at h
      | cons v r =>
        cases r with
        | cons => cases v <;> simp [DataW.trod, hu] at h
        | nil =>
          cases v <;> simp [DataW.trod, hu] at h
          exact ⟨_, rfl⟩
    | str =>
      have hu : P.underlying t = some .string := hd'
      cases cs with
      | nil => simp [DataW.trod, hu] at h
      | cons v r =>
        cases r with
        | cons => cases v <;> simp [DataW.trod, hu] at h
        | nil =>
          cases v <;> simp [DataW.trod, hu] at h
          rename_i b
          exact ⟨b.data.toList, rfl⟩
    | arr m d =>
      obtain ⟨e, hu, he, hs, ht⟩ := hd'
      have h2 : cs.length = P.cellsOf t ∧ ∃ xs, ((List.range m).mapM fun i => DataW.trod enc P w base sp hd n e ((cs.drop (i * P.cellsOf e)).take (P.cellsOf e))) = some xs := by
        unfold DataW.trod at h
        rw [hu] at h
        simp only at h
        split at h
        · rename_i hl
          cases hx : ((List.range m).mapM fun i => DataW.trod enc P w base sp hd n e ((cs.drop (i * P.cellsOf e)).take (P.cellsOf e))) with
          | none => rw [hx] at h; cases h
          | some xs => exact ⟨hl, xs, rfl⟩
        · cases h
      obtain ⟨hl, xs, hx⟩ := h2
      rw [ht] at hl
      have hlen := mapM_some_length hx
      rw [List.length_range] at hlen
      obtain ⟨l, h1, h2⟩ := RL_mk (R := Reads ok (fun b => w.heap[b]?) d) (k := d.sz) m cs (by omega) (fun i hi => by
        have := mapM_some_get hx i i (by rw [List.getElem?_range hi])
        rw [List.getElem?_eq_getElem (by omega)] at this
        rw [hs] at this
        exact ih _ _ _ this d he)
      refine ⟨l, h1, ?_⟩
      rwa [← hl, List.take_length] at h2
    | st d =>
      obtain ⟨fs, hu, hf, ht⟩ := hd'
      have h2 : cs.length = P.cellsOf t ∧ ∃ xs, (fs.toList.mapM fun f => DataW.trod enc P w base sp hd n f.type ((cs.drop f.offset).take (P.cellsOf f.type))) = some xs := by
        unfold DataW.trod at h
        rw [hu] at h
        simp only at h
        split at h
        · rename_i hl
          cases hx : (fs.toList.mapM fun f => DataW.trod enc P w base sp hd n f.type ((cs.drop f.offset).take (P.cellsOf f.type))) with
          | none => rw [hx] at h; cases h
          | some xs => exact ⟨hl, xs, rfl⟩
        · cases h
      obtain ⟨hl, xs, hx⟩ := h2
      obtain ⟨x, hx⟩ := fields d fs.toList 0 xs hf (by rw [hl, ht]; omega) hx
      rw [List.drop_zero] at hx
      exact ⟨x, hx⟩
    | slice own d =>
      cases own with
      | false => exact hd'.elim
      | true =>
      obtain ⟨e, hu, he, hs, hpos⟩ := hd'
      cases cs with
      | nil => simp [DataW.trod, hu] at h
      | cons v r =>
        cases r with
        | cons => cases v <;> simp [DataW.trod, hu] at h
        | nil =>
          cases v with
          | slice A len cap =>
            cases A with
            | none =>
              unfold DataW.trod at h
              rw [hu] at h
              cases len <;> cases cap <;> simp at h
              exact ⟨([] : List d.T), none, 0, rfl, Nat.le_refl _, .inl rfl⟩
            | some a =>
              unfold DataW.trod at h
              rw [hu] at h
              simp only at h
              split at h
              · rename_i hc
                cases hx : ((List.range len).mapM fun i => (w.cells? base (a.add (i * P.cellsOf e)) (P.cellsOf e)).bind (DataW.trod enc P w base sp hd n e)) with
                | none => rw [hx] at h; cases h
                | some xs =>
                  have hlen := mapM_some_length hx
                  rw [List.length_range] at hlen
                  rcases Nat.eq_zero_or_pos len with h0 | h0
                  · subst h0
                    exact ⟨([] : List d.T), some a, cap, rfl, hc.2.1, .inl rfl⟩
                  · have hel : ∀ i, i < len → ∃ ci x, w.cells? base (a.add (i * d.sz)) d.sz = some ci ∧ Reads ok (fun b => w.heap[b]?) d x ci := fun i hi => by
                      have := mapM_some_get hx i i (by rw [List.getElem?_range hi])
                      rw [List.getElem?_eq_getElem (by omega), hs] at this
                      cases hci : w.cells? base (a.add (i * d.sz)) d.sz with
                      | none => rw [hci] at this; cases this
                      | some ci =>
                        rw [hci] at this
                        obtain ⟨x, hx⟩ := ih _ _ _ this d he
                        exact ⟨ci, x, rfl, hx⟩
                    obtain ⟨c0, x0, hc0, _⟩ := hel 0 h0
                    rw [Nat.zero_mul, show a.add 0 = a by simp [Addr.add]] at hc0
                    obtain ⟨hsp, rc, el, fr, hb, _, _⟩ := cells_at hpos hc0
                    have hadd : ∀ q, a.add q = ⟨a.block, a.off + q, none⟩ := fun q => by
                      unfold Addr.add
                      split
                      · rename_i hz; subst hz; cases a; simp at hsp ⊢; exact hsp
                      · rfl
                    have hpart : ∀ i, i < len → ∃ x, Reads ok (fun b => w.heap[b]?) d x ((rc.toList.drop (a.off + i * d.sz)).take d.sz) ∧ a.off + i * d.sz + d.sz ≤ rc.size := fun i hi => by
                      obtain ⟨ci, x, h1, h2⟩ := hel i hi
                      rw [hadd] at h1
                      obtain ⟨_, rc', el', fr', hb', h3, h4⟩ := cells_at hpos h1
                      simp only at hb' h3 h4
                      rw [hb] at hb'
                      injection hb' with hb'
                      injection hb' with hb' _ _
                      subst hb'
                      exact ⟨x, by rw [h3]; exact h2, h4⟩
                    have hsize : len * d.sz ≤ (rc.toList.drop a.off).length := by
                      obtain ⟨_, _, h4⟩ := hpart (len - 1) (by omega)
                      have : len * d.sz = (len - 1) * d.sz + d.sz := by
                        conv => lhs; rw [show len = (len - 1) + 1 by omega, Nat.add_mul, Nat.one_mul]
                      rw [List.length_drop, Array.length_toList]; omega
                    obtain ⟨l, h1, h2⟩ := RL_mk (R := Reads ok (fun b => w.heap[b]?) d) (k := d.sz) len (rc.toList.drop a.off) hsize (fun i hi => by
                      obtain ⟨x, hx, _⟩ := hpart i hi
                      exact ⟨x, by rw [List.drop_drop]; exact hx⟩)
                    refine ⟨l, some a, cap, by rw [h1], by rw [h1]; exact hc.2.1, .inr ⟨a.block, a.off, rc, el, fr, _, ?_, hok _ _, hb, h2, ?_⟩⟩
                    · cases a; simp at hsp ⊢; exact hsp
                    · rw [List.length_take, Nat.min_eq_left hsize]
              · cases h
          | _ => simp [DataW.trod, hu] at h
    | pair a b => exact hd'.elim
    | unit => exact hd'.elim
end
end Go.Vc

namespace Go.Vc
open Go.ChangeShapes Go.WideShapes Go.ChangeAt Go.RowKit
section
variable {H : Type} {enc : TypeId × Value → H} {P : Program} {W : World}
theorem arg_RV {d : Kd} {t : TypeId} (hd : TyK P d t) {base b0 : Nat} {sp : Nat → Bool} {held : Bool} {v : Value} {D : DataW H} {ps : List MemPlace} (hv : Value.okWide P W .any base t v) (h : DataW.Trod enc P W b0 sp held t v D ps) {c : Ctx} (hok : ∀ own b, c.ok own b) (hhp : c.hp = fun b => W.heap[b]?) :
    ∃ x : d.T, RV c (.ofKd d x) v := by
  obtain ⟨n, hn⟩ := h
  obtain ⟨x, hx⟩ := trod_reads hok n t _ _ hn d hd
  rw [← hhp] at hx
  refine ⟨x, ?_⟩
  cases hag : d.isAgg with
  | true =>
    have hagg : ∃ cs, v = .agg cs := by
      cases d with
      | arr m d => obtain ⟨e, hu, _⟩ := hd; simp only [Value.okWide, hu] at hv; obtain ⟨cs, h1, _⟩ := hv; exact ⟨cs, h1⟩
      | st d => obtain ⟨e, hu, _⟩ := hd; simp only [Value.okWide, hu] at hv; obtain ⟨cs, h1, _⟩ := hv; exact ⟨cs, h1⟩
      | pair => exact hd.elim
      | unit => exact hd.elim
      | _ => cases hag
    obtain ⟨cs, rfl⟩ := hagg
    exact .agg _ _ (by rw [ofKd_isAgg, hag]) (RC.ofKd hx)
  | false =>
    have hone : ∀ cs, v ≠ .agg cs := by
      intro cs e
      subst e
      cases d with
      | int k => have hu : P.underlying t = some (.int k) := hd; simp [Value.okWide, hu, Cell.okWide, Cell.ok] at hv
      | bool => have hu : P.underlying t = some .bool := hd; simp [Value.okWide, hu, Cell.okWide, Cell.ok] at hv
      | str => have hu : P.underlying t = some .string := hd; simp [Value.okWide, hu, Cell.okWide, Cell.ok] at hv
      | slice own d =>
        cases own with
        | false => exact hd.elim
        | true => obtain ⟨e, hu, _⟩ := hd; simp [Value.okWide, hu, Cell.okWide, Cell.ok] at hv
      | _ => cases hag
    have hc : v.cells.toList = [v] := by
      cases v <;> first | rfl | exact absurd rfl (hone _)
    rw [hc] at hx
    exact .one _ _ (by rw [ofKd_isAgg, hag]) (RC.ofKd hx)
def env0 (W : World) : Env where
  F := fun _ => False
  w0 := W
  T := fun _ => False
  ρ0 := fun _ => none
  pin := fun _ => False
  glob := fun _ => none
  hF := fun _ h => h.elim
def S0 : AS := ⟨[none], []⟩
def ctx0 (W : World) : Ctx := ctx (env0 W) (fun _ => none) S0.blk W
theorem S0_blk (id : Nat) : S0.blk id = .unborn := by simp [AS.blk, S0]
theorem ctx0_ok (W : World) : ∀ own b, (ctx0 W).ok own b := fun own b => by
  refine ⟨fun id bl o h => ?_, fun _ h => h⟩
  have h' : S0.blk id = .live bl := h
  rw [S0_blk] at h'
  cases h'
theorem rel0 (W : World) : Rel (env0 W) (fun _ => none) S0 ⟨#[undef], []⟩ W := by
  refine ⟨rfl, rfl, fun i v hv => ?_, fun id b h => ?_, fun id id' b b' g o o' h => ?_, fun id b g o h => ?_, Kept.refl _ _, fun id h => h.elim, fun g pd h => by cases h⟩
  · cases i with
    | zero => simp [S0] at hv
    | succ i => simp [S0] at hv
  · rw [S0_blk] at h; cases h
  · rw [S0_blk] at h; cases h
  · rw [S0_blk] at h; cases h
theorem law_calls {f : FuncId} {sum : List AV → Nat → HP Res} (hF : FSumOK P (fun _ => none) f sum) {avs : List AV} {V : List Value} (hV : RVs (ctx0 W) avs V) {r : Res} {l : List Nat}
    (hrun : (sum avs 0).run S0.blk = some (r, l)) (hob : ∀ q ∈ r.obs, q) (hv : r.v = some (.bool true)) : Calls P f V.toArray W fun e W' => e = .returned (.bool true) ∧ Below W.heap.size W W' := by
  have := hF.calls S0 avs 0 r l hrun hob (fun j _ => S0_blk _) (env0 W) (fun _ => none) ⟨#[undef], []⟩ W rfl (fun k _ h => h) (rel0 W) V hV
  refine this.mono fun e W' ⟨v, ρ', he, hrel⟩ => ?_
  have hR := hrel (some 0)
  have ht : (S0.app (some 0) r).tmps[0]? = some (some (.bool true)) := by
    have h1 := app_tmp S0 (some 0) r 0
    rw [if_pos ⟨rfl, by simp [S0]⟩, hv] at h1
    have h2 : 0 < (S0.app (some 0) r).tmps.length := by rw [app_len]; simp [S0]
    rw [List.getD_eq_getElem?_getD, List.getElem?_eq_getElem h2] at h1
    rw [List.getElem?_eq_getElem h2]
    simpa using h1
  obtain ⟨X, h1, h2⟩ := hR.tm 0 _ ht
  have hX : X = v := by simpa [Act.put] using h1.symm
  have hb := h2.bool_inv
  rw [hX] at hb
  refine ⟨by rw [he, hb], hR.fr.os, hR.fr.tape, hR.fr.output, hR.fr.size, fun k hk => hR.fr.block k hk (fun h => h)⟩
end
end Go.Vc

namespace Go.Vc
theorem Obs.app : ∀ {l m : List Prop}, Obs l → Obs m → Obs (l ++ m)
  | [], _, _, h => h
  | _ :: l, _, h, k => ⟨h.1, Obs.app (l := l) h.2 k⟩
def RunT (C : Cfg2) (ops : Array Oper) (l : List Oper) (S : AS) (K : AS → Prop) : Prop := ∃ S' obs, runOps C ops l S = some (S', obs) ∧ Obs obs ∧ K S'
def RunD (C : Cfg2) (ops : Array Oper) (l : List Oper) (S : AS) (K : AS → List FP → Prop) : Prop := ∃ S' obs fps, runRc C ops l S = some (S', obs, fps) ∧ Obs obs ∧ K S' fps
section
variable {P : Program} {C : Cfg2} {ops : Array Oper} {o : Oper} {rest : List Oper} {S S1 : AS} {r : Res} {rd : List Nat}
theorem wantedA_none (h : o.guard = none) : wantedA ops S o = some true := by simp only [wantedA, h]
theorem RunT.nil {K : AS → Prop} (h : K S) : RunT C ops [] S K := ⟨S, [], rfl, trivial, h⟩
theorem RunT.one {K : AS → Prop} (hw : wantedA ops S o = some true) (hp : (opProg C (S.ev C.G) S.heap.length o).run S.blk = some (r, rd)) (hS : S.app o.dst r = S1) (ho : Obs r.obs)
    (h : RunT C ops rest S1 K) : RunT C ops (o :: rest) S K := by
  obtain ⟨S', obs, h1, h2, h3⟩ := h
  refine ⟨S', r.obs ++ obs, ?_, ho.app h2, h3⟩
  simp only [runOps, hw, hp, hS, h1]
theorem RunT.not {K : AS → Prop} (hw : wantedA ops S o = some false) (hS : S.put o.dst (some (.tuple [])) = S1)
    (h : RunT C ops rest S1 K) : RunT C ops (o :: rest) S K := by
  obtain ⟨S', obs, h1, h2, h3⟩ := h
  refine ⟨S', obs, ?_, h2, h3⟩
  simp only [runOps, hw, hS, h1]
theorem RunD.nil {K : AS → List FP → Prop} (h : K S []) : RunD C ops [] S K := ⟨S, [], [], rfl, trivial, h⟩
theorem RunD.one {K : AS → List FP → Prop} (hw : wantedA ops S o = some true) (hp : (opProg C (S.ev C.G) S.heap.length o).run S.blk = some (r, rd)) (hS : S.app o.dst r = S1) (ho : Obs r.obs)
    (h : RunD C ops rest S1 (fun S' fps => K S' (Rc.fp ops ⟨o, S, r, S.heap.length, rd⟩ :: fps))) : RunD C ops (o :: rest) S K := by
  obtain ⟨S', obs, fps, h1, h2, h3⟩ := h
  refine ⟨S', r.obs ++ obs, _, ?_, ho.app h2, h3⟩
  simp only [runRc, hw, hp, hS, h1]
theorem RunD.not {K : AS → List FP → Prop} (hw : wantedA ops S o = some false) (hS : S.put o.dst (some (.tuple [])) = S1)
    (h : RunD C ops rest S1 (fun S' fps => K S' (Rc.fp ops ⟨o, S, { v := some (.tuple []) }, S.heap.length, []⟩ :: fps))) : RunD C ops (o :: rest) S K := by
  obtain ⟨S', obs, fps, h1, h2, h3⟩ := h
  refine ⟨S', obs, _, ?_, h2, h3⟩
  simp only [runRc, hw, hS, h1]
theorem Tri.at {c : Code} {Q : Exit → AS → Prop} (hS : S = S1) (h : Tri P C S1 c Q) : Tri P C S c Q := hS ▸ h
theorem Tri.regT (hC : CfgOK P C) {id : Nat} {l : List Oper} {K : AS → Prop} {Q : Exit → AS → Prop} (h : RunT C l.toArray l S K) : Tri P C S (.region id l.toArray false) (Then K Q) := by
  obtain ⟨S', obs, h1, h2, h3⟩ := h
  exact Tri.reg hC h1 h2 h3
theorem Tri.rgnT (hC : CfgOK P C) {id : Nat} {l : List Oper} {Q : Exit → AS → Prop} (h : RunT C l.toArray l S (Q .normal)) : Tri P C S (.region id l.toArray false) Q := by
  obtain ⟨S', obs, h1, h2, h3⟩ := h
  exact Tri.rgn hC h1 h2 h3
theorem Tri.drwT (hm : P.follows .mixedOrders = true) (hC : CfgOK P C) {id : Nat} {l : List Oper} {K : AS → Prop} {Q : Exit → AS → Prop} (h : RunD C l.toArray l S (fun S' fps => drawOK l fps = true ∧ K S')) : Tri P C S (.region id l.toArray true) (Then K Q) := by
  obtain ⟨S', obs, fps, h1, h2, h3, h4⟩ := h
  exact Tri.drw hm hC h1 h2 h3 h4
theorem Tri.drnT (hm : P.follows .mixedOrders = true) (hC : CfgOK P C) {id : Nat} {l : List Oper} {Q : Exit → AS → Prop} (h : RunD C l.toArray l S (fun S' fps => drawOK l fps = true ∧ Q .normal S')) : Tri P C S (.region id l.toArray true) Q := by
  obtain ⟨S', obs, fps, h1, h2, h3, h4⟩ := h
  exact Tri.drn hm hC h1 h2 h3 h4
end
attribute [irreducible] RunT RunD
end Go.Vc

namespace Go.Vc
theorem xor64 (a b : Nat) (ha : a < 9223372036854775808) (hb : b < 9223372036854775808) : xorT .i64 (a : Int) (b : Int) = ((a ^^^ b : Nat) : Int) := by
  show bits .xor .i64 (a : Int) (b : Int) = _
  rw [bits_ofNat]
  have h : (BitVec.ofNat IntKind.i64.bits a ^^^ BitVec.ofNat IntKind.i64.bits b).toNat = a ^^^ b := by
    show (BitVec.ofNat 64 a ^^^ BitVec.ofNat 64 b).toNat = _
    rw [BitVec.toNat_xor, BitVec.toNat_ofNat, BitVec.toNat_ofNat, Nat.mod_eq_of_lt (by omega), Nat.mod_eq_of_lt (by omega)]
  show IntKind.i64.wrap ((BitVec.ofNat IntKind.i64.bits a ^^^ BitVec.ofNat IntKind.i64.bits b).toNat : Int) = _
  rw [h]
  have := Nat.xor_lt_two_pow (n := 63) (x := a) (y := b) ha hb
  exact wrapN _ (by omega)
theorem and64 (a b : Nat) (ha : a < 9223372036854775808) (hb : b < 9223372036854775808) : andT .i64 (a : Int) (b : Int) = ((a &&& b : Nat) : Int) := by
  show bits .and .i64 (a : Int) (b : Int) = _
  rw [bits_ofNat]
  have h : (BitVec.ofNat IntKind.i64.bits a &&& BitVec.ofNat IntKind.i64.bits b).toNat = a &&& b := by
    show (BitVec.ofNat 64 a &&& BitVec.ofNat 64 b).toNat = _
    rw [BitVec.toNat_and, BitVec.toNat_ofNat, BitVec.toNat_ofNat, Nat.mod_eq_of_lt (by omega), Nat.mod_eq_of_lt (by omega)]
  show IntKind.i64.wrap ((BitVec.ofNat IntKind.i64.bits a &&& BitVec.ofNat IntKind.i64.bits b).toNat : Int) = _
  rw [h]
  have : a &&& b ≤ a := Nat.and_le_left
  exact wrapN _ (by omega)
theorem or64 (a b : Nat) (ha : a < 9223372036854775808) (hb : b < 9223372036854775808) : orT .i64 (a : Int) (b : Int) = ((a ||| b : Nat) : Int) := by
  show bits .or .i64 (a : Int) (b : Int) = _
  rw [bits_ofNat]
  have h : (BitVec.ofNat IntKind.i64.bits a ||| BitVec.ofNat IntKind.i64.bits b).toNat = a ||| b := by
    show (BitVec.ofNat 64 a ||| BitVec.ofNat 64 b).toNat = _
    rw [BitVec.toNat_or, BitVec.toNat_ofNat, BitVec.toNat_ofNat, Nat.mod_eq_of_lt (by omega), Nat.mod_eq_of_lt (by omega)]
  show IntKind.i64.wrap ((BitVec.ofNat IntKind.i64.bits a ||| BitVec.ofNat IntKind.i64.bits b).toNat : Int) = _
  rw [h]
  have := Nat.or_lt_two_pow (n := 63) (x := a) (y := b) ha hb
  exact wrapN _ (by omega)
theorem xor64r (a b : Nat) (ha : a < 9223372036854775808) (hb : b < 9223372036854775808) : xorT .i64 (a : Int) (no_index (OfNat.ofNat b)) = ((a ^^^ (OfNat.ofNat b : Nat) : Nat) : Int) := xor64 a b ha hb
theorem and64r (a b : Nat) (ha : a < 9223372036854775808) (hb : b < 9223372036854775808) : andT .i64 (a : Int) (no_index (OfNat.ofNat b)) = ((a &&& (OfNat.ofNat b : Nat) : Nat) : Int) := and64 a b ha hb
theorem shr64 (a n : Nat) (h : n < 64) : shrT .i64 (a : Int) n = ((a / 2 ^ n : Nat) : Int) := by
  show Int.fdiv (a : Int) (2 ^ min n 64) = _
  rw [show min n 64 = n by omega]
  have : ((2 : Int) ^ n) = ((2 ^ n : Nat) : Int) := by simp
  rw [this, Int.fdiv_eq_ediv_of_nonneg _ (Int.natCast_nonneg _)]
  rfl
theorem shr64l (a n : Nat) (h : n < 64) : shrT .i64 (no_index (OfNat.ofNat a)) n = (((OfNat.ofNat a : Nat) / 2 ^ n : Nat) : Int) := shr64 a n h
theorem shl64 (a n : Nat) (h : n < 64) (hb : a * 2 ^ n ≤ 9223372036854775807) : shlT .i64 (a : Int) n = ((a * 2 ^ n : Nat) : Int) := by
  show IntKind.i64.wrap (Int.mul (a : Int) (2 ^ min n 64)) = _
  rw [show min n 64 = n by omega]
  have : ((2 : Int) ^ n) = ((2 ^ n : Nat) : Int) := by simp
  rw [this]
  exact wrapN _ hb
theorem u64nat (n : Nat) (h : n < 18446744073709551616) : (UInt64.ofInt (n : Int)).toNat = n := by
  show (UInt64.ofNat _).toNat = n
  have : ((n : Int) % (2 ^ 64 : Nat)).toNat = n := by omega
  simp [this]
  omega
end Go.Vc

namespace Go.Vc
structure SV (α : Type) where
  N : Nat
  i : Nat
  len : Nat
  xs : List α
inductive FK where
  | f (d : Kd) | s (d : Kd)
@[reducible] def FK.T : FK → Type | .f d => d.T | .s d => SV d.T
@[reducible] def FT : List FK → Type
  | [] => Unit
  | k :: r => k.T × FT r
def FK.cnt : List FK → Nat
  | [] => 0 | .f _ :: r => cnt r | .s _ :: r => cnt r + 1
def rdT (d : Kd) : AV → HP (SV d.T × Nat × List Prop)
  | .tsl id [] i off sz len => .get id fun b => match b with
    | .pure (.arr N d') xs => match castK (.arr 0 d) (.arr 0 d') xs with
      | some ys => if sz = d.sz then .ret (⟨N, i, len, ys⟩, id, [off = i * d.sz]) else .fail
      | none => .fail
    | _ => .fail
  | _ => .fail
def rdF : (fs : List FK) → List AV → HP (FT fs × List Nat × List Prop)
  | [], [] => .ret ((), [], [])
  | .f d :: r, v :: vs => match d.of v with
    | some x => (rdF r vs).bind fun q => .ret ((x, q.1), q.2.1, q.2.2)
    | none => .fail
  | .s d :: r, v :: vs => (rdT d v).bind fun p => (rdF r vs).bind fun q => .ret ((p.1, q.1), p.2.1 :: q.2.1, p.2.2 ++ q.2.2)
  | _, _ => .fail
def fldF : (fs : List FK) → Nat → FT fs → List AV
  | [], _, _ => []
  | .f d :: r, j, x => .ofKd d x.1 :: fldF r j x.2
  | .s d :: r, j, x => .tsl j [] x.1.i (x.1.i * d.sz) d.sz x.1.len :: fldF r (j + 1) x.2
def blkF : (fs : List FK) → FT fs → List AV
  | [], _ => []
  | .f _ :: r, x => blkF r x.2
  | .s d :: r, x => .pure (.arr x.1.N d) x.1.xs :: blkF r x.2
theorem rdT_sound {mem : Nat → Slot} {σ : Nat → Nat} {m j : Nat} {d : Kd} {v : AV} {x : SV d.T} {id : Nat} {obs : List Prop} {l : List Nat} (h : (rdT d v).run mem = some ((x, id, obs), l)) (ho : ∀ q ∈ obs, q) (hσ : σ j = id) (hj : j < m) :
    (∃ b, mem id = .live b ∧ b = .pure (.arr x.N d) x.xs) ∧ (AV.tsl j [] x.i (x.i * d.sz) d.sz x.len).tr (sub σ) = v := by
  unfold rdT at h
  split at h
  · rename_i id0 i off sz len
    obtain ⟨b, l', h1, h2, h3⟩ := HP.run_get h
    split at h2
    · rename_i N d' xs
      split at h2
      · rename_i ys hy
        split at h2
        · rename_i hsz
          have := HP.run_ret h2
          injection this with e1 e
          injection e with e2 e3
          subst e1 e2 e3
          obtain ⟨e, hy'⟩ := castK_arr hy
          subst e
          simp only at hy'
          subst hy'
          have hoff := ho _ (List.mem_singleton.2 rfl)
          refine ⟨⟨_, h1, rfl⟩, ?_⟩
          subst hσ
          simp only [AV.tr, sub]
          rw [hoff, hsz]
        · cases h2
      · cases h2
    · cases h2
  · cases h
theorem CoB.self {σ : Nat → Nat} {m : Nat} {d : Kd} {x : d.T} : CoB σ m (.pure d x) (.pure d x) :=
  ⟨fun c c' hd cs hc => RC.dn hd (v := .pure d x) hc (fun i hi => by cases hi), fun h => h, fun l e => by cases e⟩
theorem rdF_sound {mem : Nat → Slot} {σ : Nat → Nat} {m : Nat} : ∀ {fs : List FK} {vs : List AV} {x : FT fs} {ids : List Nat} {obs : List Prop} {l : List Nat} {j0 : Nat},
    (rdF fs vs).run mem = some ((x, ids, obs), l) → (∀ q ∈ obs, q) → (∀ j, j < ids.length → σ (j0 + j) = ids.getD j 0) → j0 + ids.length ≤ m →
    ids.length = FK.cnt fs ∧ (blkF fs x).length = FK.cnt fs ∧ (∀ j, j < FK.cnt fs → ∃ b b', mem (σ (j0 + j)) = .live b ∧ (blkF fs x)[j]? = some b' ∧ CoB σ m b b') ∧
      (∀ c c', Ctx.Dn σ m c c' → ∀ cs, RCs c vs cs → RCs c' (fldF fs j0 x) cs)
  | [], [], x, ids, obs, l, j0, h, ho, hσ, hm => by
    have := HP.run_ret h
    injection this with _ e
    injection e with e _
    subst e
    exact ⟨rfl, rfl, fun j hj => by simp [FK.cnt] at hj, fun c c' hd cs hc => by cases hc; exact .nil⟩
  | .f d :: r, v :: vs, x, ids, obs, l, j0, h, ho, hσ, hm => by
    simp only [rdF] at h
    split at h
    · rename_i y hy
      obtain ⟨⟨qx, qi, qo⟩, l1, l2, h1, h2, h3⟩ := HP.run_bind h
      have := HP.run_ret h2
      injection this with e1 e
      injection e with e2 e3
      simp only at e1 e2 e3
      subst e1 e2 e3
      obtain ⟨k1, k2, k3, k4⟩ := rdF_sound (σ := σ) (m := m) (j0 := j0) h1 ho hσ hm
      refine ⟨k1, k2, k3, fun c c' hd cs hc => ?_⟩
      cases hc with
      | cons _ _ c1 c2 hv hr => exact .cons _ _ _ _ (RC.ofKd ((Kd.of_sound hy hv).mono fun own b h1 _ => ⟨hd.ok own b h1, by rw [hd.hp]⟩)) (k4 c c' hd _ hr)
    · cases h
  | .s d :: r, v :: vs, x, ids, obs, l, j0, h, ho, hσ, hm => by
    simp only [rdF] at h
    obtain ⟨⟨y, id, yo⟩, l1, l2, h1, h2, h3⟩ := HP.run_bind h
    obtain ⟨⟨qx, qi, qo⟩, l3, l4, h4, h5, h6⟩ := HP.run_bind h2
    have := HP.run_ret h5
    injection this with e1 e
    injection e with e2 e3
    simp only at e1 e2 e3
    subst e1 e2 e3
    simp only [List.length_cons] at hσ hm
    have hs0 : σ j0 = id := hσ 0 (by omega)
    obtain ⟨⟨b, hb1, hb2⟩, hv⟩ := rdT_sound (σ := σ) (m := m) (j := j0) h1 (fun q hq => ho q (List.mem_append_left _ hq)) hs0 (by omega)
    obtain ⟨k1, k2, k3, k4⟩ := rdF_sound (σ := σ) (m := m) (j0 := j0 + 1) h4 (fun q hq => ho q (List.mem_append_right _ hq)) (fun j hj => by have := hσ (j + 1) (by omega); rw [show j0 + 1 + j = j0 + (j + 1) by omega, this]; rfl) (by omega)
    refine ⟨by simp [FK.cnt, k1], by simp [FK.cnt, blkF, k2], fun j hj => ?_, fun c c' hd cs hc => ?_⟩
    · cases j with
      | zero => exact ⟨b, _, by rw [Nat.add_zero, hs0]; exact hb1, rfl, by rw [hb2]; exact CoB.self⟩
      | succ j =>
        obtain ⟨b1, b2, k5, k6, k7⟩ := k3 j (by simp [FK.cnt] at hj; exact hj)
        exact ⟨b1, b2, by rw [show j0 + (j + 1) = j0 + 1 + j by omega]; exact k5, by simp only [blkF, List.getElem?_cons_succ]; exact k6, k7⟩
    · cases hc with
      | cons _ _ c1 c2 hv' hr =>
        refine .cons _ _ _ _ (RC.dn hd ?_ (fun i hi => ?_)) (k4 c c' hd _ hr)
        · rw [hv]; exact hv'
        · simp only [AV.refs, List.mem_singleton] at hi; omega
def rdOb (fs : List FK) : AV → HP (FT fs × List Nat × List Nat × List Prop)
  | .ptr id [] 0 => .get id fun b => match b with
    | .agg l => (rdF fs l).bind fun q => .ret (q.1, id :: q.2.1, [], q.2.2)
    | _ => .fail
  | _ => .fail
theorem rdOb_sound {mem : Nat → Slot} {σ : Nat → Nat} {m : Nat} {fs : List FK} {v : AV} {x : FT fs} {ids lent : List Nat} {obs : List Prop} {l : List Nat} {i0 : Nat}
    (h : (rdOb fs v).run mem = some ((x, ids, lent, obs), l)) (ho : ∀ q ∈ obs, q) (hσ : ∀ j, j < ids.length → σ (i0 + j) = ids.getD j 0) (hm : i0 + ids.length ≤ m) :
    ids.length = FK.cnt fs + 1 ∧ (AV.agg (fldF fs (i0 + 1) x) :: blkF fs x).length = FK.cnt fs + 1 ∧
      (∀ j, j < FK.cnt fs + 1 → ∃ b b', mem (σ (i0 + j)) = .live b ∧ (AV.agg (fldF fs (i0 + 1) x) :: blkF fs x)[j]? = some b' ∧ CoB σ m b b') ∧ (AV.ptr i0 [] 0).tr (sub σ) = v ∧ i0 < m := by
  unfold rdOb at h
  split at h <;> try cases h
  rename_i id
  obtain ⟨b, l', h1, h2, h3⟩ := HP.run_get h
  split at h2
  · rename_i lf
    obtain ⟨⟨qx, qi, qo⟩, l1, l2, g1, g2, g3⟩ := HP.run_bind h2
    have := HP.run_ret g2
    injection this with e1 e
    injection e with e2 e
    injection e with e3 e4
    simp only at e1 e2 e3 e4
    subst e1 e2 e3 e4
    simp only [List.length_cons] at hσ hm
    have hs0 : σ i0 = id := hσ 0 (by omega)
    obtain ⟨k1, k2, k3, k4⟩ := rdF_sound (σ := σ) (m := m) (j0 := i0 + 1) g1 ho (fun j hj => by have := hσ (j + 1) (by omega); rw [show i0 + 1 + j = i0 + (j + 1) by omega, this]; rfl) (by omega)
    refine ⟨by simp [k1], by simp [k2], fun j hj => ?_, by simp only [AV.tr, sub]; rw [hs0], by omega⟩
    cases j with
    | zero =>
      refine ⟨.agg lf, _, by rw [Nat.add_zero, hs0]; exact h1, rfl, fun c c' hd cs hc => ?_, fun h => h.elim, fun l e => by cases e⟩
      cases hc with
      | agg _ _ hc => exact .agg _ _ (k4 c c' hd _ hc)
    | succ j =>
      obtain ⟨b1, b2, k5, k6, k7⟩ := k3 j (by omega)
      exact ⟨b1, b2, by rw [show i0 + (j + 1) = i0 + 1 + j by omega]; exact k5, by simp only [List.getElem?_cons_succ]; exact k6, k7⟩
  · cases h2
def rdObk (fs : List FK) (id : Nat) (b : AV) : HP (FT fs × List Nat × List Nat × List Prop) := match b with
  | .agg l => (rdF fs l).bind fun q => .ret (q.1, id :: q.2.1, [], q.2.2)
  | _ => .fail
theorem rdObk_agg (fs : List FK) (id : Nat) (l : List AV) : rdObk fs id (.agg l) = (rdF fs l).bind fun q => .ret (q.1, id :: q.2.1, [], q.2.2) := rfl
def rdObq (fs : List FK) : AV → HP (FT fs × List Nat × List Nat × List Prop)
  | .ptr id [] 0 => .get id fun b => rdObk fs id b
  | _ => .fail
theorem rdObq_eq (fs : List FK) (v : AV) : rdObq fs v = rdOb fs v := by
  unfold rdObq rdOb
  split <;> rfl
inductive QK where
  | f (d : Kd) | s (d : Kd) | p (gs : List FK)
@[reducible] def QK.T : QK → Type | .f d => d.T | .s d => SV d.T | .p gs => FT gs
@[reducible] def QT : List QK → Type
  | [] => Unit
  | k :: r => k.T × QT r
def QK.cnt : List QK → Nat
  | [] => 0 | .f _ :: r => cnt r | .s _ :: r => cnt r + 1 | .p gs :: r => (FK.cnt gs + 1) + cnt r
def rdQ : (qs : List QK) → List AV → HP (QT qs × List Nat × List Prop)
  | [], [] => .ret ((), [], [])
  | .f d :: r, v :: vs => match d.of v with
    | some x => (rdQ r vs).bind fun q => .ret ((x, q.1), q.2.1, q.2.2)
    | none => .fail
  | .s d :: r, v :: vs => (rdT d v).bind fun p => (rdQ r vs).bind fun q => .ret ((p.1, q.1), p.2.1 :: q.2.1, p.2.2 ++ q.2.2)
  | .p gs :: r, v :: vs => (rdObq gs v).bind fun p => (rdQ r vs).bind fun q => .ret ((p.1, q.1), p.2.1 ++ q.2.1, p.2.2.2 ++ q.2.2)
  | _, _ => .fail
def fldQ : (qs : List QK) → Nat → QT qs → List AV
  | [], _, _ => []
  | .f d :: r, j, x => .ofKd d x.1 :: fldQ r j x.2
  | .s d :: r, j, x => .tsl j [] x.1.i (x.1.i * d.sz) d.sz x.1.len :: fldQ r (j + 1) x.2
  | .p gs :: r, j, x => .ptr j [] 0 :: fldQ r (j + (FK.cnt gs + 1)) x.2
def blkQ : (qs : List QK) → Nat → QT qs → List AV
  | [], _, _ => []
  | .f _ :: r, j, x => blkQ r j x.2
  | .s d :: r, j, x => .pure (.arr x.1.N d) x.1.xs :: blkQ r (j + 1) x.2
  | .p gs :: r, j, x => (.agg (fldF gs (j + 1) x.1) :: blkF gs x.1) ++ blkQ r (j + (FK.cnt gs + 1)) x.2
theorem rdQ_sound {mem : Nat → Slot} {σ : Nat → Nat} {m : Nat} : ∀ {qs : List QK} {vs : List AV} {x : QT qs} {ids : List Nat} {obs : List Prop} {l : List Nat} {j0 : Nat},
    (rdQ qs vs).run mem = some ((x, ids, obs), l) → (∀ q ∈ obs, q) → (∀ j, j < ids.length → σ (j0 + j) = ids.getD j 0) → j0 + ids.length ≤ m →
    ids.length = QK.cnt qs ∧ (blkQ qs j0 x).length = QK.cnt qs ∧ (∀ j, j < QK.cnt qs → ∃ b b', mem (σ (j0 + j)) = .live b ∧ (blkQ qs j0 x)[j]? = some b' ∧ CoB σ m b b') ∧
      (∀ c c', Ctx.Dn σ m c c' → ∀ cs, RCs c vs cs → RCs c' (fldQ qs j0 x) cs)
  | [], [], x, ids, obs, l, j0, h, ho, hσ, hm => by
    have := HP.run_ret h
    injection this with _ e
    injection e with e _
    subst e
    exact ⟨rfl, rfl, fun j hj => by simp [QK.cnt] at hj, fun c c' hd cs hc => by cases hc; exact .nil⟩
  | .f d :: r, v :: vs, x, ids, obs, l, j0, h, ho, hσ, hm => by
    simp only [rdQ] at h
    split at h
    · rename_i y hy
      obtain ⟨⟨qx, qi, qo⟩, l1, l2, h1, h2, h3⟩ := HP.run_bind h
      have := HP.run_ret h2
      injection this with e1 e
      injection e with e2 e3
      simp only at e1 e2 e3
      subst e1 e2 e3
      obtain ⟨k1, k2, k3, k4⟩ := rdQ_sound (σ := σ) (m := m) (j0 := j0) h1 ho hσ hm
      refine ⟨k1, k2, k3, fun c c' hd cs hc => ?_⟩
      cases hc with
      | cons _ _ c1 c2 hv hr => exact .cons _ _ _ _ (RC.ofKd ((Kd.of_sound hy hv).mono fun own b h1 _ => ⟨hd.ok own b h1, by rw [hd.hp]⟩)) (k4 c c' hd _ hr)
    · cases h
  | .s d :: r, v :: vs, x, ids, obs, l, j0, h, ho, hσ, hm => by
    simp only [rdQ] at h
    obtain ⟨⟨y, id, yo⟩, l1, l2, h1, h2, h3⟩ := HP.run_bind h
    obtain ⟨⟨qx, qi, qo⟩, l3, l4, h4, h5, h6⟩ := HP.run_bind h2
    have := HP.run_ret h5
    injection this with e1 e
    injection e with e2 e3
    simp only at e1 e2 e3
    subst e1 e2 e3
    simp only [List.length_cons] at hσ hm
    have hs0 : σ j0 = id := hσ 0 (by omega)
    obtain ⟨⟨b, hb1, hb2⟩, hv⟩ := rdT_sound (σ := σ) (m := m) (j := j0) h1 (fun q hq => ho q (List.mem_append_left _ hq)) hs0 (by omega)
    obtain ⟨k1, k2, k3, k4⟩ := rdQ_sound (σ := σ) (m := m) (j0 := j0 + 1) h4 (fun q hq => ho q (List.mem_append_right _ hq)) (fun j hj => by have := hσ (j + 1) (by omega); rw [show j0 + 1 + j = j0 + (j + 1) by omega, this]; rfl) (by omega)
    refine ⟨by simp [QK.cnt, k1], by simp [QK.cnt, blkQ, k2], fun j hj => ?_, fun c c' hd cs hc => ?_⟩
    · cases j with
      | zero => exact ⟨b, _, by rw [Nat.add_zero, hs0]; exact hb1, rfl, by rw [hb2]; exact CoB.self⟩
      | succ j =>
        obtain ⟨b1, b2, k5, k6, k7⟩ := k3 j (by simp [QK.cnt] at hj; exact hj)
        exact ⟨b1, b2, by rw [show j0 + (j + 1) = j0 + 1 + j by omega]; exact k5, by simp only [blkQ, List.getElem?_cons_succ]; exact k6, k7⟩
    · cases hc with
      | cons _ _ c1 c2 hv' hr =>
        refine .cons _ _ _ _ (RC.dn hd ?_ (fun i hi => ?_)) (k4 c c' hd _ hr)
        · rw [hv]; exact hv'
        · simp only [AV.refs, List.mem_singleton] at hi; omega
  | .p gs :: r, v :: vs, x, ids, obs, l, j0, h, ho, hσ, hm => by
    simp only [rdQ] at h
    obtain ⟨⟨y, yi, yl, yo⟩, l1, l2, h1, h2, h3⟩ := HP.run_bind h
    obtain ⟨⟨qx, qi, qo⟩, l3, l4, h4, h5, h6⟩ := HP.run_bind h2
    have := HP.run_ret h5
    injection this with e1 e
    injection e with e2 e3
    simp only at e1 e2 e3
    subst e1 e2 e3
    simp only [List.length_append] at hσ hm
    rw [rdObq_eq] at h1
    obtain ⟨n1, n2, n3, n4, n5⟩ := rdOb_sound (σ := σ) (m := m) (i0 := j0) h1 (fun q hq => ho q (List.mem_append_left _ hq)) (fun j hj => by
      rw [hσ j (by omega)]
      simp only [List.getD_eq_getElem?_getD, List.getElem?_append_left hj]) (by omega)
    obtain ⟨k1, k2, k3, k4⟩ := rdQ_sound (σ := σ) (m := m) (j0 := j0 + (FK.cnt gs + 1)) h4 (fun q hq => ho q (List.mem_append_right _ hq)) (fun j hj => by
      have := hσ (yi.length + j) (by omega)
      rw [show j0 + (FK.cnt gs + 1) + j = j0 + (yi.length + j) by omega, this]
      simp only [List.getD_eq_getElem?_getD]
      rw [List.getElem?_append_right (by omega), Nat.add_sub_cancel_left]) (by omega)
    refine ⟨by simp only [List.length_append, QK.cnt]; omega, by simp only [blkQ, List.length_append, QK.cnt]; omega, fun j hj => ?_, fun c c' hd cs hc => ?_⟩
    · by_cases hlt : j < FK.cnt gs + 1
      · obtain ⟨b, b', m1, m2, m3⟩ := n3 j hlt
        exact ⟨b, b', m1, by simp only [blkQ]; rw [List.getElem?_append_left (by omega)]; exact m2, m3⟩
      · obtain ⟨b, b', m1, m2, m3⟩ := k3 (j - (FK.cnt gs + 1)) (by simp only [QK.cnt] at hj; omega)
        exact ⟨b, b', by rw [show j0 + j = j0 + (FK.cnt gs + 1) + (j - (FK.cnt gs + 1)) by omega]; exact m1, by simp only [blkQ]; rw [List.getElem?_append_right (by omega), n2]; exact m2, m3⟩
    · cases hc with
      | cons _ _ c1 c2 hv' hr =>
        refine .cons _ _ _ _ (RC.dn hd (v := .ptr j0 [] 0) ?_ (fun i hi => ?_)) (k4 c c' hd _ hr)
        · rw [n4]; exact hv'
        · simp only [AV.refs, List.mem_singleton] at hi; omega
def rdQbk (qs : List QK) (id : Nat) (b : AV) : HP (QT qs × List Nat × List Nat × List Prop) := match b with
  | .agg l => (rdQ qs l).bind fun q => .ret (q.1, id :: q.2.1, [], q.2.2)
  | _ => .fail
theorem rdQbk_agg (qs : List QK) (id : Nat) (l : List AV) : rdQbk qs id (.agg l) = (rdQ qs l).bind fun q => .ret (q.1, id :: q.2.1, [], q.2.2) := rfl
def rdQb (qs : List QK) : AV → HP (QT qs × List Nat × List Nat × List Prop)
  | .ptr id [] 0 => .get id fun b => rdQbk qs id b
  | _ => .fail
inductive OK where
  | a (k : AK) | o (fs : List FK) | t (d : Kd)
  | rd (d : Kd)
  | fv (f : FuncId)
  | w (d : Kd)
  | q (qs : List QK)
@[reducible] def OK.T : OK → Type | .a k => k.T | .o fs => FT fs | .t d => SV d.T | .rd d => d.T | .fv _ => Unit | .w d => d.T | .q qs => QT qs
@[reducible] def OT : List OK → Type
  | [] => Unit
  | k :: r => k.T × OT r
def OK.cnt1 : OK → Nat
  | .a k => AK.cnt [k] | .o fs => FK.cnt fs + 1 | .t _ => 1 | .rd _ => 0 | .fv _ => 0 | .w _ => 0 | .q qs => QK.cnt qs + 1
def OK.cnt : List OK → Nat
  | [] => 0 | k :: r => k.cnt1 + cnt r
def rdRk (d : Kd) (id : Nat) (b : AV) : HP (d.T × List Nat × List Nat × List Prop) := match d.of b with | some x => .ret (x, [], [id], []) | none => .fail
def rdR (d : Kd) : AV → HP (d.T × List Nat × List Nat × List Prop)
  | .ptr id [] 0 => .get id fun b => rdRk d id b
  | _ => .fail
theorem rdRk_slice (o : Bool) (d : Kd) (id : Nat) (x : List d.T) : rdRk (.slice false d) id (.pure (.slice o d) x) = .ret (x, [], [id], []) := by
  unfold rdRk
  rw [show (Kd.slice false d).of (.pure (.slice o d) x) = some x from by
    show (if o = true ∨ false = false then castK (.arr 0 d) (.arr 0 d) x else none) = some x
    rw [if_pos (.inr rfl)]
    exact castK_self (.arr 0 d) x]
theorem rdRk_arr (n : Nat) (d : Kd) (id : Nat) (x : List d.T) : rdRk (.arr n d) id (.pure (.arr n d) x) = .ret (x, [], [id], []) := by
  unfold rdRk
  rw [show (Kd.arr n d).of (.pure (.arr n d) x) = some x from castK_self (.arr n d) x]
theorem rdRk_st (d : Kd) (id : Nat) (x : d.T) : rdRk (.st d) id (.pure (.st d) x) = .ret (x, [], [id], []) := by
  unfold rdRk
  rw [Kd.of_st_self d x]
theorem rdRk_agg (d : Kd) (id : Nat) (l : List AV) : rdRk (.st d) id (.agg l) = match Kd.of.ofL d l with | some x => .ret (x, [], [id], []) | none => .fail := by
  unfold rdRk
  rw [show (Kd.st d).of (.agg l) = Kd.of.ofL d l from rfl]
  cases Kd.of.ofL d l <;> rfl
def rdFv (f : FuncId) : AV → HP (Unit × List Nat × List Nat × List Prop)
  | .func (.func f') [] [] => if f' = f then .ret ((), [], [], []) else .fail
  | _ => .fail
def rdWk (d : Kd) (v : AV) : HP (d.T × List Nat × List Prop) := match d.of v with | some x => if v.isAgg = d.isAgg then .ret (x, [], []) else .fail | none => .fail
theorem rdWk_self (d : Kd) (x : d.T) (h : d.of (.ofKd d x) = some x) : rdWk d (.ofKd d x) = .ret (x, [], []) := by
  unfold rdWk
  rw [h]
  simp only [ofKd_isAgg, if_true]
theorem rdWk_int (k : IntKind) (x : IntT k) : rdWk (.int k) (.int k x) = .ret (x, [], []) := rdWk_self (.int k) x (castI_self k x)
theorem rdWk_bool (x : Bool) : rdWk .bool (.bool x) = .ret (x, [], []) := rdWk_self .bool x rfl
theorem rdWk_str (x : List UInt8) : rdWk .str (.str x) = .ret (x, [], []) := rdWk_self .str x rfl
theorem rdWk_arr (n : Nat) (d : Kd) (x : List d.T) : rdWk (.arr n d) (.pure (.arr n d) x) = .ret (x, [], []) := rdWk_self (.arr n d) x (castK_self (.arr n d) x)
theorem rdWk_st (d : Kd) (x : d.T) : rdWk (.st d) (.pure (.st d) x) = .ret (x, [], []) := rdWk_self (.st d) x (Kd.of_st_self d x)
theorem rdWk_slice (o : Bool) (d : Kd) (x : List d.T) : rdWk (.slice o d) (.pure (.slice o d) x) = .ret (x, [], []) := rdWk_self (.slice o d) x (by
  show (if o = true ∨ o = false then castK (.arr 0 d) (.arr 0 d) x else none) = some x
  rw [if_pos (by cases o <;> simp)]
  exact castK_self (.arr 0 d) x)
def rdSL (d : Kd) : List AV → HP (List (List d.T) × List Nat × List Prop)
  | [] => .ret ([], [], [])
  | v :: r => (rdS d v).bind fun p => (rdSL d r).bind fun q => .ret (p.1 :: q.1, p.2.1 ++ q.2.1, p.2.2 ++ q.2.2)
def rdSSk (d : Kd) (id i off sz len : Nat) (b : AV) : HP (List (List d.T) × List Nat × List Prop) :=
  match b with
  | .agg l => if i = 0 ∧ off = 0 ∧ sz = 1 ∧ l.length = len then (rdSL d l).bind fun q => .ret (q.1, id :: q.2.1, q.2.2) else .fail
  | _ => rdS (.slice false d) (.tsl id [] i off sz len)
def rdSS (d : Kd) (v : AV) : HP (List (List d.T) × List Nat × List Prop) :=
  match v with
  | .tsl id [] i off sz len => .get id fun b => rdSSk d id i off sz len b
  | v => rdS (.slice false d) v
mutual
def rdW : (d : Kd) → AV → HP (d.T × List Nat × List Prop)
  | .slice false (.slice false d), v => rdSS d v
  | .slice false d, v => rdS d v
  | .st d, .agg l => rdWL d l
  | d, v => rdWk d v
def rdWL : (d : Kd) → List AV → HP (d.T × List Nat × List Prop)
  | .unit, [] => .ret ((), [], [])
  | .pair a b, v :: vs => (rdW a v).bind fun p => (rdWL b vs).bind fun q => .ret ((p.1, q.1), p.2.1 ++ q.2.1, p.2.2 ++ q.2.2)
  | _, _ => .fail
end
def LendC (mem : Nat → Slot) (σ : Nat → Nat) (m : Nat) (d : Kd) (x : d.T) (P : Ctx → List Value → Prop) : Prop :=
  ∀ (E : Env) (ρ : Nat → Option (Nat × Nat)) (S : AS) (a : Act) (w : World) (c' : Ctx), S.blk = mem → Rel E ρ S a w → Ctx.Dn σ m (ctx E ρ S.blk w) c' → Lend S ρ σ m c' → ∀ cs, P (ctx E ρ S.blk w) cs → Reads c'.ok c'.hp d x cs
theorem rdWk_sound {mem : Nat → Slot} {σ : Nat → Nat} {m : Nat} {d : Kd} {v : AV} {x : d.T} {lent : List Nat} {obs : List Prop} {l : List Nat} (h : (rdWk d v).run mem = some ((x, lent, obs), l)) :
    v.isAgg = d.isAgg ∧ (∀ l, v ≠ .tuple l) ∧ LendC mem σ m d x (fun c cs => RC c v cs) := by
  unfold rdWk at h
  split at h
  · rename_i y hy
    split at h
    · rename_i ha
      have := HP.run_ret h
      injection this with e1 _
      subst e1
      refine ⟨ha, fun l e => by subst e; cases d <;> simp [Kd.of] at hy, fun E ρ S a w c' hm hR hd hl cs hc => ?_⟩
      exact (Kd.of_sound hy hc).mono fun own b h1 _ => ⟨hd.ok own b h1, by rw [hd.hp]⟩
    · cases h
  · cases h
theorem rdS_sound1 {mem : Nat → Slot} {σ : Nat → Nat} {m : Nat} {d : Kd} {v : AV} {x : List d.T} {lent : List Nat} {obs : List Prop} {l : List Nat} (h : (rdS d v).run mem = some ((x, lent, obs), l)) (ho : ∀ q ∈ obs, q) (hlent : ∀ j ∈ lent, ∀ i, i < m → σ i ≠ j) :
    v.isAgg = false ∧ (∀ l, v ≠ .tuple l) ∧ LendC mem σ m (.slice false d) x (fun c cs => RC c v cs) := by
  unfold rdS at h
  obtain ⟨r, l1, l2, h1, h2, h3⟩ := HP.run_bind h
  split at h2
  · rename_i y hy
    have := HP.run_ret h2
    injection this with e1 e
    injection e with e2 e3
    subst e1 e2 e3
    obtain ⟨e, hy'⟩ := castK_arr hy
    subst e
    have hy2 : x = r.xs := hy'
    subst hy2
    have hv : v.isAgg = false ∧ (∀ l, v ≠ .tuple l) := by
      cases v with
      | pure dk z => cases dk <;> first | exact ⟨rfl, fun l e => by cases e⟩ | cases h1
      | nilsl => exact ⟨rfl, fun l e => by cases e⟩
      | tsl => exact ⟨rfl, fun l e => by cases e⟩
      | _ => cases h1
    refine ⟨hv.1, hv.2, fun E ρ S a w c' hm hR hd hl cs hc => ?_⟩
    have hc1 : ∃ X, cs = [X] := by
      have hlen := hc.len
      have hs : v.size = 1 := by
        cases v with
        | pure dk z => cases dk <;> first | rfl | cases h1
        | nilsl => rfl
        | tsl => rfl
        | _ => cases h1
      rw [hs] at hlen
      match cs, hlen with
      | [X], _ => exact ⟨X, rfl⟩
    obtain ⟨X, rfl⟩ := hc1
    have := Coe.slice h1 ho hlent E ρ S a w c' hm hR hd hl X (.one _ _ hv.1 hc)
    cases this with
    | one _ _ _ hc' => exact RC.ofKd_reads (d := .slice false r.d) hc'
    | agg _ _ h0 _ => cases h0
  · cases h2
theorem rdSL_sound {mem : Nat → Slot} {σ : Nat → Nat} {m : Nat} {d : Kd} : ∀ {vs : List AV} {x : List (List d.T)} {lent : List Nat} {obs : List Prop} {l : List Nat}, (rdSL d vs).run mem = some ((x, lent, obs), l) → (∀ q ∈ obs, q) → (∀ j ∈ lent, ∀ i, i < m → σ i ≠ j) →
    x.length = vs.length ∧ ∀ (E : Env) (ρ : Nat → Option (Nat × Nat)) (S : AS) (a : Act) (w : World) (c' : Ctx), S.blk = mem → Rel E ρ S a w → Ctx.Dn σ m (ctx E ρ S.blk w) c' → Lend S ρ σ m c' → ∀ cs, RCs (ctx E ρ S.blk w) vs cs → RL (Reads c'.ok c'.hp (.slice false d)) x cs
  | [], x, lent, obs, l, h, ho, hl => by
    have := HP.run_ret h
    injection this with e1 _
    subst e1
    exact ⟨rfl, fun E ρ S a w c' hm hR hd hl cs hc => by cases hc; rfl⟩
  | v :: vs, x, lent, obs, l, h, ho, hlent => by
    simp only [rdSL] at h
    obtain ⟨⟨y, yl, yo⟩, l1, l2, h1, h2, h3⟩ := HP.run_bind h
    obtain ⟨⟨z, zl, zo⟩, l3, l4, h4, h5, h6⟩ := HP.run_bind h2
    have := HP.run_ret h5
    injection this with e1 e
    injection e with e2 e3
    simp only at e1 e2 e3
    subst e1 e2 e3
    have k1 := (rdS_sound1 (σ := σ) (m := m) h1 (fun q hq => ho q (List.mem_append_left _ hq)) (fun j hj => hlent j (List.mem_append_left _ hj))).2.2
    obtain ⟨k0, k2⟩ := rdSL_sound (σ := σ) (m := m) h4 (fun q hq => ho q (List.mem_append_right _ hq)) (fun j hj => hlent j (List.mem_append_right _ hj))
    refine ⟨by simp [k0], fun E ρ S a w c' hm hR hd hl cs hc => ?_⟩
    cases hc with
    | cons _ _ c1 c2 hv hr => exact ⟨c1, c2, rfl, k1 E ρ S a w c' hm hR hd hl c1 hv, k2 E ρ S a w c' hm hR hd hl c2 hr⟩
theorem rdSS_sound {mem : Nat → Slot} {σ : Nat → Nat} {m : Nat} {d : Kd} {v : AV} {x : List (List d.T)} {lent : List Nat} {obs : List Prop} {l : List Nat} (h : (rdSS d v).run mem = some ((x, lent, obs), l)) (ho : ∀ q ∈ obs, q) (hlent : ∀ j ∈ lent, ∀ i, i < m → σ i ≠ j) :
    v.isAgg = false ∧ (∀ l, v ≠ .tuple l) ∧ LendC mem σ m (.slice false (.slice false d)) x (fun c cs => RC c v cs) := by
  unfold rdSS at h
  split at h
  · rename_i id i off sz len
    obtain ⟨b, l', h1, h2, h3⟩ := HP.run_get h
    by_cases hb : ∃ bl, b = .agg bl
    · obtain ⟨bl, rfl⟩ := hb
      simp only [rdSSk] at h2
      split at h2
      · rename_i hcond
        obtain ⟨rfl, rfl, rfl, hbl⟩ := hcond
        obtain ⟨⟨y, yl, yo⟩, l1, l2, h4, h5, h6⟩ := HP.run_bind h2
        have := HP.run_ret h5
        injection this with e1 e
        injection e with e2 e3
        simp only at e1 e2 e3
        subst e1 e2 e3
        refine ⟨rfl, fun l e => (by cases e), fun E ρ S a w c' hm hR hd hl cs hc => ?_⟩
        obtain ⟨k0, k1⟩ := rdSL_sound (σ := σ) (m := m) h4 ho (fun j hj => hlent j (List.mem_cons_of_mem _ hj))
        have hlen : x.length = len := k0.trans hbl
        have hlive : S.blk id = .live (.agg bl) := by rw [hm]; exact h1
        have hid : ∀ i, i < m → σ i ≠ id := hlent id (List.mem_cons_self ..)
        cases hc with
        | tsl _ _ _ _ _ _ g o cap A hbn hr hle hA rc el fr hh hs =>
          have hRb := hR.hb id _ hlive
          have hr' : ρ id = some (g, o) := hr
          rw [hr'] at hRb
          obtain ⟨rc2, el2, lo, hi, flat, f1, f2, f3, f4, f5⟩ := hRb.cl (fun l e => by cases e)
          cases f3 with
          | agg _ _ hcs =>
            have hRL := k1 E ρ S a w c' hm hR hd hl flat hcs
            refine ⟨A, cap, by rw [hlen], by rw [hlen]; exact hle, ?_⟩
            by_cases hx : x = []
            · exact .inl hx
            · have hpos : 0 < x.length := List.length_pos_iff.2 hx
              refine .inr ⟨g, o, rc2, el2, (lo, hi), flat, ?_, hl id _ g o hlive hid hr', ?_, hRL, f4⟩
              · rw [hA (by omega), Nat.add_zero]
              · rw [hd.hp]; exact f1
        | tslv _ _ _ _ _ _ hbn hr h0 =>
          have : x = [] := List.eq_nil_of_length_eq_zero (by omega)
          exact ⟨none, 0, by rw [this]; rfl, by rw [this]; exact Nat.le_refl _, .inl this⟩
      · cases h2
    · have h4 : (rdS (.slice false d) (.tsl id [] i off sz len)).run mem = some ((x, lent, obs), id :: l') ∨ True := .inr trivial
      have h5 : rdSSk d id i off sz len b = rdS (.slice false d) (.tsl id [] i off sz len) := by
        unfold rdSSk
        split
        · rename_i bl; exact absurd ⟨bl, rfl⟩ hb
        · rfl
      rw [h5] at h2
      exact rdS_sound1 h2 ho hlent
  · exact rdS_sound1 h ho hlent
mutual
theorem rdW_sound {mem : Nat → Slot} {σ : Nat → Nat} {m : Nat} : ∀ {d : Kd} {v : AV} {x : d.T} {lent : List Nat} {obs : List Prop} {l : List Nat}, (rdW d v).run mem = some ((x, lent, obs), l) → (∀ q ∈ obs, q) → (∀ j ∈ lent, ∀ i, i < m → σ i ≠ j) →
    v.isAgg = d.isAgg ∧ (∀ l, v ≠ .tuple l) ∧ LendC mem σ m d x (fun c cs => RC c v cs)
  | .slice false (.slice false d), v, x, lent, obs, l, h, ho, hl => by
    simp only [rdW] at h
    exact rdSS_sound h ho hl
  | .slice false (.slice true d), v, x, lent, obs, l, h, ho, hl => by
    simp only [rdW] at h
    exact rdS_sound1 h ho hl
  | .slice false (.int k), v, x, lent, obs, l, h, ho, hl => by
    simp only [rdW] at h
    exact rdS_sound1 h ho hl
  | .slice false .bool, v, x, lent, obs, l, h, ho, hl => by
    simp only [rdW] at h
    exact rdS_sound1 h ho hl
  | .slice false .str, v, x, lent, obs, l, h, ho, hl => by
    simp only [rdW] at h
    exact rdS_sound1 h ho hl
  | .slice false (.arr n d), v, x, lent, obs, l, h, ho, hl => by
    simp only [rdW] at h
    exact rdS_sound1 h ho hl
  | .slice false (.st d), v, x, lent, obs, l, h, ho, hl => by
    simp only [rdW] at h
    exact rdS_sound1 h ho hl
  | .slice false (.pair a b), v, x, lent, obs, l, h, ho, hl => by
    simp only [rdW] at h
    exact rdS_sound1 h ho hl
  | .slice false .unit, v, x, lent, obs, l, h, ho, hl => by
    simp only [rdW] at h
    exact rdS_sound1 h ho hl
  | .slice true d, v, x, lent, obs, l, h, ho, hl => by
    simp only [rdW] at h
    exact rdWk_sound h
  | .int k, v, x, lent, obs, l, h, ho, hl => by simp only [rdW] at h; exact rdWk_sound h
  | .bool, v, x, lent, obs, l, h, ho, hl => by simp only [rdW] at h; exact rdWk_sound h
  | .str, v, x, lent, obs, l, h, ho, hl => by simp only [rdW] at h; exact rdWk_sound h
  | .arr n d, v, x, lent, obs, l, h, ho, hl => by simp only [rdW] at h; exact rdWk_sound h
  | .pair a b, v, x, lent, obs, l, h, ho, hl => by simp only [rdW] at h; exact rdWk_sound h
  | .unit, v, x, lent, obs, l, h, ho, hl => by simp only [rdW] at h; exact rdWk_sound h
  | .st d, v, x, lent, obs, l, h, ho, hl => by
    cases v with
    | agg lv =>
      simp only [rdW] at h
      have hh := rdWL_sound h ho hl
      refine ⟨rfl, fun l e => (by cases e), fun E ρ S a w c' hm hR hd hl cs hc => ?_⟩
      cases hc with
      | agg _ _ hcs => exact hh E ρ S a w c' hm hR hd hl cs hcs
    | _ => simp only [rdW] at h; exact rdWk_sound (d := .st d) h
theorem rdWL_sound {mem : Nat → Slot} {σ : Nat → Nat} {m : Nat} : ∀ {d : Kd} {vs : List AV} {x : d.T} {lent : List Nat} {obs : List Prop} {l : List Nat}, (rdWL d vs).run mem = some ((x, lent, obs), l) → (∀ q ∈ obs, q) → (∀ j ∈ lent, ∀ i, i < m → σ i ≠ j) →
    LendC mem σ m d x (fun c cs => RCs c vs cs)
  | .unit, [], x, lent, obs, l, h, ho, hl => fun E ρ S a w c' hm hR hd hl cs hc => by cases hc; rfl
  | .pair da db, v :: vs, x, lent, obs, l, h, ho, hlent => by
    simp only [rdWL] at h
    obtain ⟨⟨y, yl, yo⟩, l1, l2, h1, h2, h3⟩ := HP.run_bind h
    obtain ⟨⟨z, zl, zo⟩, l3, l4, h4, h5, h6⟩ := HP.run_bind h2
    have := HP.run_ret h5
    injection this with e1 e
    injection e with e2 e3
    simp only at e1 e2 e3
    subst e1 e2 e3
    have k1 := (rdW_sound (σ := σ) (m := m) h1 (fun q hq => ho q (List.mem_append_left _ hq)) (fun j hj => hlent j (List.mem_append_left _ hj))).2.2
    have k2 := rdWL_sound (σ := σ) (m := m) h4 (fun q hq => ho q (List.mem_append_right _ hq)) (fun j hj => hlent j (List.mem_append_right _ hj))
    intro E ρ S a w c' hm hR hd hl cs hc
    cases hc with
    | cons _ _ c1 c2 hv hr => exact ⟨c1, c2, rfl, k1 E ρ S a w c' hm hR hd hl c1 hv, k2 E ρ S a w c' hm hR hd hl c2 hr⟩
  | .unit, _ :: _, _, _, _, _, h, _, _ => by simp only [rdWL] at h; cases h
  | .pair _ _, [], _, _, _, _, h, _, _ => by simp only [rdWL] at h; cases h
  | .int _, _, _, _, _, _, h, _, _ => by simp only [rdWL] at h; cases h
  | .bool, _, _, _, _, _, h, _, _ => by simp only [rdWL] at h; cases h
  | .str, _, _, _, _, _, h, _, _ => by simp only [rdWL] at h; cases h
  | .arr _ _, _, _, _, _, _, h, _, _ => by simp only [rdWL] at h; cases h
  | .st _, _, _, _, _, _, h, _, _ => by simp only [rdWL] at h; cases h
  | .slice _ _, _, _, _, _, _, h, _, _ => by simp only [rdWL] at h; cases h
end
theorem Coe.lendC {mem : Nat → Slot} {σ : Nat → Nat} {m : Nat} {d : Kd} {v : AV} {x : d.T} (h : v.isAgg = d.isAgg ∧ (∀ l, v ≠ .tuple l) ∧ LendC mem σ m d x (fun c cs => RC c v cs)) : Coe mem σ m v (.ofKd d x) := by
  obtain ⟨h1, h2, h3⟩ := h
  intro E ρ S a w c' hm hR hd hl X hX
  cases hX with
  | one _ _ h0 hc => exact .one _ _ (by rw [ofKd_isAgg, ← h1]; exact h0) (RC.ofKd (h3 E ρ S a w c' hm hR hd hl _ hc))
  | agg _ a0 h0 hc => exact .agg _ _ (by rw [ofKd_isAgg, ← h1]; exact h0) (RC.ofKd (h3 E ρ S a w c' hm hR hd hl _ hc))
  | tuple l y hy => exact absurd rfl (h2 l)
def rdO1 : (k : OK) → AV → HP (k.T × List Nat × List Nat × List Prop)
  | .a k, v => (rdA [k] [v]).bind fun q => .ret (q.1.1, q.2)
  | .o fs, v => rdOb fs v
  | .t d, v => (rdT d v).bind fun q => .ret (q.1, [q.2.1], [], q.2.2)
  | .rd d, v => rdR d v
  | .fv f, v => rdFv f v
  | .w d, v => (rdW d v).bind fun q => .ret (q.1, [], q.2.1, q.2.2)
  | .q qs, v => rdQb qs v
def argO1 : (k : OK) → Nat → k.T → AV
  | .a k, i, x => ((argA [k] i (x, ()))[0]?).getD .dead
  | .o _, i, _ => .ptr i [] 0
  | .t d, i, x => .tsl i [] x.i (x.i * d.sz) d.sz x.len
  | .rd d, _, x => .ept false d x
  | .fv f, _, _ => .func (.func f) [] []
  | .w d, _, x => .ofKd d x
  | .q _, i, _ => .ptr i [] 0
def heapO1 : (k : OK) → Nat → k.T → List AV
  | .a k, _, x => heapA [k] (x, ())
  | .o fs, i, x => .agg (fldF fs (i + 1) x) :: blkF fs x
  | .t d, _, x => [.pure (.arr x.N d) x.xs]
  | .rd _, _, _ => []
  | .fv _, _, _ => []
  | .w _, _, _ => []
  | .q qs, i, x => .agg (fldQ qs (i + 1) x) :: blkQ qs (i + 1) x
def rdO : (ks : List OK) → List AV → HP (OT ks × List Nat × List Nat × List Prop)
  | [], [] => .ret ((), [], [], [])
  | k :: r, v :: vs => (rdO1 k v).bind fun p => (rdO r vs).bind fun q => .ret ((p.1, q.1), p.2.1 ++ q.2.1, p.2.2.1 ++ q.2.2.1, p.2.2.2 ++ q.2.2.2)
  | _, _ => .fail
def argO : (ks : List OK) → Nat → OT ks → List AV
  | [], _, _ => []
  | k :: r, i, x => argO1 k i x.1 :: argO r (i + k.cnt1) x.2
def heapO : (ks : List OK) → Nat → OT ks → List AV
  | [], _, _ => []
  | k :: r, i, x => heapO1 k i x.1 ++ heapO r (i + k.cnt1) x.2
theorem argA_one (k : AK) (i : Nat) (x : k.T) : ∃ v, argA [k] i (x, ()) = [v] := by cases k <;> exact ⟨_, rfl⟩
theorem rdO1_sound {mem : Nat → Slot} {σ : Nat → Nat} {m : Nat} {k : OK} {v : AV} {x : k.T} {ids lent : List Nat} {obs : List Prop} {l : List Nat} {i0 : Nat}
    (h : (rdO1 k v).run mem = some ((x, ids, lent, obs), l)) (ho : ∀ q ∈ obs, q) (hσ : ∀ j, j < ids.length → σ (i0 + j) = ids.getD j 0) (hm : i0 + ids.length ≤ m) (hlent : ∀ j ∈ lent, ∀ i, i < m → σ i ≠ j) :
    ids.length = k.cnt1 ∧ (heapO1 k i0 x).length = k.cnt1 ∧ (∀ j, j < k.cnt1 → ∃ b b', mem (σ (i0 + j)) = .live b ∧ (heapO1 k i0 x)[j]? = some b' ∧ CoB σ m b b') ∧ Coe mem σ m v (argO1 k i0 x) := by
  cases k with
  | a k =>
    simp only [rdO1] at h
    obtain ⟨⟨⟨y, yu⟩, qi, ql, qo⟩, l1, l2, h1, h2, h3⟩ := HP.run_bind h
    have := HP.run_ret h2
    injection this with e1 e
    injection e with e2 e
    injection e with e3 e4
    simp only at e1 e2 e3 e4
    subst e1 e2 e3 e4
    obtain ⟨k1, k2, k3, k4⟩ := rdA_sound (σ := σ) (m := m) (i0 := i0) h1 ho hσ hm hlent
    refine ⟨k1, k2, k3, ?_⟩
    obtain ⟨w, hw⟩ := argA_one k i0 x
    rw [hw] at k4
    have : argO1 (.a k) i0 x = w := by simp [argO1, hw]
    rw [this]
    cases k4 with
    | cons _ _ _ _ h _ => exact h
  | o fs =>
    simp only [rdO1, rdOb] at h
    split at h <;> try cases h
    · rename_i id
      obtain ⟨b, l', h1, h2, h3⟩ := HP.run_get h
      split at h2
      · rename_i lf
        obtain ⟨⟨qx, qi, qo⟩, l1, l2, g1, g2, g3⟩ := HP.run_bind h2
        have := HP.run_ret g2
        injection this with e1 e
        injection e with e2 e
        injection e with e3 e4
        simp only at e1 e2 e3 e4
        subst e1 e2 e3 e4
        simp only [List.length_cons] at hσ hm
        have hs0 : σ i0 = id := hσ 0 (by omega)
        obtain ⟨k1, k2, k3, k4⟩ := rdF_sound (σ := σ) (m := m) (j0 := i0 + 1) g1 ho (fun j hj => by have := hσ (j + 1) (by omega); rw [show i0 + 1 + j = i0 + (j + 1) by omega, this]; rfl) (by omega)
        refine ⟨by simp [OK.cnt1, k1], by simp [OK.cnt1, heapO1, k2], fun j hj => ?_, Coe.ptr hs0 (by omega)⟩
        cases j with
        | zero =>
          refine ⟨.agg lf, _, by rw [Nat.add_zero, hs0]; exact h1, rfl, fun c c' hd cs hc => ?_, fun h => h.elim, fun l e => by cases e⟩
          cases hc with
          | agg _ _ hc => exact .agg _ _ (k4 c c' hd _ hc)
        | succ j =>
          obtain ⟨b1, b2, k5, k6, k7⟩ := k3 j (by simp [OK.cnt1] at hj; exact hj)
          exact ⟨b1, b2, by rw [show i0 + (j + 1) = i0 + 1 + j by omega]; exact k5, by simp only [heapO1, List.getElem?_cons_succ]; exact k6, k7⟩
      · cases h2
  | q qs =>
    simp only [rdO1, rdQb] at h
    split at h <;> try cases h
    · rename_i id
      obtain ⟨b, l', h1, h2, h3⟩ := HP.run_get h
      unfold rdQbk at h2
      split at h2
      · rename_i lf
        obtain ⟨⟨qx, qi, qo⟩, l1, l2, g1, g2, g3⟩ := HP.run_bind h2
        have := HP.run_ret g2
        injection this with e1 e
        injection e with e2 e
        injection e with e3 e4
        simp only at e1 e2 e3 e4
        subst e1 e2 e3 e4
        simp only [List.length_cons] at hσ hm
        have hs0 : σ i0 = id := hσ 0 (by omega)
        obtain ⟨k1, k2, k3, k4⟩ := rdQ_sound (σ := σ) (m := m) (j0 := i0 + 1) g1 ho (fun j hj => by have := hσ (j + 1) (by omega); rw [show i0 + 1 + j = i0 + (j + 1) by omega, this]; rfl) (by omega)
        refine ⟨by simp [OK.cnt1, k1], by simp [OK.cnt1, heapO1, k2], fun j hj => ?_, Coe.ptr hs0 (by omega)⟩
        cases j with
        | zero =>
          refine ⟨.agg lf, _, by rw [Nat.add_zero, hs0]; exact h1, rfl, fun c c' hd cs hc => ?_, fun h => h.elim, fun l e => by cases e⟩
          cases hc with
          | agg _ _ hc => exact .agg _ _ (k4 c c' hd _ hc)
        | succ j =>
          obtain ⟨b1, b2, k5, k6, k7⟩ := k3 j (by simp [OK.cnt1] at hj; exact hj)
          exact ⟨b1, b2, by rw [show i0 + (j + 1) = i0 + 1 + j by omega]; exact k5, by simp only [heapO1, List.getElem?_cons_succ]; exact k6, k7⟩
      · cases h2
  | t d =>
    simp only [rdO1] at h
    obtain ⟨⟨y, id, yo⟩, l1, l2, h1, h2, h3⟩ := HP.run_bind h
    have := HP.run_ret h2
    injection this with e1 e
    injection e with e2 e
    injection e with e3 e4
    simp only at e1 e2 e3 e4
    subst e1 e2 e3 e4
    simp only [List.length_cons, List.length_nil] at hσ hm
    have hs0 : σ i0 = id := hσ 0 (by omega)
    obtain ⟨⟨b, hb1, hb2⟩, hv⟩ := rdT_sound (σ := σ) (m := m) (j := i0) h1 ho hs0 (by omega)
    refine ⟨rfl, rfl, fun j hj => ?_, ?_⟩
    · have : j = 0 := by simp [OK.cnt1] at hj; exact hj
      subst this
      exact ⟨b, _, by rw [Nat.add_zero, hs0]; exact hb1, rfl, by rw [hb2]; exact CoB.self⟩
    · intro E ρ S a w c' hmem hR hd hl X hX
      subst hmem
      refine RV.dn hd (v := .tsl i0 [] x.i (x.i * d.sz) d.sz x.len) (by rw [hv]; exact hX) fun i hi => ?_
      simp only [AV.refs, List.mem_singleton] at hi
      omega
  | rd d =>
    simp only [rdO1, rdR] at h
    split at h <;> try cases h
    · rename_i id
      obtain ⟨b, l', h1, h2, h3⟩ := HP.run_get h
      unfold rdRk at h2
      split at h2
      · rename_i y hy
        have := HP.run_ret h2
        injection this with e1 e
        injection e with e2 e
        injection e with e3 e4
        subst e1 e2 e3 e4
        refine ⟨rfl, rfl, fun j hj => by simp [OK.cnt1] at hj, ?_⟩
        intro E ρ S a w c' hmem hR hd hl X hX
        subst hmem
        obtain ⟨g, o, hb, hr, rfl⟩ := hX.ptr_inv
        have hr' : ρ id = some (g, o) := hr
        obtain ⟨rc, el, lo, hi, flat, q1, q2, q3, q4, q5⟩ := hR.block h1 hr' (fun l e => by subst e; cases d <;> simp [Kd.of] at hy)
        have hrd := Kd.of_sound hy q3
        exact .one _ _ rfl (.ept false d x g o rc el (lo, hi) flat (hl id b g o h1 (fun i hi => hlent id (List.mem_singleton.2 rfl) i hi) hr') (by rw [hd.hp]; exact q1) (hrd.mono fun own b h1 _ => ⟨hd.ok own b h1, by rw [hd.hp]⟩) q4)
      · cases h2
  | fv f =>
    simp only [rdO1, rdFv] at h
    split at h
    · split at h
      · rename_i f' hf
        subst hf
        have := HP.run_ret h
        injection this with e1 e
        injection e with e2 e
        injection e with e3 e4
        subst e2 e3 e4
        refine ⟨rfl, rfl, fun j hj => by simp [OK.cnt1] at hj, ?_⟩
        intro E ρ S a w c' hmem hR hd hl X hX
        exact RV.dn hd (v := .func (.func _) [] []) hX fun i hi => by simp [AV.refs, AV.refs.refsL] at hi
      · cases h
    · cases h
  | w d =>
    simp only [rdO1] at h
    obtain ⟨⟨y, yl, yo⟩, l1, l2, h1, h2, h3⟩ := HP.run_bind h
    have := HP.run_ret h2
    injection this with e1 e
    injection e with e2 e
    injection e with e3 e4
    simp only at e1 e2 e3 e4
    subst e1 e2 e3 e4
    exact ⟨rfl, rfl, fun j hj => by simp [OK.cnt1] at hj, Coe.lendC (rdW_sound (σ := σ) (m := m) h1 ho hlent)⟩
theorem rdO_sound {mem : Nat → Slot} {σ : Nat → Nat} {m : Nat} : ∀ {ks : List OK} {vs : List AV} {x : OT ks} {ids lent : List Nat} {obs : List Prop} {l : List Nat} {i0 : Nat},
    (rdO ks vs).run mem = some ((x, ids, lent, obs), l) → (∀ q ∈ obs, q) → (∀ j, j < ids.length → σ (i0 + j) = ids.getD j 0) → i0 + ids.length ≤ m → (∀ j ∈ lent, ∀ i, i < m → σ i ≠ j) →
    ids.length = OK.cnt ks ∧ (heapO ks i0 x).length = OK.cnt ks ∧ (∀ j, j < OK.cnt ks → ∃ b b', mem (σ (i0 + j)) = .live b ∧ (heapO ks i0 x)[j]? = some b' ∧ CoB σ m b b') ∧ CoeL mem σ m vs (argO ks i0 x)
  | [], [], x, ids, lent, obs, l, i0, h, ho, hσ, hm, hlent => by
    have := HP.run_ret h
    injection this with _ e
    injection e with e _
    subst e
    exact ⟨rfl, rfl, fun j hj => by simp [OK.cnt] at hj, .nil⟩
  | k :: r, v :: vs, x, ids, lent, obs, l, i0, h, ho, hσ, hm, hlent => by
    simp only [rdO] at h
    obtain ⟨⟨y, yi, yl, yo⟩, l1, l2, h1, h2, h3⟩ := HP.run_bind h
    obtain ⟨⟨qx, qi, ql, qo⟩, l3, l4, h4, h5, h6⟩ := HP.run_bind h2
    have := HP.run_ret h5
    injection this with e1 e
    injection e with e2 e
    injection e with e3 e4
    simp only at e1 e2 e3 e4
    subst e1 e2 e3 e4
    simp only [List.length_append] at hσ hm
    obtain ⟨k1, k2, k3, k4⟩ := rdO1_sound (σ := σ) (m := m) (i0 := i0) h1 (fun q hq => ho q (List.mem_append_left _ hq)) (fun j hj => by
      rw [hσ j (by omega)]
      simp only [List.getD_eq_getElem?_getD, List.getElem?_append_left hj]) (by omega) (fun j hj => hlent j (List.mem_append_left _ hj))
    obtain ⟨n1, n2, n3, n4⟩ := rdO_sound (σ := σ) (m := m) (i0 := i0 + k.cnt1) h4 (fun q hq => ho q (List.mem_append_right _ hq)) (fun j hj => by
      have := hσ (yi.length + j) (by omega)
      rw [show i0 + k.cnt1 + j = i0 + (yi.length + j) by omega, this]
      simp only [List.getD_eq_getElem?_getD]
      rw [List.getElem?_append_right (by omega), Nat.add_sub_cancel_left]) (by omega) (fun j hj => hlent j (List.mem_append_right _ hj))
    refine ⟨by simp only [List.length_append, OK.cnt]; omega, by simp only [heapO, List.length_append, OK.cnt]; omega, fun j hj => ?_, .cons _ _ _ _ k4 n4⟩
    by_cases hlt : j < k.cnt1
    · obtain ⟨b, b', m1, m2, m3⟩ := k3 j hlt
      exact ⟨b, b', m1, by simp only [heapO]; rw [List.getElem?_append_left (by omega)]; exact m2, m3⟩
    · obtain ⟨b, b', m1, m2, m3⟩ := n3 (j - k.cnt1) (by simp only [OK.cnt] at hj; omega)
      exact ⟨b, b', by rw [show i0 + j = i0 + k.cnt1 + (j - k.cnt1) by omega]; exact m1, by simp only [heapO]; rw [List.getElem?_append_right (by omega), k2]; exact m2, m3⟩
def Con.ofO (ks : List OK) (kill : List Nat) (pre : OT ks → List Prop) (out : OT ks → Out) : Con where
  Par := OT ks
  m := OK.cnt ks
  kill := kill
  pre := pre
  args := argO ks 0
  heap := heapO ks 0
  out := out
  inv := fun l => (rdO ks l).bind fun q => if (nodupB q.2.1 && q.2.2.1.all fun i => !q.2.1.contains i) = true then .ret (q.1, q.2.1, q.2.2.2) else .fail
theorem Con.ofO_inv (ks : List OK) (kill : List Nat) (pre : OT ks → List Prop) (out : OT ks → Out) : InvOK (Con.ofO ks kill pre out) := by
  intro mem args p ids obs l h ho
  obtain ⟨⟨qx, qi, ql, qo⟩, l1, l2, h1, h2, h3⟩ := HP.run_bind h
  simp only at h2
  split at h2
  · rename_i hc
    have := HP.run_ret h2
    injection this with e1 e
    injection e with e2 e3
    subst e1 e2 e3
    simp only [Bool.and_eq_true, List.all_eq_true, Bool.not_eq_true', List.contains_eq_mem, decide_eq_false_iff_not] at hc
    obtain ⟨k1, k2, k3, k4⟩ := rdO_sound (σ := sg0 ids) (m := ids.length) (i0 := 0) h1 ho (fun j hj => by rw [Nat.zero_add]; rfl) (by omega) (fun j hj i hi e => by
      refine hc.2 j hj ?_
      rw [← e]
      simp only [sg0, List.getD_eq_getElem?_getD, List.getElem?_eq_getElem hi, Option.getD_some]
      exact List.getElem_mem hi)
    rw [k1] at k3 k4
    exact ⟨k1, nodupB_spec hc.1, k2, fun i hi => by have := k3 i hi; rwa [Nat.zero_add] at this, k4⟩
  · cases h2
end Go.Vc

namespace Go.Vc
theorem take1 {α : Type} (x : α) : List.take 1 [x] = [x] := rfl
theorem arrEq {n m : Nat} {d : Kd} {x y : List d.T} (h : n = m) (e : x = y) : Slot.live (.pure (.arr n d) x) = Slot.live (.pure (.arr m d) y) := by
  subst h
  subst e
  rfl
section
variable {C : Cfg2} {S : AS}
theorem blk_nb (S : AS) : S.blk S.heap.length = .unborn := by
  simp [AS.blk, List.getD_eq_getElem?_getD]
def phS (S : AS) (id : Nat) (l : List AV) (d : Kd) : AS := ⟨S.tmps, setAt (setAt S.heap id (.live (.agg l))) S.heap.length (.live (.pure (.arr 0 d) []))⟩
theorem phS_blk (S : AS) (id : Nat) (l : List AV) (d : Kd) (i : Nat) : (phS S id l d).blk i = if i = S.heap.length then .live (.pure (.arr 0 d) []) else if i = id then .live (.agg l) else S.blk i := by
  simp only [phS, AS.blk, setAt_getD]
def phR (S : AS) (ρ : Nat → Option (Nat × Nat)) : Nat → Option (Nat × Nat) := fun i => if i = S.heap.length then none else ρ i
theorem RCs.ph {c : Ctx} {y : AV} (hy : RC c y [.slice none 0 0]) : ∀ {l : List AV} {cs : List Value} {j : Nat}, RCs c l cs → l[j]? = some .nilsl → RCs c (l.set j y) cs
  | [], cs, j, h, hj => by simp at hj
  | v :: r, _, 0, .cons _ _ c1 c2 hv hr, hj => by
    simp only [List.getElem?_cons_zero, Option.some.injEq] at hj
    subst hj
    cases hv
    exact .cons _ _ _ _ hy hr
  | v :: r, _, j + 1, .cons _ _ c1 c2 hv hr, hj => by
    simp only [List.getElem?_cons_succ] at hj
    exact .cons _ _ _ _ hv (RCs.ph hy hr hj)
theorem Wk.ph {id j : Nat} {l : List AV} {d : Kd} {sz : Nat} (h : S.blk id = .live (.agg l)) (hj : l[j]? = some .nilsl) : Wk C S (phS S id (l.set j (.tsl S.heap.length [] 0 0 sz 0)) d) := by
  intro E ρ a w hG hpin hR
  have hid : id ≠ S.heap.length := fun e => by rw [e, blk_nb] at h; cases h
  have hle : Ctx.Le some (ctx E ρ S.blk w) (ctx E (phR S ρ) (phS S id (l.set j (.tsl S.heap.length [] 0 0 sz 0)) d).blk w) := by
    refine ⟨fun own b hok _ => ⟨⟨fun i bl o hb hr => ?_, hok.2⟩, rfl⟩, fun i k hb hk => ?_, fun i k g o hb hk hr rc el fr hc => ⟨rc, el, fr, hc, Nat.le_refl _⟩⟩
    · rw [phS_blk] at hb
      simp only [phR] at hr
      split at hr
      · cases hr
      · rename_i hne
        rw [if_neg hne] at hb
        split at hb
        · rename_i e
          subst e
          exact hok.1 i _ o h hr
        · exact hok.1 i _ o hb hr
    · injection hk with hk
      subst hk
      have hne : i ≠ S.heap.length := fun e => hb (by rw [e]; exact blk_nb S)
      refine ⟨?_, by show phR S ρ i = ρ i; simp only [phR, if_neg hne]⟩
      show (phS S id _ d).blk i ≠ .unborn
      rw [phS_blk, if_neg hne]
      split
      · intro e; cases e
      · exact hb
  have hold : ∀ {i : Nat} {b : AV}, (phS S id (l.set j (.tsl S.heap.length [] 0 0 sz 0)) d).blk i = .live b → i ≠ S.heap.length → ∃ b0, S.blk i = .live b0 := by
    intro i b hb hne
    rw [phS_blk, if_neg hne] at hb
    split at hb
    · rename_i e; exact ⟨_, by rw [e]; exact h⟩
    · exact ⟨_, hb⟩
  refine ⟨phR S ρ, hR.len, hR.df, fun i v hv => ?_, fun i b hb => ?_, fun i i' b b' g o o' hb hb' hr hr' => ?_, fun i b g o hb hr => ?_, hR.fr, fun i hi => ?_, fun g pd hg => ?_⟩
  · obtain ⟨V, h1, h2⟩ := hR.tm i v hv
    refine ⟨V, h1, ?_⟩
    have := RV.tr hle h2
    rwa [AV.tr_some] at this
  · rw [phS_blk] at hb
    split at hb
    · rename_i e
      injection hb with hb
      subst hb e
      simp only [phR, if_true]
      exact ⟨rfl, rfl⟩
    · rename_i hne
      have hρ : phR S ρ i = ρ i := by simp only [phR, if_neg hne]
      rw [hρ]
      split at hb
      · rename_i e
        injection hb with hb
        subst hb e
        have := hR.hb i _ h
        cases hri : ρ i with
        | none => rw [hri] at this; exact this.elim
        | some p =>
          obtain ⟨g, o⟩ := p
          rw [hri] at this
          obtain ⟨rc, el, lo, hi, flat, q1, q2, q3, q4, q5⟩ := this.cl (fun l e => by cases e)
          refine .inl ⟨rc, el, lo, hi, flat, q1, q2, ?_, q4, q5⟩
          cases q3 with
          | agg _ _ hcs =>
            have := RCs.tr hle hcs
            rw [show AV.tr.trL some l = l from by have := AV.tr_some (.agg l); simp only [AV.tr, AV.agg.injEq] at this; exact this] at this
            refine .agg _ _ (RCs.ph ?_ this hj)
            refine .tslv _ _ _ _ _ _ ?_ ?_ rfl
            · show (phS S i _ d).blk S.heap.length ≠ .unborn
              rw [phS_blk, if_pos rfl]
              intro e; cases e
            · show phR S ρ S.heap.length = none
              simp only [phR, if_true]
      · have := hR.hb i b hb
        cases hri : ρ i with
        | none => rw [hri] at this; exact this
        | some p =>
          obtain ⟨g, o⟩ := p
          rw [hri] at this
          rcases this with ⟨rc, el, lo, hi, flat, q1, q2, q3, q4, q5⟩ | this
          · refine .inl ⟨rc, el, lo, hi, flat, q1, q2, ?_, q4, q5⟩
            have := RC.tr hle q3
            rwa [AV.tr_some] at this
          · exact .inr this
  · have hne : i ≠ S.heap.length := fun e => by simp only [phR, if_pos e] at hr; cases hr
    have hne' : i' ≠ S.heap.length := fun e => by simp only [phR, if_pos e] at hr'; cases hr'
    obtain ⟨c, hc⟩ := hold hb hne
    obtain ⟨c', hc'⟩ := hold hb' hne'
    simp only [phR, if_neg hne] at hr
    simp only [phR, if_neg hne'] at hr'
    exact hR.inj i i' c c' g o o' hc hc' hr hr'
  · have hne : i ≠ S.heap.length := fun e => by simp only [phR, if_pos e] at hr; cases hr
    obtain ⟨c, hc⟩ := hold hb hne
    simp only [phR, if_neg hne] at hr
    exact hR.nf i c g o hc hr
  · obtain ⟨h1, h2⟩ := hR.pn i hi
    have hne : i ≠ S.heap.length := fun e => h1 (by rw [e]; exact blk_nb S)
    refine ⟨?_, by simp only [phR, if_neg hne]; exact h2⟩
    rw [phS_blk, if_neg hne]
    split
    · intro e; cases e
    · exact h1
  · have := RV.tr hle (hR.gl g pd hg)
    rwa [AV.tr_some] at this
theorem Tri.ph {P : Program} {c : Code} {Q : Exit → AS → Prop} (id j : Nat) (d : Kd) (sz : Nat) {l : List AV} {S1 : AS} (h : S.blk id = .live (.agg l)) (hj : l[j]? = some .nilsl) (hS : phS S id (l.set j (.tsl S.heap.length [] 0 0 sz 0)) d = S1)
    (hq : Tri P C S1 c Q) : Tri P C S c Q := Tri.weak (Wk.ph h hj) (hS ▸ hq)
end
end Go.Vc

namespace Go.Vc
attribute [go_sem] runOps runRc wantedA AS.gval opProg AS.ev absC HP.run HP.bind retV pLoad pNil pPick pUn unAV pIndexAddr inb pIndexS pIndex pField fldP Cfg.fld PD.off pFieldAddr pSlice loB hiB pArrPtr pExtract pLen Cfg.intK Cfg.isBytes pConvert pConvS pAlloc pBox AV.isTup pStore setAll evParts Cfg.places pBuild pBuildSlice pMakeSlice srcSl pAppend rdSl ovw pCopy byteCells pBytes pEq pEqP pEqB pEqA eqOp AV.ptrK AV.boolK pBin2 binAV intOp strOp evL pCall pMakeFunc pBuiltin Cfg.isPtrT Cfg.arr Cfg.slc Cfg.isStr AV.isPtr castI_self castK_self Kd.of Kd.of.ofL Kd.at Kd.ob Kd.off Kd.set AV.size AV.sizeL AV.size_ofKd AV.at AV.ob AV.off AV.set AV.isAgg Kd.isAgg TD.agg AV.ofKd Kd.sz Kd.dflt AS.app AS.put AS.killed AS.blk wrs setAt AV.tr AV.tr.trL Slot.tr killF List.map List.set_cons_zero List.set_cons_succ List.getD_cons_zero List.getD_cons_succ List.getD_nil Option.map_some Option.map_none Con.sum Con.res Con.of Con.start Con.pins rdA rdV rdS rdP rdPk_st rdPk_arr rdPk_agg lentOf nodupB argA heapA sg wrL AK.cnt AK.T AT TyI.kd1 TyI.ptr1 TyI.slice1 List.cons_append List.nil_append List.append_nil List.length_cons List.length_nil List.length_append List.append_eq tdivN tmodN mulNl mulNr addNN addNl addNr wrapN IntT.zero wrap_i64_id constI_u8 constI_u32 constI_u64 constI_i64 and_self and_true true_and if_true if_false ite_true ite_false Nat.zero_add Nat.add_zero decide_true decide_false Bool.and_true Bool.true_and Bool.and_self List.all_nil List.all_cons Bool.not_true Bool.not_false Bool.not_not bne beq_self_eq_true Bool.false_eq_true Bool.false_or Bool.or_false Bool.true_or Bool.or_true Bool.false_and Bool.and_false Option.bind_some Option.bind_none Option.some.injEq List.contains_cons List.contains_nil List.getElem?_toArray List.getElem?_cons_zero List.getElem?_cons_succ List.drop_zero List.toList_toArray Option.getD_some Option.getD_none List.getElem?_nil Int.toNat_natCast
attribute [go_sem] addT_u8 subT_u8 mulT_u8 quoT_u8 remT_u8 andT_u8 orT_u8 xorT_u8 notT_u8 ltT_u8 eqI_u8 toI_u8 shlT_u8 shrT_u8 addT_u32 subT_u32 mulT_u32 quoT_u32 remT_u32 andT_u32 orT_u32 xorT_u32 notT_u32 ltT_u32 eqI_u32 toI_u32 shlT_u32 shrT_u32 addT_u64 subT_u64 mulT_u64 quoT_u64 remT_u64 andT_u64 orT_u64 xorT_u64 notT_u64 ltT_u64 eqI_u64 toI_u64 shlT_u64 shrT_u64 addT_i64 subT_i64 mulT_i64 quoT_i64 remT_i64 ltT_i64 eqI_i64 toI_i64 conv_i64_u8 conv_i64_u32 conv_u32_u8 conv_u64_u8 conv_u8_u32 conv_u8_u64 conv_u32_u64 conv_u64_u32 conv_u64_u64 conv_u8_u8 conv_u32_u32 conv_i64_i64 conv_u8_i64 conv_u64_i64 conv_u32_i64
attribute [go_sem] minT_i64 minT_u64 pMin rdSS rdSSk rdSL AV.setX Kd.fields Kd.stF List.set_cons_zero srcAp Cfg.isInt List.length_replicate rdFv rdW rdWL rdWk_int rdWk_bool rdWk_str rdWk_arr rdWk_st rdWk_slice rdR rdRk_slice rdRk_arr rdRk_st rdRk_agg take1
attribute [go_sem] reduceCtorEq Nat.reduceLT Nat.reduceSub Nat.reduceAdd Nat.reduceMul Nat.reduceEqDiff Nat.reduceBEq Nat.reduceBNe Nat.reduceLeDiff Nat.reduceDiv Nat.reduceMod Nat.reducePow List.reduceReplicate UInt8.reduceOfNat UInt32.reduceOfNat UInt64.reduceOfNat Int.reduceLE Int.reduceLT Int.reduceNeg Int.reduceToNat Int.reduceAdd Int.reduceSub Int.reduceMul Int.reduceEq UInt64.reduceToNat UInt8.reduceToNat UInt32.reduceToNat
attribute [go_sem] relRes TyI.kdp pMakeMap pLookup pUpdate
attribute [go_sem ↓] reduceIte
section
variable {C : Cfg2} {ops : Array Oper} {o : Oper} {rest : List Oper} {S S1 : AS} {r : Res} {rd : List Nat}
theorem RunT.oneA {K : AS → Prop} (hw : wantedA ops S o = some true := by first | exact wantedA_none rfl | (simp only [go_sem, Bool.true_beq, Bool.false_beq]; done) | (simp only [go_sem, Bool.true_beq, Bool.false_beq]; with_reducible rfl)) (hp : (opProg C (S.ev C.G) S.heap.length o).run S.blk = some (r, rd)) (hS : S.app o.dst r = S1 := by simp only [go_sem, List.replicate]; rfl) (ho : Obs r.obs := by first | exact True.intro | (simp only [Obs, and_true, true_and]; omega) | (simp [Obs, AV.sizeL, AV.size, Kd.sz]; done) | (simp [Obs, AV.sizeL, AV.size, Kd.sz]; omega) | (simp only [Obs, and_true, true_and]; (repeat' apply And.intro) <;> first | omega | assumption))
    (h : RunT C ops rest S1 K) : RunT C ops (o :: rest) S K := RunT.one hw hp hS ho h
theorem RunT.notA {K : AS → Prop} (hw : wantedA ops S o = some false := by first | (simp only [go_sem, Bool.true_beq, Bool.false_beq]; done) | (simp only [go_sem, Bool.true_beq, Bool.false_beq]; with_reducible rfl)) (hS : S.put o.dst (some (.tuple [])) = S1 := by simp only [go_sem, List.replicate]; rfl)
    (h : RunT C ops rest S1 K) : RunT C ops (o :: rest) S K := RunT.not hw hS h
theorem RunD.oneA {K : AS → List FP → Prop} (hw : wantedA ops S o = some true := by first | exact wantedA_none rfl | (simp only [go_sem, Bool.true_beq, Bool.false_beq]; done) | (simp only [go_sem, Bool.true_beq, Bool.false_beq]; with_reducible rfl)) (hp : (opProg C (S.ev C.G) S.heap.length o).run S.blk = some (r, rd)) (hS : S.app o.dst r = S1 := by simp only [go_sem, List.replicate]; rfl) (ho : Obs r.obs := by first | exact True.intro | (simp only [Obs, and_true, true_and]; omega) | (simp [Obs, AV.sizeL, AV.size, Kd.sz]; done) | (simp [Obs, AV.sizeL, AV.size, Kd.sz]; omega) | (simp only [Obs, and_true, true_and]; (repeat' apply And.intro) <;> first | omega | assumption))
    (h : RunD C ops rest S1 (fun S' fps => K S' (Rc.fp ops ⟨o, S, r, S.heap.length, rd⟩ :: fps))) : RunD C ops (o :: rest) S K := RunD.one hw hp hS ho h
theorem RunD.notA {K : AS → List FP → Prop} (hw : wantedA ops S o = some false := by first | (simp only [go_sem, Bool.true_beq, Bool.false_beq]; done) | (simp only [go_sem, Bool.true_beq, Bool.false_beq]; with_reducible rfl)) (hS : S.put o.dst (some (.tuple [])) = S1 := by simp only [go_sem, List.replicate]; rfl)
    (h : RunD C ops rest S1 (fun S' fps => K S' (Rc.fp ops ⟨o, S, { v := some (.tuple []) }, S.heap.length, []⟩ :: fps))) : RunD C ops (o :: rest) S K := RunD.not hw hS h
end
end Go.Vc
