/- Part of a proof: No more boxes are open than there is room for; what is acknowledged makes room for as many -/
import Derived.Test.YtlnkfdblkdhdgaaDoorVc5
set_option linter.unusedVariables false
set_option linter.unusedSimpArgs false
set_option linter.unusedSectionVars false
namespace Go.Vc
def kbK : List Nat → AV → AV
  | [], b => b
  | k :: ks, b => b.tr (killF (k :: ks))
def keepR : List Nat → Res → HP Res
  | [], r => .ret r
  | k :: ks, r => match r.wr[k]? with
    | some (id, .live b') => if nodupB (r.wr.map (·.1)) = true then .get id fun b => keepR ks { v := r.v, wr := r.wr.eraseIdx k, kill := r.kill, obs := (kbK r.kill b = b') :: r.obs, new := r.new } else .fail
    | _ => .fail
structure SumK where
  sum : List AV → Nat → HP Res
def keepS (ks : List Nat) (s : List AV → Nat → HP Res) : SumK := ⟨fun args nb => (s args nb).bind fun r => keepR ks r⟩
theorem wrs_blk : ∀ (l : List (Nat × Slot)) (h : List Slot) (j : Nat), (∀ s, (j, s) ∉ l) → (wrs h l).getD j .unborn = h.getD j .unborn
  | [], h, j, _ => rfl
  | (i, s) :: r, h, j, hn => by
    rw [wrs, wrs_blk r _ j fun s hs => hn s (List.mem_cons_of_mem _ hs), setAt_getD, if_neg (fun e => hn s (by rw [e]; exact List.mem_cons_self ..))]
theorem wrs_get : ∀ (l : List (Nat × Slot)) (h : List Slot) (j : Nat) (s : Slot), (l.map (·.1)).Nodup → (j, s) ∈ l → (wrs h l).getD j .unborn = s
  | (i, t) :: r, h, j, s, hn, hm => by
    rw [List.map_cons, List.nodup_cons] at hn
    rw [wrs]
    rcases List.mem_cons.1 hm with e | hm
    · injection e with e1 e2
      subst e1 e2
      rw [wrs_blk r _ j fun s hs => hn.1 (List.mem_map.2 ⟨_, hs, rfl⟩), setAt_getD, if_pos rfl]
    · exact wrs_get r _ j s hn.2 hm
  | [], _, _, _, _, hm => by cases hm
theorem erase_blk {l : List (Nat × Slot)} {h : List Slot} {k id : Nat} {s : Slot} (hn : (l.map (·.1)).Nodup) (hk : l[k]? = some (id, s)) (hs : h.getD id .unborn = s) (j : Nat) : (wrs h (l.eraseIdx k)).getD j .unborn = (wrs h l).getD j .unborn := by
  have hmem : (id, s) ∈ l := List.mem_of_getElem? hk
  have hne : ((l.eraseIdx k).map (·.1)).Nodup := (List.Sublist.map _ (List.eraseIdx_sublist l k)).nodup hn
  by_cases hj : ∃ t, (j, t) ∈ l
  · obtain ⟨t, ht⟩ := hj
    rw [wrs_get l h j t hn ht]
    by_cases he : (j, t) ∈ l.eraseIdx k
    · exact wrs_get _ h j t hne he
    · have hjid : (j, t) = (id, s) := by
        obtain ⟨i, hi⟩ := List.mem_iff_getElem?.1 ht
        by_cases hik : i = k
        · subst hik
          rw [hk] at hi
          injection hi with hi
          exact hi.symm
        · exfalso
          apply he
          rcases Nat.lt_or_gt_of_ne hik with hlt | hgt
          · exact List.mem_of_getElem? (i := i) (by rw [List.getElem?_eraseIdx_of_lt hlt]; exact hi)
          · exact List.mem_of_getElem? (i := i - 1) (by rw [List.getElem?_eraseIdx_of_ge (by omega), show i - 1 + 1 = i by omega]; exact hi)
      injection hjid with e1 e2
      subst e1 e2
      rw [wrs_blk, hs]
      intro u hu
      have hu2 : (j, u) ∈ l := (List.eraseIdx_sublist l k).mem hu
      have h1 := wrs_get l h j u hn hu2
      have h2 := wrs_get l h j t hn ht
      rw [h1] at h2
      rw [h2] at hu
      exact he hu
  · rw [wrs_blk l h j fun t ht => hj ⟨t, ht⟩, wrs_blk]
    intro t ht
    exact hj ⟨t, (List.eraseIdx_sublist l k).mem ht⟩
theorem killed_blk {S : AS} {id : Nat} {b : AV} (h : S.blk id = .live b) : ∀ ks, (S.killed ks).blk id = .live (kbK ks b)
  | [] => h
  | k :: ks => by
    show AS.blk ⟨S.tmps.map (Option.map (AV.tr (killF (k :: ks)))), S.heap.map (Slot.tr (killF (k :: ks)))⟩ id = _
    have h2 : AS.blk ⟨S.tmps.map (Option.map (AV.tr (killF (k :: ks)))), S.heap.map (Slot.tr (killF (k :: ks)))⟩ id = (S.blk id).tr (killF (k :: ks)) := by
      show (S.heap.map (Slot.tr (killF (k :: ks)))).getD id Slot.unborn = _
      simp only [AS.blk, List.getD_eq_getElem?_getD, List.getElem?_map]
      cases S.heap[id]? <;> rfl
    rw [h2, h]
    rfl
theorem keepR_spec {S : AS} : ∀ {ks : List Nat} {r r' : Res} {l : List Nat}, (keepR ks r).run S.blk = some (r', l) → (∀ q ∈ r'.obs, q) →
    (∀ q ∈ r.obs, q) ∧ r'.new = r.new ∧ r'.kill = r.kill ∧ r'.v = r.v ∧ ∀ j, (wrs (S.killed r.kill).heap r'.wr).getD j .unborn = (wrs (S.killed r.kill).heap r.wr).getD j .unborn
  | [], r, r', l, h, ho => by
    have := HP.run_ret h
    subst this
    exact ⟨ho, rfl, rfl, rfl, fun j => rfl⟩
  | k :: ks, r, r', l, h, ho => by
    rw [keepR] at h
    split at h
    · rename_i id b' hk
      split at h
      · rename_i hn
        obtain ⟨b, l1, h1, h2, h3⟩ := HP.run_get h
        obtain ⟨g1, g2, g3, g4, g5⟩ := keepR_spec h2 ho
        have hb : kbK r.kill b = b' := g1 _ (List.mem_cons_self ..)
        refine ⟨fun q hq => g1 q (List.mem_cons_of_mem _ hq), g2, g3, g4, fun j => ?_⟩
        rw [g5 j]
        exact erase_blk (nodupB_spec hn) hk (by have := killed_blk h1 r.kill; rw [hb] at this; exact this) j
      · cases h
    · cases h
theorem FSumOK.keep {P : Program} {G : Nat → Option PD} {f : FuncId} {s : List AV → Nat → HP Res} (h : FSumOK P G f s) (ks : List Nat) : FSumOK P G f (keepS ks s).sum := by
  refine ⟨h.enter, fun S args nb r l hrun hobs hnew E ρ a w hG hpin hR V hV => ?_⟩
  obtain ⟨r0, l1, l2, h1, h2, h3⟩ := HP.run_bind hrun
  obtain ⟨g1, g2, g3, g4, g5⟩ := keepR_spec h2 hobs
  refine (h.calls S args nb r0 l1 h1 g1 (by rw [← g2]; exact hnew) E ρ a w hG (by rw [← g3]; exact hpin) hR V hV).mono fun e w' ⟨v, ρ', he, hr⟩ => ⟨v, ρ', he, fun dst => ?_⟩
  refine (hr dst).same ?_ fun j => ?_
  · simp only [AS.app, g3, g4]
    cases dst <;> rfl
  · simp only [AS.app, AS.put_blk, g3]
    exact g5 j
attribute [go_sem] keepS keepR kbK List.eraseIdx_cons_zero List.eraseIdx_cons_succ
end Go.Vc
