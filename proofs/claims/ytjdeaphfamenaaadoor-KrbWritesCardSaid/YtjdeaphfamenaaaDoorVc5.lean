/- Part of a proof: messages are written as the document says, and what was written is read again -/
import Derived.Test.YtjdeaphfamenaaaDoorVc4
set_option linter.unusedVariables false
set_option linter.unusedSimpArgs false
set_option linter.unusedSectionVars false
namespace Go.Vc
def ofLs (d : Kd) : List AV → Option (List d.T)
  | [] => some []
  | v :: r => match d.of v, ofLs d r with
    | some x, some y => some (x :: y)
    | _, _ => none
theorem ofLs_sound {c : Ctx} {d : Kd} : ∀ {l : List AV} {cs : List Value} {xs : List d.T}, ofLs d l = some xs → RCs c l cs → xs.length = l.length ∧ RL (Reads c.ok c.hp d) xs cs
  | [], _, xs, h, .nil => by
    injection h with h
    subst h
    exact ⟨rfl, rfl⟩
  | v :: r, _, xs, h, .cons _ _ c1 c2 hv hr => by
    rw [ofLs] at h
    split at h
    · rename_i x y h1 h2
      injection h with h
      subst h
      obtain ⟨k1, k2⟩ := ofLs_sound h2 hr
      exact ⟨by simp [k1], c1, c2, rfl, Kd.of_sound h1 hv, k2⟩
    · cases h
theorem Wk.fold {C : Cfg2} {S : AS} {id : Nat} {l : List AV} {d : Kd} {xs : List d.T} (hb : S.blk id = .live (.agg l)) (hx : ofLs d l = some xs) : Wk C S ⟨S.tmps, setAt S.heap id (.live (.pure (.arr l.length d) xs))⟩ := by
  intro E ρ a w hG hpin hR
  let S' : AS := ⟨S.tmps, setAt S.heap id (.live (.pure (.arr l.length d) xs))⟩
  have hblk : ∀ i, S'.blk i = if i = id then .live (.pure (.arr l.length d) xs) else S.blk i := fun i => by
    show (setAt S.heap id (.live (.pure (.arr l.length d) xs))).getD i .unborn = _
    rw [setAt_getD]; rfl
  have hlive : ∀ i bl, S'.blk i = .live bl → ∃ bl', S.blk i = .live bl' := fun i bl h => by
    rw [hblk] at h
    split at h
    · rename_i e
      subst e
      exact ⟨_, hb⟩
    · exact ⟨_, h⟩
  have hborn : ∀ i, S.blk i ≠ .unborn → S'.blk i ≠ .unborn := fun i h => by
    rw [hblk]
    split
    · intro e; cases e
    · exact h
  have hle : Ctx.Le some (ctx E ρ S.blk w) (ctx E ρ S'.blk w) := by
    refine ⟨fun own b hok _ => ⟨⟨fun i bl o hb hr => ?_, hok.2⟩, rfl⟩, fun i k hb hk => ?_, fun i k g o hb hk hr rc el fr hc => ⟨rc, el, fr, hc, Nat.le_refl _⟩⟩
    · obtain ⟨bl', h'⟩ := hlive i bl hb
      exact hok.1 i bl' o h' hr
    · injection hk with hk
      subst hk
      exact ⟨hborn _ hb, rfl⟩
  refine ⟨ρ, hR.len, hR.df, fun i v hv => ?_, fun i b h => ?_, fun i i' b b' g o o' h h' hr hr' => ?_, fun i b g o h hr => ?_, hR.fr, fun i hi => ?_, fun g pd hg => ?_⟩
  · obtain ⟨V, h1, h2⟩ := hR.tm i v hv
    refine ⟨V, h1, ?_⟩
    have := RV.tr hle h2
    rwa [AV.tr_some] at this
  · rw [hblk] at h
    split at h
    · rename_i e
      injection h with h
      subst h e
      have := hR.hb i _ hb
      cases hri : ρ i with
      | none =>
        rw [hri] at this
        exact this.elim
      | some p =>
        obtain ⟨g, o⟩ := p
        rw [hri] at this
        obtain ⟨rc, el, lo, hi, flat, q1, q2, q3, q4, q5⟩ := this
        refine ⟨rc, el, lo, hi, flat, q1, q2, ?_, q4, q5⟩
        have q3' := RC.tr hle q3
        rw [AV.tr_some] at q3'
        cases q3' with
        | agg _ _ hcs =>
          obtain ⟨k1, k2⟩ := ofLs_sound hx hcs
          exact .pure _ _ _ ⟨k1, k2⟩
    · have := hR.hb i b h
      cases hri : ρ i with
      | none => rw [hri] at this; exact this
      | some p =>
        obtain ⟨g, o⟩ := p
        rw [hri] at this
        obtain ⟨rc, el, lo, hi, flat, q1, q2, q3, q4, q5⟩ := this
        refine ⟨rc, el, lo, hi, flat, q1, q2, ?_, q4, q5⟩
        have := RC.tr hle q3
        rwa [AV.tr_some] at this
  · obtain ⟨_, k⟩ := hlive _ _ h
    obtain ⟨_, k'⟩ := hlive _ _ h'
    exact hR.inj i i' _ _ g o o' k k' hr hr'
  · obtain ⟨_, k⟩ := hlive _ _ h
    exact hR.nf i _ g o k hr
  · obtain ⟨h1, h2⟩ := hR.pn i hi
    exact ⟨hborn _ h1, h2⟩
  · have := RV.tr hle (hR.gl g pd hg)
    rwa [AV.tr_some] at this
theorem Tri.fold {P : Program} {C : Cfg2} {S S1 : AS} {c : Code} {Q : Exit → AS → Prop} (id : Nat) {l : List AV} (d : Kd) {xs : List d.T} (hb : S.blk id = .live (.agg l)) (hx : ofLs d l = some xs)
    (hS : (⟨S.tmps, setAt S.heap id (.live (.pure (.arr l.length d) xs))⟩ : AS) = S1) (hq : Tri P C S1 c Q) : Tri P C S c Q := Tri.weak (Wk.fold hb hx) (hS ▸ hq)
attribute [go_sem] ofLs
def TyI.kda (e : TypeId) (n : Nat) (bytes : Nat) : TyI := ⟨.arr n e, n, bytes, .agg (List.replicate n .nilsl), none, false⟩
theorem nils_RCs (c : Ctx) : ∀ n, RCs c (List.replicate n .nilsl) (List.replicate n (.slice none 0 0))
  | 0 => .nil
  | n + 1 => by
    rw [List.replicate_succ, List.replicate_succ]
    exact .cons _ _ [.slice none 0 0] _ .nilsl (nils_RCs c n)
theorem TyOK.kda {P : Program} {t e : TypeId} {n bytes : Nat} (hu : P.underlying t = Option.some (.array n e)) (hi : tyInfo P t = Option.some (n, bytes, Option.some (.agg (List.replicate n (.slice none 0 0)).toArray))) : TyOK P t (TyI.kda e n bytes) := by
  refine TyOK.of (td := .arr n e) hu hi (fun c => ?_) (fun d hd => by cases hd)
  exact .agg _ _ rfl (.agg _ _ (nils_RCs c n))
attribute [go_sem] TyI.kda
end Go.Vc
