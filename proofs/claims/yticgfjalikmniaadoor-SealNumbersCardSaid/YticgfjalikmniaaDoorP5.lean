/- Part of a proof: Boxes that are made one behind the other are all unlike -/
import Derived.Test.YticgfjalikmniaaDoorP4
import Derived.Test.YticgfjalikmniaaDoorVc5
set_option linter.unusedVariables false
set_option linter.unusedSimpArgs false
set_option linter.unusedSectionVars false
namespace Go.Proofs.YticgfjalikmniaaDoor
open Go.Vc Go.Proofs
set_option maxRecDepth 10000
set_option maxHeartbeats 4000000
theorem zeroB (w : World) : (zeroValue 4).run Tryd.prog w = .ok (.bool false) w := zero_bool (by kernel_rfl) w
theorem mapS : MapLaw Tryd.prog 55 9 4 .str := MapLaw.str Tryd.underlying55 Tryd.underlying9 zeroB
def tyTabN : TypeId → Option TyI := fun t => if t = 55 then some (TyI.mapT 9 4 .str) else tyTabS t
theorem tyTabN_ok : TysOK Tryd.prog tyTabN := by
  intro t i h
  unfold tyTabN at h
  split at h
  · injection h with h
    subst h
    rename_i e
    subst e
    exact TyOK.mapT mapS (by kernel_rfl)
  · exact tysSOK t i h
def nmS (sy : Bool) (key d : List UInt8) : Nat → SS
  | 0 => ssM sy key 0 0 []
  | i + 1 => (nmS sy key d i).put key 1 d
def nmB (sy : Bool) (key d : List UInt8) : Nat → List (List UInt8)
  | 0 => []
  | i + 1 => nmB sy key d i ++ [(nmS sy key d i).box key 1 d]
theorem nmS_sy (sy : Bool) (key d : List UInt8) : ∀ i, (nmS sy key d i).sy = sy
  | 0 => rfl
  | i + 1 => by rw [nmS, put_sy', nmS_sy sy key d i]
theorem nmS_cn {sy : Bool} {key d : List UInt8} (h : d.length ≤ 2000) : ∀ i, i ≤ 100 → (nmS sy key d i).cn.toNat = i
  | 0, _ => rfl
  | i + 1, hi => by
    rw [nmS, put_cn h, UInt64.toNat_add, nmS_cn h i (by omega)]
    show (i + 1) % 2 ^ 64 = i + 1
    omega
theorem nmS_len (sy : Bool) (key d : List UInt8) : ∀ i, (nmS sy key d i).ts.length ≤ i
  | 0 => Nat.le_refl _
  | i + 1 => by have := nmS_len sy key d i; rw [nmS]; have := put_len (s := nmS sy key d i) (key := key) (us := 1) (d := d); omega
theorem nmB_mem {sy : Bool} {key d : List UInt8} : ∀ {i : Nat} {b : List UInt8}, b ∈ nmB sy key d i → ∃ j, j < i ∧ b = (nmS sy key d j).box key 1 d
  | 0, b, h => by cases h
  | i + 1, b, h => by
    rcases List.mem_append.1 h with h | h
    · obtain ⟨j, h1, h2⟩ := nmB_mem h; exact ⟨j, by omega, h2⟩
    · exact ⟨i, by omega, List.mem_singleton.1 h⟩
theorem nm_new {sy : Bool} {key d : List UInt8} (h : d.length ≤ 2000) {i : Nat} (hi : i ≤ 100) : memK .str (nmB sy key d i) ((nmS sy key d i).box key 1 d) = false := by
  cases hm : memK .str (nmB sy key d i) ((nmS sy key d i).box key 1 d) with
  | false => rfl
  | true =>
    exfalso
    obtain ⟨b, hb, hq⟩ := List.any_eq_true.1 hm
    have hq' : (nmS sy key d i).box key 1 d = b := of_decide_eq_true hq
    obtain ⟨j, hj, e⟩ := nmB_mem hb
    rw [e] at hq'
    refine box_ne ?_ h h ?_ hq'.symm
    · rw [nmS_sy, nmS_sy]
    · intro e2
      have := congrArg UInt64.toNat e2
      rw [nmS_cn h i hi, nmS_cn h j (by omega)] at this
      omega
theorem box_len2 {s : SS} {key : List UInt8} {us : Int} {d : List UInt8} (h : d.length ≤ 2000) : (s.box key us d).length = if s.sy = true then 9 else d.length + 24 := by
  cases hs : s.sy with
  | true => rw [box_sy hs h, List.length_cons, wd_len]; rfl
  | false =>
    rw [box_ns hs h, List.length_append, List.length_append, wd_len, tagS_len, strS_len]
    show 8 + d.length + 16 = d.length + 24
    omega
def kNums : Con := Con.of [.v .bool, .v k16, .v (.slice false (.int .u8))] (fun x => [List.length (α := UInt8) x.2.1 = 16]) (fun _ => ⟨.bool true, []⟩)
def cfgSN : Cfg2 := { ty := tyTabN, fn := fun | 31 => some kSpk6.sum | 32 => some kNewS.sum | 33 => some kSeal.sum | _ => none, G := shaG, pin := [], eq := eqS }
theorem cfgSN_ok : CfgOK Tryd.prog cfgSN := ⟨tyTabN_ok, (fun f s h => by
  simp only [cfgSN] at h
  split at h
  · injection h with h; subst h; exact .inl spk6_sum
  · injection h with h; subst h; exact .inl newS_sum
  · injection h with h; subst h; exact .inl seal_sum
  · cases h), eqS_ok⟩
section
attribute [local go_sem] Tryd.f14 kNums kSpk6 kNewS kSeal cfgSN tyTabN tyTabS eqS ssM_eta slM eqT_k strEq_id
theorem nums_body (p : kNums.Par) (hp : ∀ q ∈ kNums.pre p, q) : BodyOK Tryd.prog cfgSN Tryd.f14 (Tryd.f14.body.get rfl) kNums p := by
  obtain ⟨(sy : Bool), (key : List UInt8), (d : List UInt8), u⟩ := p
  obtain ⟨h1, _⟩ := Obs.of hp
  replace h1 : key.length = 16 := h1
  refine ⟨?_, Nat.zero_le _, rfl, rfl⟩
  show Tri _ _ _ (Code.seq _ (Code.seq (Code.seq _ (Code.cond _ (Code.seq _ _) _)) (Code.seq (Code.seq _ (Code.cond _ (Code.seq _ _) _)) (Code.seq _ (Code.seq (Code.seq _ (Code.cond _ (Code.seq _ _) _)) (Code.seq (Code.seq _ (Code.block _ (Code.loop (Code.seq (Code.seq _ (Code.cond _ _ _)) (Code.seq (Code.block _ (Code.seq _ (Code.seq (Code.seq _ (Code.cond _ (Code.seq _ _) _)) _))) _))))) (Code.seq _ _))))))) _
  by_cases hd : d.length ≤ 300
  rotate_left
  · have hd' : decide ((300 : Int) < (d.length : Int)) = true := decide_eq_true (by omega)
    refine Tri.at (by first | (simp only [hd', Con.start, go_sem]; rfl) | rfl) ?_
    repeat (first | ((first | refine Tri.seq (Tri.regT (cfgSN_ok.pins _) ?_) | refine Tri.rgnT (cfgSN_ok.pins _) ?_); (repeat (first | refine RunT.oneA (hp := by simp (maxSteps := 2000000) (disch := first | decide | omega | (simp only [List.length_append, List.length_cons, List.length_nil, List.length_take, List.length_drop]; omega)) only [hd', go_sem]; rfl) (h := ?_) | refine RunT.notA (h := ?_))); refine RunT.nil ?_; try simp only [InBlock, Then]) | refine Tri.cF (by first | (simp only [hd', go_sem]; done) | fail) ?_ | refine Tri.cT (by first | (simp only [hd', go_sem]; done) | fail) ?_ | (refine Tri.skip ?_; try simp only [InBlock, Then]) | (refine Tri.exit ?_; simp only [Then, InBlock, if_true, if_false, ↓reduceIte, Nat.reduceEqDiff]) | refine Tri.seq (Tri.block ?_) | refine Tri.block ?_ | refine Tri.seq ?_ | (refine Tri.ret ?_; refine Con.fin (.inl rfl) (by simp only [Tryd.f14, cfgSN, resA, resA1, go_sem]; rfl) (by simp only [Obs, and_true, true_and]) (by first | (simp only [kNums, Con.of, Con.ofO, resV, hd', go_sem]; done) | fail) trivial rfl rfl))
  have hd' : decide ((300 : Int) < (d.length : Int)) = false := decide_eq_false (by omega)
  have f1 : errS d = 0 := if_neg (by omega)
  refine Tri.at (by first | (simp only [hd', Con.start, go_sem]; rfl) | rfl) ?_
  repeat (first | ((first | refine Tri.seq (Tri.regT (cfgSN_ok.pins _) ?_) | refine Tri.rgnT (cfgSN_ok.pins _) ?_); (repeat (first | refine RunT.oneA (hp := by simp (maxSteps := 2000000) (disch := first | decide | omega | (simp only [List.length_append, List.length_cons, List.length_nil, List.length_take, List.length_drop]; omega)) only [hd', go_sem]; rfl) (h := ?_) | refine RunT.notA (h := ?_))); refine RunT.nil ?_; try simp only [InBlock, Then]) | refine Tri.cF (by first | (simp only [hd', go_sem]; done) | fail) ?_ | refine Tri.cT (by first | (simp only [hd', go_sem]; done) | fail) ?_ | (refine Tri.skip ?_; try simp only [InBlock, Then]) | (refine Tri.exit ?_; simp only [Then, InBlock, if_true, if_false, ↓reduceIte, Nat.reduceEqDiff]) | refine Tri.seq (Tri.block ?_) | refine Tri.block ?_ | refine Tri.seq ?_ | (refine Tri.ret ?_; refine Con.fin (.inl rfl) (by simp only [Tryd.f14, cfgSN, resA, resA1, go_sem]; rfl) (by simp only [Obs, and_true, true_and]) (by first | (simp only [kNums, Con.of, Con.ofO, resV, hd', go_sem]; done) | fail) trivial rfl rfl))
  refine Tri.loop (fun i : Nat => (⟨[some (.bool sy), none, some (.pure (.slice false (.int .u8)) d), none, some (.ptr 0 [] 0), none, none, some (.ptr 1 [] 0), some (.map 3), some (.int .i64 (i : Int))] ++ List.replicate 55 none, [.live (.pure k16 key), .live (.agg [.bool (nmS sy key d i).sy, .pure k16 (nmS sy key d i).seed, .int .u64 (nmS sy key d i).dr, .int .u64 (nmS sy key d i).cn, .tsl 2 [] 0 0 18 (List.length (α := tmK.T) (nmS sy key d i).ts)]), .live (.pure (.arr (List.length (α := tmK.T) (nmS sy key d i).ts) tmK) (nmS sy key d i).ts), .live (.tuple [.pure (.arr 0 .str) (nmB sy key d i)])]⟩ : AS)) (fun i => i ≤ 5) (fun i => 5 - i) 0 ?_ (Nat.zero_le _) ?_
  · refine Wk.of ?_ ?_ rfl rfl
    · simp only [lessTs, List.reduceReplicate, List.cons_append, List.nil_append] <;> ((repeat' apply And.intro) <;> first | with_reducible rfl | exact True.intro | exact congrArg (fun z : Int => some (AV.int IntKind.i64 z)) (show (_ : Int) = _ by omega) | exact congrArg (fun z : Nat => some (AV.tsl _ _ _ _ _ z)) (show (_ : Nat) = _ by omega) | exact arrEq (by omega) (by with_reducible rfl))
    exact ⟨rfl, rfl, rfl, rfl, trivial⟩
  · intro i hi
    by_cases h3 : i < 5
    · have h3' : decide ((i : Int) < 5) = true := decide_eq_true (by omega)
      have hn := nm_new (sy := sy) (key := key) (d := d) (by omega) (i := i) (by omega)
      have hl := nmS_len sy key d i
      have hbl := box_len2 (s := nmS sy key d i) (key := key) (us := 1) (d := d) (by omega)
      have hk : keyOK .str ((nmS sy key d i).box key 1 d) := by
        show List.length (α := UInt8) _ ≤ 1000000000
        rw [hbl]
        split <;> omega
      rw [nmS_sy] at hbl
      cases sy with
      | true =>
        replace hbl : ((nmS true key d i).box key 1 d).length = 9 := hbl
        have c1 : decide ((((nmS true key d i).box key 1 d).length : Int) = 9) = true := decide_eq_true (by omega)
        refine Tri.at (by first | (simp only [h3', hn, f1, c1, Con.start, go_sem]; rfl) | rfl) ?_
        repeat (first | ((first | refine Tri.seq (Tri.regT (cfgSN_ok.pins _) ?_) | refine Tri.rgnT (cfgSN_ok.pins _) ?_); (repeat (first | refine RunT.oneA (hp := by simp (maxSteps := 2000000) (disch := first | decide | omega | (simp only [List.length_append, List.length_cons, List.length_nil, List.length_take, List.length_drop]; omega)) only [h3', hn, f1, c1, go_sem]; rfl) (h := ?_) | refine RunT.notA (h := ?_))); refine RunT.nil ?_; try simp only [InBlock, Then]) | refine Tri.cF (by first | (simp only [h3', hn, f1, c1, go_sem]; done) | fail) ?_ | refine Tri.cT (by first | (simp only [h3', hn, f1, c1, go_sem]; done) | fail) ?_ | (refine Tri.skip ?_; try simp only [InBlock, Then]) | (refine Tri.exit ?_; simp only [Then, InBlock, if_true, if_false, ↓reduceIte, Nat.reduceEqDiff]) | refine Tri.seq (Tri.block ?_) | refine Tri.block ?_ | refine Tri.seq ?_ | (refine Tri.ret ?_; refine Con.fin (.inl rfl) (by simp only [Tryd.f14, cfgSN, resA, resA1, go_sem]; rfl) (by simp only [Obs, and_true, true_and]) (by first | (simp only [kNums, Con.of, Con.ofO, resV, h3', hn, f1, c1, go_sem]; done) | fail) trivial rfl rfl))
        refine ⟨i+1, (by omega), (by omega), Wk.of ?_ ?_ rfl rfl⟩
        · simp only [lessTs, List.reduceReplicate, List.cons_append, List.nil_append, nmS, nmB] <;> ((repeat' apply And.intro) <;> first | with_reducible rfl | exact True.intro | exact congrArg (fun z : Int => some (AV.int IntKind.i64 z)) (show (_ : Int) = _ by omega) | exact congrArg (fun z : Nat => some (AV.tsl _ _ _ _ _ z)) (show (_ : Nat) = _ by omega) | exact arrEq (by omega) (by with_reducible rfl))
        · simp only [lessHs, nmS, nmB] <;> ((repeat' apply And.intro) <;> first | with_reducible rfl | exact True.intro | exact congrArg (fun z : Int => some (AV.int IntKind.i64 z)) (show (_ : Int) = _ by omega) | exact congrArg (fun z : Nat => some (AV.tsl _ _ _ _ _ z)) (show (_ : Nat) = _ by omega) | exact arrEq (by omega) (by with_reducible rfl))
      | false =>
        replace hbl : ((nmS false key d i).box key 1 d).length = d.length + 24 := hbl
        have c1 : decide ((((nmS false key d i).box key 1 d).length : Int) = (d.length : Int) + 24) = true := decide_eq_true (by omega)
        have c2 : decide ((((nmS false key d i).box key 1 d).length : Int) = ((d.length + 24 : Nat) : Int)) = true := decide_eq_true (by omega)
        refine Tri.at (by first | (simp only [h3', hn, f1, c1, c2, Con.start, go_sem]; rfl) | rfl) ?_
        repeat (first | ((first | refine Tri.seq (Tri.regT (cfgSN_ok.pins _) ?_) | refine Tri.rgnT (cfgSN_ok.pins _) ?_); (repeat (first | refine RunT.oneA (hp := by simp (maxSteps := 2000000) (disch := first | decide | omega | (simp only [List.length_append, List.length_cons, List.length_nil, List.length_take, List.length_drop]; omega)) only [h3', hn, f1, c1, c2, go_sem]; rfl) (h := ?_) | refine RunT.notA (h := ?_))); refine RunT.nil ?_; try simp only [InBlock, Then]) | refine Tri.cF (by first | (simp only [h3', hn, f1, c1, c2, go_sem]; done) | fail) ?_ | refine Tri.cT (by first | (simp only [h3', hn, f1, c1, c2, go_sem]; done) | fail) ?_ | (refine Tri.skip ?_; try simp only [InBlock, Then]) | (refine Tri.exit ?_; simp only [Then, InBlock, if_true, if_false, ↓reduceIte, Nat.reduceEqDiff]) | refine Tri.seq (Tri.block ?_) | refine Tri.block ?_ | refine Tri.seq ?_ | (refine Tri.ret ?_; refine Con.fin (.inl rfl) (by simp only [Tryd.f14, cfgSN, resA, resA1, go_sem]; rfl) (by simp only [Obs, and_true, true_and]) (by first | (simp only [kNums, Con.of, Con.ofO, resV, h3', hn, f1, c1, c2, go_sem]; done) | fail) trivial rfl rfl))
        refine ⟨i+1, (by omega), (by omega), Wk.of ?_ ?_ rfl rfl⟩
        · simp only [lessTs, List.reduceReplicate, List.cons_append, List.nil_append, nmS, nmB] <;> ((repeat' apply And.intro) <;> first | with_reducible rfl | exact True.intro | exact congrArg (fun z : Int => some (AV.int IntKind.i64 z)) (show (_ : Int) = _ by omega) | exact congrArg (fun z : Nat => some (AV.tsl _ _ _ _ _ z)) (show (_ : Nat) = _ by omega) | exact arrEq (by omega) (by with_reducible rfl))
        · simp only [lessHs, nmS, nmB] <;> ((repeat' apply And.intro) <;> first | with_reducible rfl | exact True.intro | exact congrArg (fun z : Int => some (AV.int IntKind.i64 z)) (show (_ : Int) = _ by omega) | exact congrArg (fun z : Nat => some (AV.tsl _ _ _ _ _ z)) (show (_ : Nat) = _ by omega) | exact arrEq (by omega) (by with_reducible rfl))
    · have h3' : decide ((i : Int) < 5) = false := decide_eq_false (by omega)
      refine Tri.at (by first | (simp only [h3', Con.start, go_sem]; rfl) | rfl) ?_
      repeat (first | ((first | refine Tri.seq (Tri.regT (cfgSN_ok.pins _) ?_) | refine Tri.rgnT (cfgSN_ok.pins _) ?_); (repeat (first | refine RunT.oneA (hp := by simp (maxSteps := 2000000) (disch := first | decide | omega | (simp only [List.length_append, List.length_cons, List.length_nil, List.length_take, List.length_drop]; omega)) only [h3', go_sem]; rfl) (h := ?_) | refine RunT.notA (h := ?_))); refine RunT.nil ?_; try simp only [InBlock, Then]) | refine Tri.cF (by first | (simp only [h3', go_sem]; done) | fail) ?_ | refine Tri.cT (by first | (simp only [h3', go_sem]; done) | fail) ?_ | (refine Tri.skip ?_; try simp only [InBlock, Then]) | (refine Tri.exit ?_; simp only [Then, InBlock, if_true, if_false, ↓reduceIte, Nat.reduceEqDiff]) | refine Tri.seq (Tri.block ?_) | refine Tri.block ?_ | refine Tri.seq ?_ | (refine Tri.ret ?_; refine Con.fin (.inl rfl) (by simp only [Tryd.f14, cfgSN, resA, resA1, go_sem]; rfl) (by simp only [Obs, and_true, true_and]) (by first | (simp only [kNums, Con.of, Con.ofO, resV, h3', go_sem]; done) | fail) trivial rfl rfl))
theorem nums_sum : FSumOK Tryd.prog cfgSN.G 14 kNums.sum := Con.sumOK cfgSN_ok kNums Tryd.func14 rfl rfl (Con.of_inv _ _ _) nums_body
end
end Go.Proofs.YticgfjalikmniaaDoor
