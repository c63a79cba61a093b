/- Part of a proof: No more boxes are open than there is room for; what is acknowledged makes room for as many -/
import Derived.Test.YtlnkfdblkdhdgaaDoorP4
import Derived.Test.YtlnkfdblkdhdgaaDoorVc6
set_option linter.unusedVariables false
set_option linter.unusedSimpArgs false
set_option linter.unusedSectionVars false
namespace Go.Proofs.YtlnkfdblkdhdgaaDoor
open Go.Vc Go.Proofs
set_option maxRecDepth 10000
set_option maxHeartbeats 4000000
structure PP where
  s : SS
  key : List UInt8
  sd : UInt64
  sn : UInt64
  ex : UInt64
  N : Nat
  i : Nat
  len : Nat
  xs : List (List UInt8)
def ppM (s : SS) (key : List UInt8) (sd sn ex : UInt64) (N i len : Nat) (xs : List (List UInt8)) : PP := ⟨s, key, sd, sn, ex, N, i, len, xs⟩
theorem ppM_eta (p : PP) : ppM p.s p.key p.sd p.sn p.ex p.N p.i p.len p.xs = p := rfl
theorem ppM_s (s : SS) (key : List UInt8) (sd sn ex : UInt64) (N i len : Nat) (xs : List (List UInt8)) : (ppM s key sd sn ex N i len xs).s = s := rfl
theorem ppM_key (s : SS) (key : List UInt8) (sd sn ex : UInt64) (N i len : Nat) (xs : List (List UInt8)) : (ppM s key sd sn ex N i len xs).key = key := rfl
theorem ppM_sd (s : SS) (key : List UInt8) (sd sn ex : UInt64) (N i len : Nat) (xs : List (List UInt8)) : (ppM s key sd sn ex N i len xs).sd = sd := rfl
theorem ppM_sn (s : SS) (key : List UInt8) (sd sn ex : UInt64) (N i len : Nat) (xs : List (List UInt8)) : (ppM s key sd sn ex N i len xs).sn = sn := rfl
theorem ppM_ex (s : SS) (key : List UInt8) (sd sn ex : UInt64) (N i len : Nat) (xs : List (List UInt8)) : (ppM s key sd sn ex N i len xs).ex = ex := rfl
theorem ppM_N (s : SS) (key : List UInt8) (sd sn ex : UInt64) (N i len : Nat) (xs : List (List UInt8)) : (ppM s key sd sn ex N i len xs).N = N := rfl
theorem ppM_i (s : SS) (key : List UInt8) (sd sn ex : UInt64) (N i len : Nat) (xs : List (List UInt8)) : (ppM s key sd sn ex N i len xs).i = i := rfl
theorem ppM_len (s : SS) (key : List UInt8) (sd sn ex : UInt64) (N i len : Nat) (xs : List (List UInt8)) : (ppM s key sd sn ex N i len xs).len = len := rfl
theorem ppM_xs (s : SS) (key : List UInt8) (sd sn ex : UInt64) (N i len : Nat) (xs : List (List UInt8)) : (ppM s key sd sn ex N i len xs).xs = xs := rfl
abbrev plQ : List QK := [.p slF, .f k16, .f (.int .u64), .f (.int .u64), .f (.int .u64), .s (.slice true (.int .u8))]
@[reducible] def plM (x : QT plQ) : PP := ppM (slM x.1) x.2.1 x.2.2.1 x.2.2.2.1 x.2.2.2.2.1 x.2.2.2.2.2.1.N x.2.2.2.2.2.1.i x.2.2.2.2.2.1.len x.2.2.2.2.2.1.xs
def PP.out (p : PP) : List (List UInt8) := List.take p.len (List.drop p.i p.xs)
def PP.pay (p : PP) (n a : UInt64) (d : List UInt8) : List UInt8 := jnF (tgF 41 [numS p.sd, numS n, numS a, d])
def PP.bx (p : PP) (n a : UInt64) (d : List UInt8) : List UInt8 := p.s.box p.key 6 (p.pay n a d)
def PP.bxS (p : PP) (n a : UInt64) (d : List UInt8) : PP := ⟨p.s.put p.key 6 (p.pay n a d), p.key, p.sd, p.sn, p.ex, p.N, p.i, p.len, p.xs⟩
def PP.fin (p : PP) : List Slot := List.map Slot.live [.agg [.ptr 1 [] 0, .pure k16 (p).key, .int .u64 (p).sd, .int .u64 (p).sn, .int .u64 (p).ex, .tsl 3 [] (p).i (p).i 1 (p).len], .agg [.bool (p).s.sy, .pure k16 (p).s.seed, .int .u64 (p).s.dr, .int .u64 (p).s.cn, .tsl 2 [] 0 0 18 (List.length (α := tmK.T) (p).s.ts)], .pure (.arr (List.length (α := tmK.T) (p).s.ts) tmK) (p).s.ts, .pure (.arr (p).N (.slice true (.int .u8))) (p).xs]
def pipT : TyI := ⟨.st [(25, 0, 1), (28, 1, 16), (83, 17, 1), (83, 18, 1), (83, 19, 1), (33, 20, 1)], 21, 72, .agg [.nilp, .pure k16 (Kd.dflt k16), .int .u64 0, .int .u64 0, .int .u64 0, .nilsl], none, false⟩
theorem pipOK : TyOK Tryd.prog 88 pipT :=
  TyOK.of (td := .st [(25, 0, 1), (28, 1, 16), (83, 17, 1), (83, 18, 1), (83, 19, 1), (33, 20, 1)]) (Z := .agg #[.pointer none, .int .u8 0, .int .u8 0, .int .u8 0, .int .u8 0, .int .u8 0, .int .u8 0, .int .u8 0, .int .u8 0, .int .u8 0, .int .u8 0, .int .u8 0, .int .u8 0, .int .u8 0, .int .u8 0, .int .u8 0, .int .u8 0, .int .u64 0, .int .u64 0, .int .u64 0, .slice none 0 0])
    ⟨_, Tryd.underlying88, by kernel_rfl, by kernel_rfl⟩ (by kernel_rfl)
    (fun c => .agg _ _ rfl (.agg _ _ (.cons .nilp _ [.pointer none] _ .nilp (.cons (.pure k16 (Kd.dflt k16)) _ (List.replicate 16 (.int .u8 0)) _ (RC.ofKd (Kd.zero_reads k16)) (.cons _ _ [.int .u64 0] _ (.int .u64 0) (.cons _ _ [.int .u64 0] _ (.int .u64 0) (.cons _ _ [.int .u64 0] _ (.int .u64 0) (.cons .nilsl _ [.slice none 0 0] [] .nilsl .nil))))))))
    fun d hd => by cases hd
def withP (T : TypeId → Option TyI) : TypeId → Option TyI := fun t => if t = 88 then some pipT else if t = 30 then some (.ptr1 88) else if t = 91 then some (.kd1 (.arr 3 83) (.arr 3 (.int .u64)) 24) else T t
theorem withP_ok {T : TypeId → Option TyI} (h : TysOK Tryd.prog T) : TysOK Tryd.prog (withP T) := by
  intro t i h1
  unfold withP at h1
  split at h1
  · rename_i e
    injection h1 with h1
    subst h1 e
    exact pipOK
  · split at h1
    · rename_i e
      injection h1 with h1
      subst h1 e
      exact TyOK.ptr1 Tryd.underlying30 (by kernel_rfl)
    · split at h1
      · rename_i e
        injection h1 with h1
        subst h1 e
        exact TyOK.kd1 (td := .arr 3 83) Tryd.underlying91 (by kernel_rfl)
      · exact h t i h1
def tyTabB : TypeId → Option TyI := withP tyTabJ
theorem tyTabB_ok : TysOK Tryd.prog tyTabB := withP_ok tyTabJ_ok
def tyTabW : TypeId → Option TyI := withP tyTabV
theorem tyTabW_ok : TysOK Tryd.prog tyTabW := withP_ok tyTabV_ok
theorem pay_len {p : PP} {n a : UInt64} {d : List UInt8} (h : d.length ≤ 1000) : (p.pay n a d).length ≤ 2000 := by
  have h1 := numS_len p.sd
  have h2 := numS_len n
  have h3 := numS_len a
  have e : p.pay n a d = flB (41, numS p.sd, ()) ++ (flB (41 + 1, numS n, ()) ++ (flB (41 + 1 + 1, numS a, ()) ++ (flB (41 + 1 + 1 + 1, d, ()) ++ []))) := rfl
  rw [e, List.append_nil, List.length_append, List.length_append, List.length_append, flB_len, flB_len, flB_len, flB_len]
  show (numS p.sd).length + 3 + ((numS n).length + 3 + ((numS a).length + 3 + (d.length + 3))) ≤ 2000
  omega
def kBx : Con := Con.ofO [.q plQ, .a (.v (.int .u64)), .a (.v (.int .u64)), .a (.v (.slice false (.int .u8)))] [2]
  (fun x => [x.1.1.2.2.2.2.1.i = 0, x.1.1.2.2.2.2.1.len = x.1.1.2.2.2.2.1.N, List.length (α := tmK.T) x.1.1.2.2.2.2.1.xs = x.1.1.2.2.2.2.1.N, x.1.1.2.2.2.2.1.N ≤ 1000000, List.length (α := UInt8) x.1.2.1 = 16, List.length (α := UInt8) x.2.2.2.1 ≤ 1000])
  (fun x => ⟨.pure (.slice true (.int .u8)) ((plM x.1).bx x.2.1 x.2.2.1 x.2.2.2.1), [.agg [.ptr 1 [] 0, .pure k16 (plM x.1).key, .int .u64 (plM x.1).sd, .int .u64 (plM x.1).sn, .int .u64 (plM x.1).ex, .tsl 3 [] (plM x.1).i (plM x.1).i 1 (plM x.1).len], .agg [.bool (((plM x.1).bxS x.2.1 x.2.2.1 x.2.2.2.1).s).sy, .pure k16 (((plM x.1).bxS x.2.1 x.2.2.1 x.2.2.2.1).s).seed, .int .u64 (((plM x.1).bxS x.2.1 x.2.2.1 x.2.2.2.1).s).dr, .int .u64 (((plM x.1).bxS x.2.1 x.2.2.1 x.2.2.2.1).s).cn, .tsl 2 [] 0 0 18 (List.length (α := tmK.T) (((plM x.1).bxS x.2.1 x.2.2.1 x.2.2.2.1).s).ts)], .pure (.arr (List.length (α := tmK.T) (((plM x.1).bxS x.2.1 x.2.2.1 x.2.2.2.1).s).ts) tmK) (((plM x.1).bxS x.2.1 x.2.2.1 x.2.2.2.1).s).ts, .pure (.arr (plM x.1).N (.slice true (.int .u8))) (plM x.1).xs]⟩)
def cfgPC : Cfg2 := { ty := tyTabB, fn := fun | 66 => some kNumP.sum | 44 => some kJoin.sum | 43 => some kSeal.sum | _ => none, G := shaG, pin := [], eq := fun _ => none }
theorem cfgPC_ok : CfgOK Tryd.prog cfgPC := ⟨tyTabB_ok, (fun f s h => by
  simp only [cfgPC] at h
  split at h
  · injection h with h; subst h; exact .inl numP_sum
  · injection h with h; subst h; exact .inl pjn_sum
  · injection h with h; subst h; exact .inl seal_sum
  · cases h), (fun t d h => by cases h)⟩
section
attribute [local go_sem] Tryd.f38 kBx kNumP kJoin kSeal cfgPC tyTabB withP tyTabJ tyTabS pipT ssM_eta slM ppM_eta plM ppM_s ppM_key ppM_sd ppM_sn ppM_ex ppM_N ppM_i ppM_len ppM_xs
theorem pbx_body (p : kBx.Par) (hp : ∀ q ∈ kBx.pre p, q) : BodyOK Tryd.prog cfgPC Tryd.f38 (Tryd.f38.body.get rfl) kBx p := by
  obtain ⟨⟨⟨(sy : Bool), (seed : List UInt8), (dr : UInt64), (cn : UInt64), ⟨N, i0, len, (ts : List tmK.T)⟩, u1⟩, (key : List UInt8), (sd : UInt64), (sn : UInt64), (ex : UInt64), ⟨M, oi, ol, (xs : List (List UInt8))⟩, u2⟩, (n : UInt64), (a : UInt64), (d : List UInt8), u⟩ := p
  obtain ⟨h0, h1, h2, h3, h4, h5, _⟩ := Obs.of hp
  replace h0 : i0 = 0 := h0
  replace h1 : len = N := h1
  replace h2 : ts.length = N := h2
  replace h3 : N ≤ 1000000 := h3
  replace h4 : key.length = 16 := h4
  replace h5 : d.length ≤ 1000 := h5
  subst h0 h1 h2
  refine ⟨?_, Nat.le_refl _, rfl, rfl⟩
  show Tri _ _ _ (Code.seq _ (Code.seq _ (Code.seq _ _))) _
  have hv : ∀ v ∈ [numS sd, numS n, numS a, d], List.length v ≤ 65535 := by
    have h1 := numS_len sd
    have h2 := numS_len n
    have h3 := numS_len a
    intro v hv
    simp only [List.mem_cons, List.not_mem_nil, or_false] at hv
    rcases hv with rfl | rfl | rfl | rfl <;> omega
  have hy : (ppM (ssM sy seed dr cn ts) key sd sn ex M oi ol xs).pay n a d = jnF (tgF 41 [numS sd, numS n, numS a, d]) := rfl
  have hpl := pay_len (p := ppM (ssM sy seed dr cn ts) key sd sn ex M oi ol xs) (n := n) (a := a) h5
  rw [hy] at hpl
  generalize hP : jnF (tgF 41 [numS sd, numS n, numS a, d]) = P at *
  have e3 : (ppM (ssM sy seed dr cn ts) key sd sn ex M oi ol xs).bxS n a d = ⟨(ssM sy seed dr cn ts).put key 6 P, key, sd, sn, ex, M, oi, ol, xs⟩ := by
    unfold PP.bxS
    rw [hy]
    rfl
  refine Tri.at (by first | (simp only [hP, Con.start, go_sem]; rfl) | rfl) ?_
  repeat (first | ((first | refine Tri.seq (Tri.regT (cfgPC_ok.pins _) ?_) | refine Tri.rgnT (cfgPC_ok.pins _) ?_); (repeat (first | refine RunT.oneA (hp := by simp (maxSteps := 2000000) (disch := first | decide | omega | (simp only [List.length_append, List.length_cons, List.length_nil, List.length_take, List.length_drop]; omega)) only [hP, go_sem]; rfl) (h := ?_) | refine RunT.notA (h := ?_))); refine RunT.nil ?_; try simp only [InBlock, Then]) | ((first | refine Tri.seq (Tri.drwT (mixed) (cfgPC_ok.pins _) ?_) | refine Tri.drnT (mixed) (cfgPC_ok.pins _) ?_); (repeat (first | refine RunD.oneA (hp := by simp (maxSteps := 2000000) (disch := first | decide | omega | (simp only [List.length_append, List.length_cons, List.length_nil, List.length_take, List.length_drop]; omega)) only [hP, go_sem]; rfl) (h := ?_) | refine RunD.notA (h := ?_))); refine RunD.nil ?_; refine ⟨by kernel_rfl, ?_⟩; try simp only [InBlock, Then]) | refine Tri.cF (by first | (simp only [hP, go_sem]; done) | fail) ?_ | refine Tri.cT (by first | (simp only [hP, go_sem]; done) | fail) ?_ | (refine Tri.skip ?_; try simp only [InBlock, Then]) | (refine Tri.exit ?_; simp only [Then, InBlock, if_true, if_false, ↓reduceIte, Nat.reduceEqDiff]) | refine Tri.seq (Tri.block ?_) | refine Tri.block ?_ | refine Tri.seq ?_ | (refine Tri.ret ?_; refine Con.fin (.inl rfl) (by simp only [Tryd.f38, cfgPC, resA, resA1, go_sem]; rfl) (by simp only [Obs, and_true, true_and]) (by first | (simp only [kBx, Con.of, Con.ofO, resV, hP, go_sem]; done) | fail) trivial rfl rfl))
  refine Tri.ret ?_
  refine Con.fin (.inl rfl) (by simp only [Tryd.f38, cfgPC, resA, resA1, go_sem]; rfl) (by simp only [Obs, and_true, true_and]) ?_ ?_ rfl rfl
  · exact congrArg (fun z => AV.pure (.slice true (.int .u8)) ((ssM sy seed dr cn ts).box key 6 z)) hy.symm
  · show lessHs _ [_, Slot.live (.agg [.bool ((ppM (ssM sy seed dr cn ts) key sd sn ex M oi ol xs).bxS n a d).s.sy, .pure k16 ((ppM (ssM sy seed dr cn ts) key sd sn ex M oi ol xs).bxS n a d).s.seed, .int .u64 ((ppM (ssM sy seed dr cn ts) key sd sn ex M oi ol xs).bxS n a d).s.dr, .int .u64 ((ppM (ssM sy seed dr cn ts) key sd sn ex M oi ol xs).bxS n a d).s.cn, .tsl 2 [] 0 0 18 (List.length (α := tmK.T) ((ppM (ssM sy seed dr cn ts) key sd sn ex M oi ol xs).bxS n a d).s.ts)]), Slot.live (.pure (.arr (List.length (α := tmK.T) ((ppM (ssM sy seed dr cn ts) key sd sn ex M oi ol xs).bxS n a d).s.ts) tmK) ((ppM (ssM sy seed dr cn ts) key sd sn ex M oi ol xs).bxS n a d).s.ts), _]
    rw [e3]
    exact ⟨rfl, rfl, rfl, rfl, trivial⟩
theorem pbx_sum : FSumOK Tryd.prog cfgPC.G 38 kBx.sum := Con.sumOK cfgPC_ok kBx Tryd.func38 rfl rfl (Con.ofO_inv _ _ _ _) pbx_body
end
def kBxK : SumK := keepS [3, 0] kBx.sum
theorem bxK_sum : FSumOK Tryd.prog shaG 38 kBxK.sum := pbx_sum.keep [3, 0]
end Go.Proofs.YtlnkfdblkdhdgaaDoor

namespace Go.Proofs.YtlnkfdblkdhdgaaDoor
open Go.Vc Go.Proofs
set_option maxRecDepth 10000
set_option maxHeartbeats 4000000
def sdN (n : Int) : UInt64 := if n = 0 then 0 else 1
def PP.new (s : SS) (key : List UInt8) (n : Int) : PP := ppM s key (sdN n) 0 1 0 0 0 []
def kNewP : Con := Con.ofO [.o slF, .a (.v k16), .a (.v (.int .i64))] [] (fun x => [x.1.2.2.2.2.1.i = 0, x.1.2.2.2.2.1.len = x.1.2.2.2.2.1.N, List.length (α := tmK.T) x.1.2.2.2.2.1.xs = x.1.2.2.2.2.1.N])
  (fun x => ⟨.ptr 2 [] 0, [.agg [.bool (slM x.1).sy, .pure k16 (slM x.1).seed, .int .u64 (slM x.1).dr, .int .u64 (slM x.1).cn, .tsl 1 [] 0 0 18 (List.length (α := tmK.T) (slM x.1).ts)], .pure (.arr (List.length (α := tmK.T) (slM x.1).ts) tmK) (slM x.1).ts,
    .agg [.ptr 0 [] 0, .pure k16 (PP.new (slM x.1) x.2.1 (toI .i64 x.2.2.1)).key, .int .u64 (PP.new (slM x.1) x.2.1 (toI .i64 x.2.2.1)).sd, .int .u64 (PP.new (slM x.1) x.2.1 (toI .i64 x.2.2.1)).sn, .int .u64 (PP.new (slM x.1) x.2.1 (toI .i64 x.2.2.1)).ex, .tsl 3 [] (PP.new (slM x.1) x.2.1 (toI .i64 x.2.2.1)).i (PP.new (slM x.1) x.2.1 (toI .i64 x.2.2.1)).i 1 (PP.new (slM x.1) x.2.1 (toI .i64 x.2.2.1)).len],
    .pure (.arr (PP.new (slM x.1) x.2.1 (toI .i64 x.2.2.1)).N (.slice true (.int .u8))) (PP.new (slM x.1) x.2.1 (toI .i64 x.2.2.1)).xs]⟩)
def cfgPD : Cfg2 := { ty := tyTabW, fn := fun | 38 => some kBxK.sum | 39 => some kClo.sum | _ => none, G := shaG, pin := [], eq := fun _ => none }
theorem cfgPD_ok : CfgOK Tryd.prog cfgPD := ⟨tyTabW_ok, (fun f s h => by
  simp only [cfgPD] at h
  split at h
  · injection h with h; subst h; exact .inl bxK_sum
  · injection h with h; subst h; exact .inl clo_sum
  · cases h), (fun t d h => by cases h)⟩
section
attribute [local go_sem] Tryd.f16 kNewP cfgPD tyTabW withP tyTabV tyTabM tyTabS pipT ssM_eta slM
theorem pnw_body (p : kNewP.Par) (hp : ∀ q ∈ kNewP.pre p, q) : BodyOK Tryd.prog cfgPD Tryd.f16 (Tryd.f16.body.get rfl) kNewP p := by
  obtain ⟨⟨(sy : Bool), (seed : List UInt8), (dr : UInt64), (cn : UInt64), ⟨N, i0, len, (ts : List tmK.T)⟩, u1⟩, (key : List UInt8), (n : Int), u⟩ := p
  obtain ⟨h0, h1, h2, _⟩ := Obs.of hp
  replace h0 : i0 = 0 := h0
  replace h1 : len = N := h1
  replace h2 : ts.length = N := h2
  subst h0 h1 h2
  refine ⟨?_, (by show 2 ≤ 4; omega), rfl, rfl⟩
  show Tri _ _ _ (Code.seq _ (Code.seq _ (Code.seq (Code.seq _ (Code.cond _ _ _)) (Code.seq _ _)))) _
  by_cases hn : n = 0
  · have hn' : decide (n = 0) = true := decide_eq_true hn
    have e1 : sdN n = 0 := if_pos hn
    refine Tri.at (by first | (simp only [hn', phS, Con.start, go_sem]; rfl) | rfl) ?_
    repeat (first | ((first | refine Tri.seq (Tri.regT (cfgPD_ok.pins _) ?_) | refine Tri.rgnT (cfgPD_ok.pins _) ?_); (repeat (first | refine RunT.oneA (hp := by simp (maxSteps := 2000000) (disch := first | decide | omega | (simp only [List.length_append, List.length_cons, List.length_nil, List.length_take, List.length_drop]; omega)) only [hn', phS, go_sem]; rfl) (h := ?_) | refine RunT.notA (h := ?_))); refine RunT.nil ?_; try simp only [InBlock, Then]) | refine Tri.cF (by first | (simp only [hn', phS, go_sem]; done) | fail) ?_ | refine Tri.cT (by first | (simp only [hn', phS, go_sem]; done) | fail) ?_ | (refine Tri.skip ?_; try simp only [InBlock, Then]) | (refine Tri.exit ?_; simp only [Then, InBlock, if_true, if_false, ↓reduceIte, Nat.reduceEqDiff]) | refine Tri.seq (Tri.block ?_) | refine Tri.block ?_ | refine Tri.seq ?_ | (refine Tri.ret ?_; refine Con.fin (.inl rfl) (by simp only [Tryd.f16, cfgPD, resA, resA1, go_sem]; rfl) (by simp only [Obs, and_true, true_and]) (by first | (simp only [kNewP, Con.of, Con.ofO, resV, hn', phS, go_sem]; done) | fail) trivial rfl rfl))
    refine Tri.ph 3 5 (.slice true (.int .u8)) 1 (l := [.ptr 0 [] 0, .pure k16 key, .int .u64 0, .int .u64 0, .int .u64 1, .nilsl]) rfl rfl rfl ?_
    refine Tri.at (by first | (simp only [hn', phS, Con.start, go_sem]; rfl) | rfl) ?_
    refine Tri.mv 2 3 (by decide) (by simp only [AS.blk, go_sem]; intro e; cases e) rfl rfl ?_
    refine Tri.at (by first | (simp only [hn', phS, Con.start, go_sem]; rfl) | rfl) ?_
    refine Tri.mv 3 4 (by decide) (by simp only [AS.blk, go_sem]; intro e; cases e) rfl rfl ?_
    refine Tri.at (by first | (simp only [hn', phS, Con.start, go_sem]; rfl) | rfl) ?_
    refine Tri.ret ?_
    refine Con.fin (.inl rfl) (by simp only [Tryd.f16, cfgPD, resA, resA1, go_sem]; rfl) (by simp only [Obs, and_true, true_and]) ?_ ?_ rfl rfl
    · rfl
    · show lessHs _ [_, _, Slot.live (.agg [.ptr 0 [] 0, .pure k16 key, .int .u64 (sdN n), .int .u64 0, .int .u64 1, .tsl 3 [] 0 0 1 0]), Slot.live (.pure (.arr 0 (.slice true (.int .u8))) [])]
      rw [e1]
      exact ⟨rfl, rfl, rfl, rfl, trivial⟩
  · have hn' : decide (n = 0) = false := decide_eq_false hn
    have e1 : sdN n = 1 := if_neg hn
    refine Tri.at (by first | (simp only [hn', phS, Con.start, go_sem]; rfl) | rfl) ?_
    repeat (first | ((first | refine Tri.seq (Tri.regT (cfgPD_ok.pins _) ?_) | refine Tri.rgnT (cfgPD_ok.pins _) ?_); (repeat (first | refine RunT.oneA (hp := by simp (maxSteps := 2000000) (disch := first | decide | omega | (simp only [List.length_append, List.length_cons, List.length_nil, List.length_take, List.length_drop]; omega)) only [hn', phS, go_sem]; rfl) (h := ?_) | refine RunT.notA (h := ?_))); refine RunT.nil ?_; try simp only [InBlock, Then]) | refine Tri.cF (by first | (simp only [hn', phS, go_sem]; done) | fail) ?_ | refine Tri.cT (by first | (simp only [hn', phS, go_sem]; done) | fail) ?_ | (refine Tri.skip ?_; try simp only [InBlock, Then]) | (refine Tri.exit ?_; simp only [Then, InBlock, if_true, if_false, ↓reduceIte, Nat.reduceEqDiff]) | refine Tri.seq (Tri.block ?_) | refine Tri.block ?_ | refine Tri.seq ?_ | (refine Tri.ret ?_; refine Con.fin (.inl rfl) (by simp only [Tryd.f16, cfgPD, resA, resA1, go_sem]; rfl) (by simp only [Obs, and_true, true_and]) (by first | (simp only [kNewP, Con.of, Con.ofO, resV, hn', phS, go_sem]; done) | fail) trivial rfl rfl))
    refine Tri.ph 3 5 (.slice true (.int .u8)) 1 (l := [.ptr 0 [] 0, .pure k16 key, .int .u64 1, .int .u64 0, .int .u64 1, .nilsl]) rfl rfl rfl ?_
    refine Tri.at (by first | (simp only [hn', phS, Con.start, go_sem]; rfl) | rfl) ?_
    refine Tri.mv 2 3 (by decide) (by simp only [AS.blk, go_sem]; intro e; cases e) rfl rfl ?_
    refine Tri.at (by first | (simp only [hn', phS, Con.start, go_sem]; rfl) | rfl) ?_
    refine Tri.mv 3 4 (by decide) (by simp only [AS.blk, go_sem]; intro e; cases e) rfl rfl ?_
    refine Tri.at (by first | (simp only [hn', phS, Con.start, go_sem]; rfl) | rfl) ?_
    refine Tri.ret ?_
    refine Con.fin (.inl rfl) (by simp only [Tryd.f16, cfgPD, resA, resA1, go_sem]; rfl) (by simp only [Obs, and_true, true_and]) ?_ ?_ rfl rfl
    · rfl
    · show lessHs _ [_, _, Slot.live (.agg [.ptr 0 [] 0, .pure k16 key, .int .u64 (sdN n), .int .u64 0, .int .u64 1, .tsl 3 [] 0 0 1 0]), Slot.live (.pure (.arr 0 (.slice true (.int .u8))) [])]
      rw [e1]
      exact ⟨rfl, rfl, rfl, rfl, trivial⟩
theorem pnw_sum : FSumOK Tryd.prog cfgPD.G 16 kNewP.sum := Con.sumOK cfgPD_ok kNewP Tryd.func16 rfl rfl (Con.ofO_inv _ _ _ _) pnw_body
end
def PP.snd (p : PP) (d : List UInt8) : PP :=
  if 1000 < d.length then p else if 8 ≤ p.len then p else
  ⟨p.s.put p.key 6 (p.pay (p.sn + 1) 0 d), p.key, p.sd, p.sn + 1, p.ex, p.len + 1, 0, p.len + 1, p.out ++ [p.bx (p.sn + 1) 0 d]⟩
def PP.sndE (p : PP) (d : List UInt8) : Int := if 1000 < d.length then 23 else if 8 ≤ p.len then 2 else 0
def kSnd : Con := Con.ofO [.q plQ, .a (.v (.slice false (.int .u8)))] [2, 3]
  (fun x => [x.1.1.2.2.2.2.1.i = 0, x.1.1.2.2.2.2.1.len = x.1.1.2.2.2.2.1.N, List.length (α := tmK.T) x.1.1.2.2.2.2.1.xs = x.1.1.2.2.2.2.1.N, x.1.1.2.2.2.2.1.N ≤ 1000000, List.length (α := UInt8) x.1.2.1 = 16, x.1.2.2.2.2.2.1.i + x.1.2.2.2.2.2.1.len ≤ x.1.2.2.2.2.2.1.N, List.length (α := List UInt8) x.1.2.2.2.2.2.1.xs = x.1.2.2.2.2.2.1.N])
  (fun x => ⟨.int .i64 ((plM x.1).sndE x.2.1), [.agg [.ptr 1 [] 0, .pure k16 ((plM x.1).snd x.2.1).key, .int .u64 ((plM x.1).snd x.2.1).sd, .int .u64 ((plM x.1).snd x.2.1).sn, .int .u64 ((plM x.1).snd x.2.1).ex, .tsl 3 [] ((plM x.1).snd x.2.1).i ((plM x.1).snd x.2.1).i 1 ((plM x.1).snd x.2.1).len], .agg [.bool ((plM x.1).snd x.2.1).s.sy, .pure k16 ((plM x.1).snd x.2.1).s.seed, .int .u64 ((plM x.1).snd x.2.1).s.dr, .int .u64 ((plM x.1).snd x.2.1).s.cn, .tsl 2 [] 0 0 18 (List.length (α := tmK.T) ((plM x.1).snd x.2.1).s.ts)], .pure (.arr (List.length (α := tmK.T) ((plM x.1).snd x.2.1).s.ts) tmK) ((plM x.1).snd x.2.1).s.ts, .pure (.arr ((plM x.1).snd x.2.1).N (.slice true (.int .u8))) ((plM x.1).snd x.2.1).xs]⟩)
section
attribute [local go_sem] Tryd.f17 kSnd kBx kBxK cfgPD tyTabW withP tyTabV tyTabM tyTabS pipT ssM_eta slM ppM_eta plM ppM_s ppM_key ppM_sd ppM_sn ppM_ex ppM_N ppM_i ppM_len ppM_xs
theorem psd_body (p : kSnd.Par) (hp : ∀ q ∈ kSnd.pre p, q) : BodyOK Tryd.prog cfgPD Tryd.f17 (Tryd.f17.body.get rfl) kSnd p := by
  obtain ⟨⟨⟨(sy : Bool), (seed : List UInt8), (dr : UInt64), (cn : UInt64), ⟨N, i0, len, (ts : List tmK.T)⟩, u1⟩, (key : List UInt8), (sd : UInt64), (sn : UInt64), (ex : UInt64), ⟨M, oi, ol, (xs : List (List UInt8))⟩, u2⟩, (d : List UInt8), u⟩ := p
  obtain ⟨h0, h1, h2, h3, h4, h5, h6, _⟩ := Obs.of hp
  replace h0 : i0 = 0 := h0
  replace h1 : len = N := h1
  replace h2 : ts.length = N := h2
  replace h3 : N ≤ 1000000 := h3
  replace h4 : key.length = 16 := h4
  replace h5 : oi + ol ≤ M := h5
  replace h6 : xs.length = M := h6
  subst h0 h1 h2
  refine ⟨?_, Nat.le_refl _, rfl, rfl⟩
  show Tri _ _ _ (Code.seq _ (Code.seq (Code.block _ (Code.seq _ (Code.cond _ (Code.seq _ _) (Code.seq _ (Code.cond _ (Code.seq _ _) _))))) (Code.seq _ (Code.seq _ (Code.seq _ _))))) _
  obtain ⟨q, hq⟩ : ∃ q : PP, q = ppM (ssM sy seed dr cn ts) key sd sn ex M oi ol xs := ⟨_, rfl⟩
  by_cases k1 : 1000 < d.length
  · have k1' : decide ((1000 : Int) < (d.length : Int)) = true := decide_eq_true (by omega)
    have e1 : (ppM (ssM sy seed dr cn ts) key sd sn ex M oi ol xs).snd d = ppM (ssM sy seed dr cn ts) key sd sn ex M oi ol xs := if_pos k1
    have e2 : (ppM (ssM sy seed dr cn ts) key sd sn ex M oi ol xs).sndE d = 23 := if_pos k1
    refine Tri.at (by first | (simp only [k1', Con.start, go_sem]; rfl) | rfl) ?_
    repeat (first | ((first | refine Tri.seq (Tri.regT (cfgPD_ok.pins _) ?_) | refine Tri.rgnT (cfgPD_ok.pins _) ?_); (repeat (first | refine RunT.oneA (hp := by simp (maxSteps := 2000000) (disch := first | decide | omega | (simp only [List.length_append, List.length_cons, List.length_nil, List.length_take, List.length_drop]; omega)) only [k1', go_sem]; rfl) (h := ?_) | refine RunT.notA (h := ?_))); refine RunT.nil ?_; try simp only [InBlock, Then]) | refine Tri.cF (by first | (simp only [k1', go_sem]; done) | fail) ?_ | refine Tri.cT (by first | (simp only [k1', go_sem]; done) | fail) ?_ | (refine Tri.skip ?_; try simp only [InBlock, Then]) | (refine Tri.exit ?_; simp only [Then, InBlock, if_true, if_false, ↓reduceIte, Nat.reduceEqDiff]) | refine Tri.seq (Tri.block ?_) | refine Tri.block ?_ | refine Tri.seq ?_ | (refine Tri.ret ?_; refine Con.fin (.inl rfl) (by simp only [Tryd.f17, cfgPD, resA, resA1, go_sem]; rfl) (by simp only [Obs, and_true, true_and]) (by first | (simp only [kSnd, Con.of, Con.ofO, resV, k1', go_sem]; done) | fail) trivial rfl rfl))
    refine Tri.ret ?_
    refine Con.fin (.inl rfl) (by simp only [Tryd.f17, cfgPD, resA, resA1, go_sem]; rfl) (by simp only [Obs, and_true, true_and]) ?_ ?_ rfl rfl
    · exact congrArg (AV.int .i64) e2.symm
    · show lessHs _ ((ppM (ssM sy seed dr cn ts) key sd sn ex M oi ol xs).snd d).fin
      rw [e1]
      exact ⟨rfl, rfl, rfl, rfl, trivial⟩
  have k1' : decide ((1000 : Int) < (d.length : Int)) = false := decide_eq_false (by omega)
  by_cases k2 : 8 ≤ ol
  · have k2' : decide ((ol : Int) < 8) = false := decide_eq_false (by omega)
    have e1 : (ppM (ssM sy seed dr cn ts) key sd sn ex M oi ol xs).snd d = ppM (ssM sy seed dr cn ts) key sd sn ex M oi ol xs := (if_neg k1).trans (if_pos k2)
    have e2 : (ppM (ssM sy seed dr cn ts) key sd sn ex M oi ol xs).sndE d = 2 := (if_neg k1).trans (if_pos k2)
    refine Tri.at (by first | (simp only [k1', k2', Con.start, go_sem]; rfl) | rfl) ?_
    repeat (first | ((first | refine Tri.seq (Tri.regT (cfgPD_ok.pins _) ?_) | refine Tri.rgnT (cfgPD_ok.pins _) ?_); (repeat (first | refine RunT.oneA (hp := by simp (maxSteps := 2000000) (disch := first | decide | omega | (simp only [List.length_append, List.length_cons, List.length_nil, List.length_take, List.length_drop]; omega)) only [k1', k2', go_sem]; rfl) (h := ?_) | refine RunT.notA (h := ?_))); refine RunT.nil ?_; try simp only [InBlock, Then]) | refine Tri.cF (by first | (simp only [k1', k2', go_sem]; done) | fail) ?_ | refine Tri.cT (by first | (simp only [k1', k2', go_sem]; done) | fail) ?_ | (refine Tri.skip ?_; try simp only [InBlock, Then]) | (refine Tri.exit ?_; simp only [Then, InBlock, if_true, if_false, ↓reduceIte, Nat.reduceEqDiff]) | refine Tri.seq (Tri.block ?_) | refine Tri.block ?_ | refine Tri.seq ?_ | (refine Tri.ret ?_; refine Con.fin (.inl rfl) (by simp only [Tryd.f17, cfgPD, resA, resA1, go_sem]; rfl) (by simp only [Obs, and_true, true_and]) (by first | (simp only [kSnd, Con.of, Con.ofO, resV, k1', k2', go_sem]; done) | fail) trivial rfl rfl))
    refine Tri.ret ?_
    refine Con.fin (.inl rfl) (by simp only [Tryd.f17, cfgPD, resA, resA1, go_sem]; rfl) (by simp only [Obs, and_true, true_and]) ?_ ?_ rfl rfl
    · exact congrArg (AV.int .i64) e2.symm
    · show lessHs _ ((ppM (ssM sy seed dr cn ts) key sd sn ex M oi ol xs).snd d).fin
      rw [e1]
      exact ⟨rfl, rfl, rfl, rfl, trivial⟩
  have k2' : decide ((ol : Int) < 8) = true := decide_eq_true (by omega)
  have e2 : (ppM (ssM sy seed dr cn ts) key sd sn ex M oi ol xs).sndE d = 0 := (if_neg k1).trans (if_neg k2)
  have e1 : (ppM (ssM sy seed dr cn ts) key sd sn ex M oi ol xs).snd d = ⟨(ssM sy seed dr cn ts).put key 6 ((ppM (ssM sy seed dr cn ts) key sd (sn + 1) ex M oi ol xs).pay (sn + 1) 0 d), key, sd, sn + 1, ex, ol + 1, 0, ol + 1, List.take ol (List.drop oi xs) ++ [(ppM (ssM sy seed dr cn ts) key sd (sn + 1) ex M oi ol xs).bx (sn + 1) 0 d]⟩ := (if_neg k1).trans (if_neg k2)
  refine Tri.at (by first | (simp only [k1', k2', Con.start, go_sem]; rfl) | rfl) ?_
  repeat (first | ((first | refine Tri.seq (Tri.regT (cfgPD_ok.pins _) ?_) | refine Tri.rgnT (cfgPD_ok.pins _) ?_); (repeat (first | refine RunT.oneA (hp := by simp (maxSteps := 2000000) (disch := first | decide | omega | (simp only [List.length_append, List.length_cons, List.length_nil, List.length_take, List.length_drop]; omega)) only [k1', k2', go_sem]; rfl) (h := ?_) | refine RunT.notA (h := ?_))); refine RunT.nil ?_; try simp only [InBlock, Then]) | ((first | refine Tri.seq (Tri.drwT (mixed) (cfgPD_ok.pins _) ?_) | refine Tri.drnT (mixed) (cfgPD_ok.pins _) ?_); (repeat (first | refine RunD.oneA (hp := by simp (maxSteps := 2000000) (disch := first | decide | omega | (simp only [List.length_append, List.length_cons, List.length_nil, List.length_take, List.length_drop]; omega)) only [k1', k2', go_sem]; rfl) (h := ?_) | refine RunD.notA (h := ?_))); refine RunD.nil ?_; refine ⟨by kernel_rfl, ?_⟩; try simp only [InBlock, Then]) | refine Tri.cF (by first | (simp only [k1', k2', go_sem]; done) | fail) ?_ | refine Tri.cT (by first | (simp only [k1', k2', go_sem]; done) | fail) ?_ | (refine Tri.skip ?_; try simp only [InBlock, Then]) | (refine Tri.exit ?_; simp only [Then, InBlock, if_true, if_false, ↓reduceIte, Nat.reduceEqDiff]) | refine Tri.seq (Tri.block ?_) | refine Tri.block ?_ | refine Tri.seq ?_ | (refine Tri.ret ?_; refine Con.fin (.inl rfl) (by simp only [Tryd.f17, cfgPD, resA, resA1, go_sem]; rfl) (by simp only [Obs, and_true, true_and]) (by first | (simp only [kSnd, Con.of, Con.ofO, resV, k1', k2', go_sem]; done) | fail) trivial rfl rfl))
  refine Tri.ret ?_
  refine Con.fin (.inl rfl) (by simp only [Tryd.f17, cfgPD, resA, resA1, go_sem]; rfl) (by simp only [Obs, and_true, true_and]) ?_ ?_ rfl rfl
  · exact congrArg (AV.int .i64) e2.symm
  · show lessHs _ ((ppM (ssM sy seed dr cn ts) key sd sn ex M oi ol xs).snd d).fin
    rw [e1]
    exact ⟨rfl, rfl, rfl, rfl, trivial⟩
theorem psd_sum : FSumOK Tryd.prog cfgPD.G 17 kSnd.sum := Con.sumOK cfgPD_ok kSnd Tryd.func17 rfl rfl (Con.ofO_inv _ _ _ _) psd_body
end
end Go.Proofs.YtlnkfdblkdhdgaaDoor

namespace Go.Proofs.YtlnkfdblkdhdgaaDoor
open Go.Vc Go.Proofs
set_option maxRecDepth 10000
set_option maxHeartbeats 4000000
theorem opB_some (d : List UInt8) : opB (some d) = d := rfl
theorem opB_none : opB none = [] := rfl
theorem opE_some (d : List UInt8) : opE (some d) = 0 := rfl
theorem opE_none : opE none = 40 := rfl
theorem out_take (xs : List (List UInt8)) (oi ol i : Nat) (h : oi + ol ≤ xs.length) (hi : i < ol) : List.take (i + 1) (List.take ol (List.drop oi xs)) = List.take i (List.take ol (List.drop oi xs)) ++ [xs.getD (oi + i) []] := by
  rw [List.take_add_one, List.getElem?_take, if_pos hi, List.getElem?_drop, List.getD_eq_getElem?_getD, List.getElem?_eq_getElem (by omega)]
  rfl
def kBxs : Con := Con.ofO [.q plQ] []
  (fun x => [x.1.1.2.2.2.2.1.i = 0, x.1.1.2.2.2.2.1.len = x.1.1.2.2.2.2.1.N, List.length (α := tmK.T) x.1.1.2.2.2.2.1.xs = x.1.1.2.2.2.2.1.N, x.1.1.2.2.2.2.1.N ≤ 1000000, List.length (α := UInt8) x.1.2.1 = 16, x.1.2.2.2.2.2.1.i + x.1.2.2.2.2.2.1.len ≤ x.1.2.2.2.2.2.1.N, List.length (α := List UInt8) x.1.2.2.2.2.2.1.xs = x.1.2.2.2.2.2.1.N, x.1.2.2.2.2.2.1.len ≤ 1000000, ∀ b ∈ x.1.2.2.2.2.2.1.xs, List.length (α := UInt8) b ≤ 100000])
  (fun x => ⟨.pure (.slice true (.slice true (.int .u8))) (plM x.1).out, [.agg [.ptr 1 [] 0, .pure k16 (plM x.1).key, .int .u64 (plM x.1).sd, .int .u64 (plM x.1).sn, .int .u64 (plM x.1).ex, .tsl 3 [] (plM x.1).i (plM x.1).i 1 (plM x.1).len], .agg [.bool (plM x.1).s.sy, .pure k16 (plM x.1).s.seed, .int .u64 (plM x.1).s.dr, .int .u64 (plM x.1).s.cn, .tsl 2 [] 0 0 18 (List.length (α := tmK.T) (plM x.1).s.ts)], .pure (.arr (List.length (α := tmK.T) (plM x.1).s.ts) tmK) (plM x.1).s.ts, .pure (.arr (plM x.1).N (.slice true (.int .u8))) (plM x.1).xs]⟩)
def cfgPE : Cfg2 := { ty := tyTabW, fn := fun | 39 => some kClo.sum | _ => none, G := shaG, pin := [], eq := fun _ => none }
theorem cfgPE_ok : CfgOK Tryd.prog cfgPE := ⟨tyTabW_ok, (fun f s h => by
  simp only [cfgPE] at h
  split at h
  · injection h with h; subst h; exact .inl clo_sum
  · cases h), (fun t d h => by cases h)⟩
section
attribute [local go_sem] Tryd.f18 kBxs kClo cfgPE tyTabW withP tyTabV tyTabM tyTabS pipT ssM_eta slM ppM_eta plM ppM_s ppM_key ppM_sd ppM_sn ppM_ex ppM_N ppM_i ppM_len ppM_xs
theorem pbs_body (p : kBxs.Par) (hp : ∀ q ∈ kBxs.pre p, q) : BodyOK Tryd.prog cfgPE Tryd.f18 (Tryd.f18.body.get rfl) kBxs p := by
  obtain ⟨⟨⟨(sy : Bool), (seed : List UInt8), (dr : UInt64), (cn : UInt64), ⟨N, i0, len, (ts : List tmK.T)⟩, u1⟩, (key : List UInt8), (sd : UInt64), (sn : UInt64), (ex : UInt64), ⟨M, oi, ol, (xs : List (List UInt8))⟩, u2⟩, u⟩ := p
  obtain ⟨h0, h1, h2, h3, h4, h5, h6, h7, h8, _⟩ := Obs.of hp
  replace h0 : i0 = 0 := h0
  replace h1 : len = N := h1
  replace h2 : ts.length = N := h2
  replace h3 : N ≤ 1000000 := h3
  replace h4 : key.length = 16 := h4
  replace h5 : oi + ol ≤ M := h5
  replace h6 : xs.length = M := h6
  replace h7 : ol ≤ 1000000 := h7
  replace h8 : ∀ b ∈ xs, List.length b ≤ 100000 := h8
  subst h0 h1 h2 h6
  refine ⟨?_, Nat.le_refl _, rfl, rfl⟩
  show Tri _ _ _ (Code.seq _ (Code.seq (Code.seq _ (Code.block _ (Code.loop (Code.seq _ (Code.seq (Code.cond _ _ _) (Code.seq (Code.block _ (Code.seq _ _)) _)))))) (Code.seq _ _))) _
  have hO : (ppM (ssM sy seed dr cn ts) key sd sn ex xs.length oi ol xs).out = List.take ol (List.drop oi xs) := rfl
  generalize hV : List.take ol (List.drop oi xs) = V at hO
  have hVl : V.length = ol := by rw [← hV, List.length_take, List.length_drop]; omega
  refine Tri.at (by first | (simp only [go_sem, Con.start, go_sem]; rfl) | rfl) ?_
  repeat (first | ((first | refine Tri.seq (Tri.regT (cfgPE_ok.pins _) ?_) | refine Tri.rgnT (cfgPE_ok.pins _) ?_); (repeat (first | refine RunT.oneA (hp := by simp (maxSteps := 2000000) (disch := first | decide | omega | (simp only [List.length_append, List.length_cons, List.length_nil, List.length_take, List.length_drop]; omega)) only [go_sem, go_sem]; rfl) (h := ?_) | refine RunT.notA (h := ?_))); refine RunT.nil ?_; try simp only [InBlock, Then]) | refine Tri.cF (by first | (simp only [go_sem, go_sem]; done) | fail) ?_ | refine Tri.cT (by first | (simp only [go_sem, go_sem]; done) | fail) ?_ | (refine Tri.skip ?_; try simp only [InBlock, Then]) | (refine Tri.exit ?_; simp only [Then, InBlock, if_true, if_false, ↓reduceIte, Nat.reduceEqDiff]) | refine Tri.seq (Tri.block ?_) | refine Tri.block ?_ | refine Tri.seq ?_ | (refine Tri.ret ?_; refine Con.fin (.inl rfl) (by simp only [Tryd.f18, cfgPE, resA, resA1, go_sem]; rfl) (by simp only [Obs, and_true, true_and]) (by first | (simp only [kBxs, Con.of, Con.ofO, resV, go_sem, go_sem]; done) | fail) trivial rfl rfl))
  refine Tri.phT 2 (.slice true (.int .u8)) 1 rfl rfl ?_
  refine Tri.at (by first | (simp only [go_sem, Con.start, go_sem]; rfl) | rfl) ?_
  refine Tri.loop (fun i : Nat => (⟨[some (.ptr 0 [] 0), none, some (.tsl 4 [] 0 0 1 i), none, none, none, none, none, some (.tsl 3 [] oi oi 1 ol), some (.int .i64 (ol : Int)), some (.int .i64 (i : Int))] ++ List.replicate 10 none, [.live (.agg [.ptr 1 [] 0, .pure k16 key, .int .u64 sd, .int .u64 sn, .int .u64 ex, .tsl 3 [] oi oi 1 ol]), .live (.agg [.bool sy, .pure k16 seed, .int .u64 dr, .int .u64 cn, .tsl 2 [] 0 0 18 ts.length]), .live (.pure (.arr ts.length tmK) ts), .live (.pure (.arr xs.length (.slice true (.int .u8))) xs), .live (.pure (.arr i (.slice true (.int .u8))) (List.take i V))]⟩ : AS)) (fun i => i ≤ ol) (fun i => ol - i) 0 ?_ (Nat.zero_le _) ?_
  · refine Wk.of ?_ ?_ rfl rfl
    · simp only [lessTs, List.reduceReplicate, List.cons_append, List.nil_append] <;> ((repeat' apply And.intro) <;> first | with_reducible rfl | exact True.intro | exact congrArg (fun z : Int => some (AV.int IntKind.i64 z)) (show (_ : Int) = _ by omega) | exact congrArg (fun z : Nat => some (AV.tsl _ _ _ _ _ z)) (show (_ : Nat) = _ by omega) | exact arrEq (by omega) (by with_reducible rfl))
    exact ⟨rfl, rfl, rfl, rfl, arrEq rfl rfl, trivial⟩
  · intro i hi
    by_cases hc : i < ol
    · have hc' : decide ((i : Int) < (ol : Int)) = true := decide_eq_true (by omega)
      have htk := out_take xs oi ol i h5 hc
      rw [hV] at htk
      have hbl : List.length (xs.getD (oi + i) []) ≤ 100000 := by
        rw [List.getD_eq_getElem?_getD, List.getElem?_eq_getElem (by omega)]
        exact h8 _ (List.getElem_mem _)
      have hil : List.length (List.take i V) = i := by rw [List.length_take]; omega
      have htt : List.take i (List.take i V) = List.take i V := List.take_of_length_le (by omega)
      generalize hb : xs.getD (oi + i) [] = b at *
      refine Tri.at (by first | (simp only [hc', hb, htt, Con.start, go_sem]; rfl) | rfl) ?_
      repeat (first | ((first | refine Tri.seq (Tri.regT (cfgPE_ok.pins _) ?_) | refine Tri.rgnT (cfgPE_ok.pins _) ?_); (repeat (first | refine RunT.oneA (hp := by simp (maxSteps := 2000000) (disch := first | decide | omega | (simp only [List.length_append, List.length_cons, List.length_nil, List.length_take, List.length_drop]; omega)) only [hc', hb, htt, go_sem]; rfl) (h := ?_) | refine RunT.notA (h := ?_))); refine RunT.nil ?_; try simp only [InBlock, Then]) | refine Tri.cF (by first | (simp only [hc', hb, htt, go_sem]; done) | fail) ?_ | refine Tri.cT (by first | (simp only [hc', hb, htt, go_sem]; done) | fail) ?_ | (refine Tri.skip ?_; try simp only [InBlock, Then]) | (refine Tri.exit ?_; simp only [Then, InBlock, if_true, if_false, ↓reduceIte, Nat.reduceEqDiff]) | refine Tri.seq (Tri.block ?_) | refine Tri.block ?_ | refine Tri.seq ?_ | (refine Tri.ret ?_; refine Con.fin (.inl rfl) (by simp only [Tryd.f18, cfgPE, resA, resA1, go_sem]; rfl) (by simp only [Obs, and_true, true_and]) (by first | (simp only [kBxs, Con.of, Con.ofO, resV, hc', hb, htt, go_sem]; done) | fail) trivial rfl rfl))
      refine ⟨i + 1, (by omega), (by omega), Wk.of ?_ ?_ rfl rfl⟩
      · simp only [lessTs, List.reduceReplicate, List.cons_append, List.nil_append] <;> ((repeat' apply And.intro) <;> first | with_reducible rfl | exact True.intro | exact congrArg (fun z : Int => some (AV.int IntKind.i64 z)) (show (_ : Int) = _ by omega) | exact congrArg (fun z : Nat => some (AV.tsl _ _ _ _ _ z)) (show (_ : Nat) = _ by omega) | exact arrEq (by omega) (by with_reducible rfl))
      · rw [htk]
        exact ⟨rfl, rfl, rfl, rfl, arrEq rfl rfl, trivial⟩
    · have hc' : decide ((i : Int) < (ol : Int)) = false := decide_eq_false (by omega)
      have hio : i = ol := by omega
      subst hio
      have htk : List.take i V = V := List.take_of_length_le (by omega)
      rw [htk]
      refine Tri.at (by first | (simp only [hc', htk, Con.start, go_sem]; rfl) | rfl) ?_
      repeat (first | ((first | refine Tri.seq (Tri.regT (cfgPE_ok.pins _) ?_) | refine Tri.rgnT (cfgPE_ok.pins _) ?_); (repeat (first | refine RunT.oneA (hp := by simp (maxSteps := 2000000) (disch := first | decide | omega | (simp only [List.length_append, List.length_cons, List.length_nil, List.length_take, List.length_drop]; omega)) only [hc', htk, go_sem]; rfl) (h := ?_) | refine RunT.notA (h := ?_))); refine RunT.nil ?_; try simp only [InBlock, Then]) | refine Tri.cF (by first | (simp only [hc', htk, go_sem]; done) | fail) ?_ | refine Tri.cT (by first | (simp only [hc', htk, go_sem]; done) | fail) ?_ | (refine Tri.skip ?_; try simp only [InBlock, Then]) | (refine Tri.exit ?_; simp only [Then, InBlock, if_true, if_false, ↓reduceIte, Nat.reduceEqDiff]) | refine Tri.seq (Tri.block ?_) | refine Tri.block ?_ | refine Tri.seq ?_ | (refine Tri.ret ?_; refine Con.fin (.inl rfl) (by simp only [Tryd.f18, cfgPE, resA, resA1, go_sem]; rfl) (by simp only [Obs, and_true, true_and]) (by first | (simp only [kBxs, Con.of, Con.ofO, resV, hc', htk, go_sem]; done) | fail) trivial rfl rfl))
      refine Tri.rel true 4 rfl ?_ rfl rfl ?_
      · simp only [AS.blk, go_sem]
        repeat' constructor
      refine Tri.at (by first | (simp only [hc', htk, Con.start, go_sem]; rfl) | rfl) ?_
      refine Tri.ret ?_
      refine Con.fin (.inl rfl) (by simp only [Tryd.f18, cfgPE, resA, resA1, go_sem]; rfl) (by simp only [Obs, and_true, true_and]) ?_ ?_ rfl rfl
      · exact congrArg (AV.pure (.slice true (.slice true (.int .u8)))) hO.symm
      · exact ⟨rfl, rfl, rfl, rfl, trivial⟩
theorem pbs_sum : FSumOK Tryd.prog cfgPE.G 18 kBxs.sum := Con.sumOK cfgPE_ok kBxs Tryd.func18 rfl rfl (Con.ofO_inv _ _ _ _) pbs_body
end
def kOpP : Con := Con.ofO [.q plQ] []
  (fun x => [x.1.1.2.2.2.2.1.i = 0, x.1.1.2.2.2.2.1.len = x.1.1.2.2.2.2.1.N, List.length (α := tmK.T) x.1.1.2.2.2.2.1.xs = x.1.1.2.2.2.2.1.N, x.1.1.2.2.2.2.1.N ≤ 1000000, List.length (α := UInt8) x.1.2.1 = 16])
  (fun x => ⟨.int .i64 (((plM x.1).len : Nat) : Int), [.agg [.ptr 1 [] 0, .pure k16 (plM x.1).key, .int .u64 (plM x.1).sd, .int .u64 (plM x.1).sn, .int .u64 (plM x.1).ex, .tsl 3 [] (plM x.1).i (plM x.1).i 1 (plM x.1).len], .agg [.bool (plM x.1).s.sy, .pure k16 (plM x.1).s.seed, .int .u64 (plM x.1).s.dr, .int .u64 (plM x.1).s.cn, .tsl 2 [] 0 0 18 (List.length (α := tmK.T) (plM x.1).s.ts)], .pure (.arr (List.length (α := tmK.T) (plM x.1).s.ts) tmK) (plM x.1).s.ts, .pure (.arr (plM x.1).N (.slice true (.int .u8))) (plM x.1).xs]⟩)
section
attribute [local go_sem] Tryd.f22 kOpP cfgPE tyTabW withP tyTabV tyTabM tyTabS pipT ssM_eta slM ppM_eta plM ppM_s ppM_key ppM_sd ppM_sn ppM_ex ppM_N ppM_i ppM_len ppM_xs
theorem pop_body (p : kOpP.Par) (hp : ∀ q ∈ kOpP.pre p, q) : BodyOK Tryd.prog cfgPE Tryd.f22 (Tryd.f22.body.get rfl) kOpP p := by
  obtain ⟨⟨⟨(sy : Bool), (seed : List UInt8), (dr : UInt64), (cn : UInt64), ⟨N, i0, len, (ts : List tmK.T)⟩, u1⟩, (key : List UInt8), (sd : UInt64), (sn : UInt64), (ex : UInt64), ⟨M, oi, ol, (xs : List (List UInt8))⟩, u2⟩, u⟩ := p
  obtain ⟨h0, h1, h2, h3, h4, _⟩ := Obs.of hp
  replace h0 : i0 = 0 := h0
  replace h1 : len = N := h1
  replace h2 : ts.length = N := h2
  replace h3 : N ≤ 1000000 := h3
  replace h4 : key.length = 16 := h4
  subst h0 h1 h2
  refine ⟨?_, Nat.le_refl _, rfl, rfl⟩
  show Tri _ _ _ (Code.seq _ (Code.seq _ _)) _
  refine Tri.at (by first | (simp only [go_sem, Con.start, go_sem]; rfl) | rfl) ?_
  repeat (first | ((first | refine Tri.seq (Tri.regT (cfgPE_ok.pins _) ?_) | refine Tri.rgnT (cfgPE_ok.pins _) ?_); (repeat (first | refine RunT.oneA (hp := by simp (maxSteps := 2000000) (disch := first | decide | omega | (simp only [List.length_append, List.length_cons, List.length_nil, List.length_take, List.length_drop]; omega)) only [go_sem, go_sem]; rfl) (h := ?_) | refine RunT.notA (h := ?_))); refine RunT.nil ?_; try simp only [InBlock, Then]) | refine Tri.cF (by first | (simp only [go_sem, go_sem]; done) | fail) ?_ | refine Tri.cT (by first | (simp only [go_sem, go_sem]; done) | fail) ?_ | (refine Tri.skip ?_; try simp only [InBlock, Then]) | (refine Tri.exit ?_; simp only [Then, InBlock, if_true, if_false, ↓reduceIte, Nat.reduceEqDiff]) | refine Tri.seq (Tri.block ?_) | refine Tri.block ?_ | refine Tri.seq ?_ | (refine Tri.ret ?_; refine Con.fin (.inl rfl) (by simp only [Tryd.f22, cfgPE, resA, resA1, go_sem]; rfl) (by simp only [Obs, and_true, true_and]) (by first | (simp only [kOpP, Con.of, Con.ofO, resV, go_sem, go_sem]; done) | fail) trivial rfl rfl))
  refine Tri.ret ?_
  refine Con.fin (.inl rfl) (by simp only [Tryd.f22, cfgPE, resA, resA1, go_sem]; rfl) (by simp only [Obs, and_true, true_and]) ?_ ?_ rfl rfl
  · rfl
  · exact ⟨rfl, rfl, rfl, rfl, trivial⟩
theorem pop_sum : FSumOK Tryd.prog cfgPE.G 22 kOpP.sum := Con.sumOK cfgPE_ok kOpP Tryd.func22 rfl rfl (Con.ofO_inv _ _ _ _) pop_body
end
end Go.Proofs.YtlnkfdblkdhdgaaDoor

namespace Go.Proofs.YtlnkfdblkdhdgaaDoor
open Go.Vc Go.Proofs
set_option maxRecDepth 10000
set_option maxHeartbeats 4000000
def opV (sd : UInt64) (v0 v1 v2 v3 : List UInt8) : List UInt64 × List UInt8 × Int :=
  if rdB v0 = false then ([0, 0, 0], [], 21) else if rdB v1 = false then ([rdU v0, 0, 0], [], 21) else if rdB v2 = false then ([rdU v0, rdU v1, 0], [], 21) else
  if 1 < rdU v0 then ([rdU v0, rdU v1, rdU v2], [], 21) else if rdU v0 = sd then ([rdU v0, rdU v1, rdU v2], [], 67) else ([rdU v0, rdU v1, rdU v2], v3, 0)
def opR (p : PP) (b : List UInt8) : List UInt64 × List UInt8 × Int := match p.s.opn p.key 6 b with
  | none => ([0, 0, 0], [], 40)
  | some q => match splS q 41 4 with
    | none => ([0, 0, 0], [], 21)
    | some v => opV p.sd (v.getD 0 []) (v.getD 1 []) (v.getD 2 []) (v.getD 3 [])
def opT (r : List UInt64 × List UInt8 × Int) : AV := .tuple [.pure (.arr 3 (.int .u64)) r.1, .pure (.slice true (.int .u8)) r.2.1, .int .i64 r.2.2]
theorem opT_eq (r : List UInt64 × List UInt8 × Int) : opT r = .tuple [.pure (.arr 3 (.int .u64)) r.1, .pure (.slice true (.int .u8)) r.2.1, .int .i64 r.2.2] := rfl
def kOpen : Con := Con.ofO [.q plQ, .a (.v (.slice false (.int .u8)))] []
  (fun x => [x.1.1.2.2.2.2.1.i = 0, x.1.1.2.2.2.2.1.len = x.1.1.2.2.2.2.1.N, List.length (α := tmK.T) x.1.1.2.2.2.2.1.xs = x.1.1.2.2.2.2.1.N, x.1.1.2.2.2.2.1.N ≤ 1000000, List.length (α := UInt8) x.1.2.1 = 16, List.length (α := UInt8) x.2.1 ≤ 100000, ∀ t ∈ x.1.1.2.2.2.2.1.xs, tmOK t])
  (fun x => ⟨.tuple [.pure (.arr 3 (.int .u64)) (opR (plM x.1) x.2.1).1, .pure (.slice true (.int .u8)) (opR (plM x.1) x.2.1).2.1, .int .i64 (opR (plM x.1) x.2.1).2.2], [.agg [.ptr 1 [] 0, .pure k16 (plM x.1).key, .int .u64 (plM x.1).sd, .int .u64 (plM x.1).sn, .int .u64 (plM x.1).ex, .tsl 3 [] (plM x.1).i (plM x.1).i 1 (plM x.1).len], .agg [.bool (plM x.1).s.sy, .pure k16 (plM x.1).s.seed, .int .u64 (plM x.1).s.dr, .int .u64 (plM x.1).s.cn, .tsl 2 [] 0 0 18 (List.length (α := tmK.T) (plM x.1).s.ts)], .pure (.arr (List.length (α := tmK.T) (plM x.1).s.ts) tmK) (plM x.1).s.ts, .pure (.arr (plM x.1).N (.slice true (.int .u8))) (plM x.1).xs]⟩)
theorem opn_len {s : SS} {key : List UInt8} {us : Int} {b q : List UInt8} (ht : ∀ t ∈ s.ts, tmOK t) (h : s.opn key us b = some q) : q.length ≤ 2000 := by
  unfold SS.opn at h
  split at h
  · unfold SS.fnd at h
    split at h
    · split at h
      · split at h
        · rename_i hlt
          split at h
          · split at h
            · injection h with h
              rw [← h]
              refine ht _ ?_
              rw [List.getD_eq_getElem?_getD, List.getElem?_eq_getElem hlt]
              exact List.getElem_mem hlt
            · cases h
          · cases h
        · cases h
      · cases h
    · cases h
  · split at h
    · cases h
    · split at h
      · cases h
      · split at h
        · injection h with h
          rw [← h, strS_len, List.length_take, List.length_drop]
          omega
        · cases h
theorem eqF_lenE : ∀ {fs : List flK.T} {ts : List Int}, eqF fs ts = true → fs.length = ts.length
  | [], [], _ => rfl
  | f :: r, t :: s, h => by
    rw [eqF, Bool.and_eq_true] at h
    simp [eqF_lenE h.2]
  | [], _ :: _, h => by cases h
  | _ :: _, [], h => by cases h
theorem spF_vl : ∀ (k : Nat) (d : List UInt8) (acc fs : List flK.T) (e : Int) (m : Nat), d.length ≤ m → (∀ f ∈ acc, List.length (α := UInt8) f.2.1 ≤ m) → spF k d acc = (some fs, e) → ∀ f ∈ fs, List.length (α := UInt8) f.2.1 ≤ m
  | 0, d, acc, fs, e, m, hd, ha, h => by
    simp only [spF, Prod.mk.injEq, Option.some.injEq] at h
    rw [← h.1]; exact ha
  | k + 1, d, acc, fs, e, m, hd, ha, h => by
    rw [spF] at h
    split at h
    · simp only [Prod.mk.injEq, Option.some.injEq] at h
      rw [← h.1]; exact ha
    · split at h
      · cases h
      · split at h
        · cases h
        · split at h
          · cases h
          · refine spF_vl k _ _ fs e m ?_ ?_ h
            · rw [List.length_drop, List.length_drop]; omega
            · intro f hf
              rcases List.mem_append.1 hf with hf | hf
              · exact ha f hf
              · rw [List.mem_singleton] at hf
                subst hf
                show (List.take _ _).length ≤ m
                rw [List.length_take, List.length_drop]
                omega
theorem splS_spec {q : List UInt8} {f : Int} {n : Nat} {v : List (List UInt8)} (h : splS q f n = some v) : v.length = n ∧ ∀ x ∈ v, x.length ≤ q.length := by
  unfold splS at h
  cases hq : spF q.length q [] with
  | mk o e =>
    rw [hq] at h
    cases o with
    | none => cases h
    | some fs =>
      replace h : (if eqF fs (tgI f n) = true then some (vlL fs) else none) = some v := h
      split at h
      · rename_i he
        injection h with h
        subst h
        have h1 := eqF_lenE he
        rw [tgI_len] at h1
        refine ⟨by rw [vlL, List.length_map, h1], fun x hx => ?_⟩
        obtain ⟨g, hg, rfl⟩ := List.mem_map.1 hx
        exact spF_vl _ _ _ _ _ q.length (Nat.le_refl _) (fun f hf => by cases hf) hq g hg
      · cases h
def nS (V : List (List UInt8)) : Nat → List UInt64
  | 0 => [0, 0, 0]
  | i + 1 => (nS V i).set i (rdU (V.getD i []))
theorem nS_len (V : List (List UInt8)) : ∀ i, (nS V i).length = 3
  | 0 => rfl
  | i + 1 => by rw [nS, List.length_set, nS_len V i]
theorem opV_bad {sd : UInt64} {v0 v1 v2 v3 : List UInt8} : ∀ {i : Nat}, i < 3 → (∀ j, j < i → rdB (List.getD [v0, v1, v2, v3] j []) = true) → rdB (List.getD [v0, v1, v2, v3] i []) = false →
    opV sd v0 v1 v2 v3 = ((nS [v0, v1, v2, v3] i).set i (rdU (List.getD [v0, v1, v2, v3] i [])), [], 21)
  | 0, _, _, h => by
    replace h : rdB v0 = false := h
    rw [opV, if_pos h]
    show _ = ([rdU v0, 0, 0], [], 21)
    rw [show rdU v0 = 0 by rw [rdU, h]; rfl]
  | 1, _, h0, h => by
    replace h : rdB v1 = false := h
    have a0 : rdB v0 = true := h0 0 (by omega)
    rw [opV, if_neg (by rw [a0]; intro e; cases e), if_pos h]
    show _ = ([rdU v0, rdU v1, 0], [], 21)
    rw [show rdU v1 = 0 by rw [rdU, h]; rfl]
  | 2, _, h0, h => by
    replace h : rdB v2 = false := h
    have a0 : rdB v0 = true := h0 0 (by omega)
    have a1 : rdB v1 = true := h0 1 (by omega)
    rw [opV, if_neg (by rw [a0]; intro e; cases e), if_neg (by rw [a1]; intro e; cases e), if_pos h]
    show _ = ([rdU v0, rdU v1, rdU v2], [], 21)
    rw [show rdU v2 = 0 by rw [rdU, h]; rfl]
  | i + 3, hi, _, _ => absurd hi (by omega)
def cfgPF : Cfg2 := { ty := tyTabW, fn := fun | 49 => some kOpn.sum | 48 => some kSplit.sum | 67 => some kRd.sum | _ => none, G := shaG, pin := [], eq := fun _ => none }
theorem cfgPF_ok : CfgOK Tryd.prog cfgPF := ⟨tyTabW_ok, (fun f s h => by
  simp only [cfgPF] at h
  split at h
  · injection h with h; subst h; exact .inl open_sum
  · injection h with h; subst h; exact .inl psp_sum
  · injection h with h; subst h; exact .inl trd_sum
  · cases h), (fun t d h => by cases h)⟩
section
attribute [local go_sem] Tryd.f40 kOpen kOpn kSplit kRd cfgPF tyTabW withP tyTabV tyTabM tyTabS pipT ssM_eta slM ppM_eta plM ppM_s ppM_key ppM_sd ppM_sn ppM_ex ppM_N ppM_i ppM_len ppM_xs
theorem pon_body (p : kOpen.Par) (hp : ∀ q ∈ kOpen.pre p, q) : BodyOK Tryd.prog cfgPF Tryd.f40 (Tryd.f40.body.get rfl) kOpen p := by
  obtain ⟨⟨⟨(sy : Bool), (seed : List UInt8), (dr : UInt64), (cn : UInt64), ⟨N, i0, len, (ts : List tmK.T)⟩, u1⟩, (key : List UInt8), (sd : UInt64), (sn : UInt64), (ex : UInt64), ⟨M, oi, ol, (xs : List (List UInt8))⟩, u2⟩, (b : List UInt8), u⟩ := p
  obtain ⟨h0, h1, h2, h3, h4, h5, h6, _⟩ := Obs.of hp
  replace h0 : i0 = 0 := h0
  replace h1 : len = N := h1
  replace h2 : ts.length = N := h2
  replace h3 : N ≤ 1000000 := h3
  replace h4 : key.length = 16 := h4
  replace h5 : b.length ≤ 100000 := h5
  replace h6 : ∀ t ∈ ts, tmOK t := h6
  subst h0 h1 h2
  refine ⟨?_, Nat.le_refl _, rfl, rfl⟩
  show Tri _ _ _ (Code.seq _ (Code.seq _ (Code.seq (Code.seq _ (Code.cond _ (Code.seq _ _) _)) (Code.seq _ (Code.seq (Code.seq _ (Code.cond _ (Code.seq _ _) _)) (Code.seq (Code.seq _ (Code.block _ (Code.loop (Code.seq _ (Code.seq (Code.cond _ _ _) (Code.seq (Code.block _ (Code.seq _ (Code.seq _ (Code.seq _ (Code.seq _ (Code.cond _ (Code.seq _ _) _)))))) _)))))) (Code.seq (Code.block _ (Code.seq _ (Code.cond _ (Code.seq _ _) (Code.seq _ (Code.cond _ (Code.seq _ _) _))))) (Code.seq _ _)))))))) _
  have z0 : decide ((0 : Int) = 0) = true := rfl
  have z1 : decide ((40 : Int) = 0) = false := rfl
  have z2 : decide ((21 : Int) = 0) = false := rfl
  cases hq : (ssM sy seed dr cn ts).opn key 6 b with
  | none =>
    have r1 : opR (ppM (ssM sy seed dr cn ts) key sd sn ex M oi ol xs) b = ([0, 0, 0], [], 40) := by
      unfold opR
      rw [show (ppM (ssM sy seed dr cn ts) key sd sn ex M oi ol xs).s.opn (ppM (ssM sy seed dr cn ts) key sd sn ex M oi ol xs).key 6 b = none from hq]
    refine Tri.at (by first | (simp only [hq, opB_none, opE_none, z1, Con.start, go_sem]; rfl) | rfl) ?_
    repeat (first | ((first | refine Tri.seq (Tri.regT (cfgPF_ok.pins _) ?_) | refine Tri.rgnT (cfgPF_ok.pins _) ?_); (repeat (first | refine RunT.oneA (hp := by simp (maxSteps := 2000000) (disch := first | decide | omega | (simp only [List.length_append, List.length_cons, List.length_nil, List.length_take, List.length_drop]; omega)) only [hq, opB_none, opE_none, z1, go_sem]; rfl) (h := ?_) | refine RunT.notA (h := ?_))); refine RunT.nil ?_; try simp only [InBlock, Then]) | ((first | refine Tri.seq (Tri.drwT (mixed) (cfgPF_ok.pins _) ?_) | refine Tri.drnT (mixed) (cfgPF_ok.pins _) ?_); (repeat (first | refine RunD.oneA (hp := by simp (maxSteps := 2000000) (disch := first | decide | omega | (simp only [List.length_append, List.length_cons, List.length_nil, List.length_take, List.length_drop]; omega)) only [hq, opB_none, opE_none, z1, go_sem]; rfl) (h := ?_) | refine RunD.notA (h := ?_))); refine RunD.nil ?_; refine ⟨by kernel_rfl, ?_⟩; try simp only [InBlock, Then]) | refine Tri.cF (by first | (simp only [hq, opB_none, opE_none, z1, go_sem]; done) | fail) ?_ | refine Tri.cT (by first | (simp only [hq, opB_none, opE_none, z1, go_sem]; done) | fail) ?_ | (refine Tri.skip ?_; try simp only [InBlock, Then]) | (refine Tri.exit ?_; simp only [Then, InBlock, if_true, if_false, ↓reduceIte, Nat.reduceEqDiff]) | refine Tri.seq (Tri.block ?_) | refine Tri.block ?_ | refine Tri.seq ?_ | (refine Tri.ret ?_; refine Con.fin (.inl rfl) (by simp only [Tryd.f40, cfgPF, resA, resA1, go_sem]; rfl) (by simp only [Obs, and_true, true_and]) (by first | (simp only [kOpen, Con.of, Con.ofO, resV, hq, opB_none, opE_none, z1, go_sem]; done) | fail) trivial rfl rfl))
    refine Tri.phT 5 (.int .u8) 1 rfl rfl ?_
    refine Tri.at (by first | (simp only [hq, opB_none, opE_none, z1, Con.start, go_sem]; rfl) | rfl) ?_
    refine Tri.rel true 5 rfl ?_ rfl rfl ?_
    · simp only [AS.blk, go_sem]
      repeat' constructor
    refine Tri.at (by first | (simp only [hq, opB_none, opE_none, z1, Con.start, go_sem]; rfl) | rfl) ?_
    refine Tri.ret ?_
    refine Con.fin (.inl rfl) (by simp only [Tryd.f40, cfgPF, resA, resA1, go_sem]; rfl) (by simp only [Obs, and_true, true_and]) ?_ ?_ rfl rfl
    · show AV.tuple [.pure (.arr 3 (.int .u64)) ([0, 0, 0] : List UInt64), .pure (.slice true (.int .u8)) ([] : List UInt8), .int .i64 (40 : Int)] = opT (opR (ppM (ssM sy seed dr cn ts) key sd sn ex M oi ol xs) b)
      rw [r1]
      rfl
    · exact ⟨rfl, rfl, rfl, rfl, trivial⟩
  | some q =>
    have hql := opn_len (s := ssM sy seed dr cn ts) h6 hq
    have r0 : opR (ppM (ssM sy seed dr cn ts) key sd sn ex M oi ol xs) b = match splS q 41 4 with
      | none => ([0, 0, 0], [], 21)
      | some v => opV sd (v.getD 0 []) (v.getD 1 []) (v.getD 2 []) (v.getD 3 []) := by
      unfold opR
      rw [show (ppM (ssM sy seed dr cn ts) key sd sn ex M oi ol xs).s.opn (ppM (ssM sy seed dr cn ts) key sd sn ex M oi ol xs).key 6 b = some q from hq]
      rfl
    cases hv : splS q 41 4 with
    | none =>
      have v1 : splV (splS q 41 4) = .tuple [.nilsl, .int .i64 (21 : Int)] := by rw [hv]; rfl
      have r1 := r0
      rw [hv] at r1
      replace r1 : opR (ppM (ssM sy seed dr cn ts) key sd sn ex M oi ol xs) b = ([0, 0, 0], [], 21) := r1
      refine Tri.at (by first | (simp only [hq, opB_some, opE_some, z0, z2, v1, Con.start, go_sem]; rfl) | rfl) ?_
      repeat (first | ((first | refine Tri.seq (Tri.regT (cfgPF_ok.pins _) ?_) | refine Tri.rgnT (cfgPF_ok.pins _) ?_); (repeat (first | refine RunT.oneA (hp := by simp (maxSteps := 2000000) (disch := first | decide | omega | (simp only [List.length_append, List.length_cons, List.length_nil, List.length_take, List.length_drop]; omega)) only [hq, opB_some, opE_some, z0, z2, v1, go_sem]; rfl) (h := ?_) | refine RunT.notA (h := ?_))); refine RunT.nil ?_; try simp only [InBlock, Then]) | ((first | refine Tri.seq (Tri.drwT (mixed) (cfgPF_ok.pins _) ?_) | refine Tri.drnT (mixed) (cfgPF_ok.pins _) ?_); (repeat (first | refine RunD.oneA (hp := by simp (maxSteps := 2000000) (disch := first | decide | omega | (simp only [List.length_append, List.length_cons, List.length_nil, List.length_take, List.length_drop]; omega)) only [hq, opB_some, opE_some, z0, z2, v1, go_sem]; rfl) (h := ?_) | refine RunD.notA (h := ?_))); refine RunD.nil ?_; refine ⟨by kernel_rfl, ?_⟩; try simp only [InBlock, Then]) | refine Tri.cF (by first | (simp only [hq, opB_some, opE_some, z0, z2, v1, go_sem]; done) | fail) ?_ | refine Tri.cT (by first | (simp only [hq, opB_some, opE_some, z0, z2, v1, go_sem]; done) | fail) ?_ | (refine Tri.skip ?_; try simp only [InBlock, Then]) | (refine Tri.exit ?_; simp only [Then, InBlock, if_true, if_false, ↓reduceIte, Nat.reduceEqDiff]) | refine Tri.seq (Tri.block ?_) | refine Tri.block ?_ | refine Tri.seq ?_ | (refine Tri.ret ?_; refine Con.fin (.inl rfl) (by simp only [Tryd.f40, cfgPF, resA, resA1, go_sem]; rfl) (by simp only [Obs, and_true, true_and]) (by first | (simp only [kOpen, Con.of, Con.ofO, resV, hq, opB_some, opE_some, z0, z2, v1, go_sem]; done) | fail) trivial rfl rfl))
      refine Tri.phT 5 (.int .u8) 1 rfl rfl ?_
      refine Tri.at (by first | (simp only [hq, opB_some, opE_some, z0, z2, v1, Con.start, go_sem]; rfl) | rfl) ?_
      refine Tri.rel true 5 rfl ?_ rfl rfl ?_
      · simp only [AS.blk, go_sem]
        repeat' constructor
      refine Tri.at (by first | (simp only [hq, opB_some, opE_some, z0, z2, v1, Con.start, go_sem]; rfl) | rfl) ?_
      refine Tri.ret ?_
      refine Con.fin (.inl rfl) (by simp only [Tryd.f40, cfgPF, resA, resA1, go_sem]; rfl) (by simp only [Obs, and_true, true_and]) ?_ ?_ rfl rfl
      · show AV.tuple [.pure (.arr 3 (.int .u64)) ([0, 0, 0] : List UInt64), .pure (.slice true (.int .u8)) ([] : List UInt8), .int .i64 (21 : Int)] = opT (opR (ppM (ssM sy seed dr cn ts) key sd sn ex M oi ol xs) b)
        rw [r1]
        rfl
      · exact ⟨rfl, rfl, rfl, rfl, trivial⟩
    | some v =>
      have v1 : splV (splS q 41 4) = .tuple [.pure (.slice true (.slice true (.int .u8))) v, .int .i64 (0 : Int)] := by rw [hv]; rfl
      rw [hv] at r0
      replace r0 : opR (ppM (ssM sy seed dr cn ts) key sd sn ex M oi ol xs) b = opV sd (v.getD 0 []) (v.getD 1 []) (v.getD 2 []) (v.getD 3 []) := r0
      obtain ⟨vl, vb⟩ := splS_spec hv
      obtain ⟨v0, w1, w2, w3, rfl⟩ : ∃ a b c d, v = [a, b, c, d] := by
        match v, vl with
        | [a, b, c, d], _ => exact ⟨a, b, c, d, rfl⟩
      replace r0 : opR (ppM (ssM sy seed dr cn ts) key sd sn ex M oi ol xs) b = opV sd v0 w1 w2 w3 := r0
      have b0 := vb v0 (by simp)
      have b1 := vb w1 (by simp)
      have b2 := vb w2 (by simp)
      refine Tri.at (by first | (simp only [hq, opB_some, opE_some, z0, z2, v1, Con.start, go_sem]; rfl) | rfl) ?_
      repeat (first | ((first | refine Tri.seq (Tri.regT (cfgPF_ok.pins _) ?_) | refine Tri.rgnT (cfgPF_ok.pins _) ?_); (repeat (first | refine RunT.oneA (hp := by simp (maxSteps := 2000000) (disch := first | decide | omega | (simp only [List.length_append, List.length_cons, List.length_nil, List.length_take, List.length_drop]; omega)) only [hq, opB_some, opE_some, z0, z2, v1, go_sem]; rfl) (h := ?_) | refine RunT.notA (h := ?_))); refine RunT.nil ?_; try simp only [InBlock, Then]) | ((first | refine Tri.seq (Tri.drwT (mixed) (cfgPF_ok.pins _) ?_) | refine Tri.drnT (mixed) (cfgPF_ok.pins _) ?_); (repeat (first | refine RunD.oneA (hp := by simp (maxSteps := 2000000) (disch := first | decide | omega | (simp only [List.length_append, List.length_cons, List.length_nil, List.length_take, List.length_drop]; omega)) only [hq, opB_some, opE_some, z0, z2, v1, go_sem]; rfl) (h := ?_) | refine RunD.notA (h := ?_))); refine RunD.nil ?_; refine ⟨by kernel_rfl, ?_⟩; try simp only [InBlock, Then]) | refine Tri.cF (by first | (simp only [hq, opB_some, opE_some, z0, z2, v1, go_sem]; done) | fail) ?_ | refine Tri.cT (by first | (simp only [hq, opB_some, opE_some, z0, z2, v1, go_sem]; done) | fail) ?_ | (refine Tri.skip ?_; try simp only [InBlock, Then]) | (refine Tri.exit ?_; simp only [Then, InBlock, if_true, if_false, ↓reduceIte, Nat.reduceEqDiff]) | refine Tri.seq (Tri.block ?_) | refine Tri.block ?_ | refine Tri.seq ?_ | (refine Tri.ret ?_; refine Con.fin (.inl rfl) (by simp only [Tryd.f40, cfgPF, resA, resA1, go_sem]; rfl) (by simp only [Obs, and_true, true_and]) (by first | (simp only [kOpen, Con.of, Con.ofO, resV, hq, opB_some, opE_some, z0, z2, v1, go_sem]; done) | fail) trivial rfl rfl))
      generalize hVV : [v0, w1, w2, w3] = V at *
      refine Tri.loop (fun i : Nat => (⟨[some (.ptr 0 [] 0), none, none, none, some (.ptr 4 [] 0), some (.nilsl), some (.int .i64 (0 : Int)), none, some (.pure (.slice true (.slice true (.int .u8))) V), none, none, none, none, none, none, none, none, none, none, none, none, none, none, none, none, none, none, none, none, none, none, none, none, none, none, none, none, some (.int .i64 (i : Int))] ++ List.replicate 34 none, [.live (.agg [.ptr 1 [] 0, .pure k16 key, .int .u64 sd, .int .u64 sn, .int .u64 ex, .tsl 3 [] oi oi 1 ol]), .live (.agg [.bool (ssM sy seed dr cn ts).sy, .pure k16 (ssM sy seed dr cn ts).seed, .int .u64 (ssM sy seed dr cn ts).dr, .int .u64 (ssM sy seed dr cn ts).cn, .tsl 2 [] 0 0 18 (List.length (α := tmK.T) (ssM sy seed dr cn ts).ts)]), .live (.pure (.arr (List.length (α := tmK.T) (ssM sy seed dr cn ts).ts) tmK) (ssM sy seed dr cn ts).ts), .live (.pure (.arr M (.slice true (.int .u8))) xs), .live (.pure (.arr 3 (.int .u64)) (nS V i))]⟩ : AS)) (fun i => i ≤ 3 ∧ ∀ j, j < i → rdB (V.getD j []) = true) (fun i => 3 - i) 0 ?_ ⟨Nat.zero_le _, fun j hj => absurd hj (Nat.not_lt_zero j)⟩ ?_
      · refine Wk.of ?_ ?_ rfl rfl
        · simp only [lessTs, List.reduceReplicate, List.cons_append, List.nil_append] <;> ((repeat' apply And.intro) <;> first | with_reducible rfl | exact True.intro | exact congrArg (fun z : Int => some (AV.int IntKind.i64 z)) (show (_ : Int) = _ by omega) | exact congrArg (fun z : Nat => some (AV.tsl _ _ _ _ _ z)) (show (_ : Nat) = _ by omega) | exact arrEq (by omega) (by with_reducible rfl))
        exact ⟨rfl, rfl, rfl, rfl, rfl, trivial⟩
      · intro i ⟨hi, hok⟩
        replace hi : i ≤ 3 := hi
        have hnl := nS_len V i
        by_cases hc : i < 3
        · have hc' : decide ((i : Int) < 3) = true := decide_eq_true (by omega)
          have hVl : V.length = 4 := by rw [← hVV]; rfl
          have hbl : List.length (V.getD i []) ≤ 9223372036854775807 := by
            have : V.getD i [] ∈ V := by
              rw [List.getD_eq_getElem?_getD, List.getElem?_eq_getElem (by omega)]
              exact List.getElem_mem _
            have := vb _ this
            omega
          have hst : nS V (i + 1) = (nS V i).set i (rdU (V.getD i [])) := rfl
          have hbad := fun h => opV_bad (sd := sd) (v0 := v0) (v1 := w1) (v2 := w2) (v3 := w3) (i := i) hc (by rw [hVV]; exact hok) (by rw [hVV]; exact h)
          rw [hVV] at hbad
          generalize hx : V.getD i [] = x at *
          generalize hn : nS V i = n at *
          cases hr : rdB x with
          | true =>
            refine Tri.at (by first | (simp only [hc', hx, hr, Con.start, go_sem]; rfl) | rfl) ?_
            repeat (first | ((first | refine Tri.seq (Tri.regT (cfgPF_ok.pins _) ?_) | refine Tri.rgnT (cfgPF_ok.pins _) ?_); (repeat (first | refine RunT.oneA (hp := by simp (maxSteps := 2000000) (disch := first | decide | omega | (simp only [List.length_append, List.length_cons, List.length_nil, List.length_take, List.length_drop]; omega)) only [hc', hx, hr, go_sem]; rfl) (h := ?_) | refine RunT.notA (h := ?_))); refine RunT.nil ?_; try simp only [InBlock, Then]) | refine Tri.cF (by first | (simp only [hc', hx, hr, go_sem]; done) | fail) ?_ | refine Tri.cT (by first | (simp only [hc', hx, hr, go_sem]; done) | fail) ?_ | (refine Tri.skip ?_; try simp only [InBlock, Then]) | (refine Tri.exit ?_; simp only [Then, InBlock, if_true, if_false, ↓reduceIte, Nat.reduceEqDiff]) | refine Tri.seq (Tri.block ?_) | refine Tri.block ?_ | refine Tri.seq ?_ | (refine Tri.ret ?_; refine Con.fin (.inl rfl) (by simp only [Tryd.f40, cfgPF, resA, resA1, go_sem]; rfl) (by simp only [Obs, and_true, true_and]) (by first | (simp only [kOpen, Con.of, Con.ofO, resV, hc', hx, hr, go_sem]; done) | fail) trivial rfl rfl))
            refine ⟨i + 1, ⟨(by omega), fun j hj => ?_⟩, (by omega), Wk.of ?_ ?_ rfl rfl⟩
            · by_cases hji : j = i
              · subst hji; rw [hx]; exact hr
              · exact hok j (by omega)
            · simp only [lessTs, List.reduceReplicate, List.cons_append, List.nil_append] <;> ((repeat' apply And.intro) <;> first | with_reducible rfl | exact True.intro | exact congrArg (fun z : Int => some (AV.int IntKind.i64 z)) (show (_ : Int) = _ by omega) | exact congrArg (fun z : Nat => some (AV.tsl _ _ _ _ _ z)) (show (_ : Nat) = _ by omega) | exact arrEq (by omega) (by with_reducible rfl))
            · rw [hst]
              exact ⟨rfl, rfl, rfl, rfl, rfl, trivial⟩
          | false =>
            have r1 := r0.trans (hbad hr)
            refine Tri.at (by first | (simp only [hc', hx, hr, Con.start, go_sem]; rfl) | rfl) ?_
            repeat (first | ((first | refine Tri.seq (Tri.regT (cfgPF_ok.pins _) ?_) | refine Tri.rgnT (cfgPF_ok.pins _) ?_); (repeat (first | refine RunT.oneA (hp := by simp (maxSteps := 2000000) (disch := first | decide | omega | (simp only [List.length_append, List.length_cons, List.length_nil, List.length_take, List.length_drop]; omega)) only [hc', hx, hr, go_sem]; rfl) (h := ?_) | refine RunT.notA (h := ?_))); refine RunT.nil ?_; try simp only [InBlock, Then]) | refine Tri.cF (by first | (simp only [hc', hx, hr, go_sem]; done) | fail) ?_ | refine Tri.cT (by first | (simp only [hc', hx, hr, go_sem]; done) | fail) ?_ | (refine Tri.skip ?_; try simp only [InBlock, Then]) | (refine Tri.exit ?_; simp only [Then, InBlock, if_true, if_false, ↓reduceIte, Nat.reduceEqDiff]) | refine Tri.seq (Tri.block ?_) | refine Tri.block ?_ | refine Tri.seq ?_ | (refine Tri.ret ?_; refine Con.fin (.inl rfl) (by simp only [Tryd.f40, cfgPF, resA, resA1, go_sem]; rfl) (by simp only [Obs, and_true, true_and]) (by first | (simp only [kOpen, Con.of, Con.ofO, resV, hc', hx, hr, go_sem]; done) | fail) trivial rfl rfl))
            refine Tri.phT 5 (.int .u8) 1 rfl rfl ?_
            refine Tri.at (by first | (simp only [hc', hx, hr, Con.start, go_sem]; rfl) | rfl) ?_
            refine Tri.rel true 5 rfl ?_ rfl rfl ?_
            · simp only [AS.blk, go_sem]
              repeat' constructor
            refine Tri.at (by first | (simp only [hc', hx, hr, Con.start, go_sem]; rfl) | rfl) ?_
            refine Tri.ret ?_
            refine Con.fin (.inl rfl) (by simp only [Tryd.f40, cfgPF, resA, resA1, go_sem]; rfl) (by simp only [Obs, and_true, true_and]) ?_ ?_ rfl rfl
            · show AV.tuple [.pure (.arr 3 (.int .u64)) (n.set i (rdU x) : List UInt64), .pure (.slice true (.int .u8)) ([] : List UInt8), .int .i64 (21 : Int)] = opT (opR (ppM (ssM sy seed dr cn ts) key sd sn ex M oi ol xs) b)
              rw [r1]
              rfl
            · exact ⟨rfl, rfl, rfl, rfl, trivial⟩
        · have hc' : decide ((i : Int) < 3) = false := decide_eq_false (by omega)
          have hi3 : i = 3 := by omega
          subst hi3
          have e0 := hok 0 (by omega)
          have e1 := hok 1 (by omega)
          have e2 := hok 2 (by omega)
          subst hVV
          replace e0 : rdB v0 = true := e0
          replace e1 : rdB w1 = true := e1
          replace e2 : rdB w2 = true := e2
          have hn : nS [v0, w1, w2, w3] 3 = [rdU v0, rdU w1, rdU w2] := rfl
          have r9 : opV sd v0 w1 w2 w3 = if 1 < rdU v0 then ([rdU v0, rdU w1, rdU w2], [], 21) else if rdU v0 = sd then ([rdU v0, rdU w1, rdU w2], [], 67) else ([rdU v0, rdU w1, rdU w2], w3, 0) := by
            rw [opV, if_neg (by rw [e0]; intro h; cases h), if_neg (by rw [e1]; intro h; cases h), if_neg (by rw [e2]; intro h; cases h)]
          rw [r9] at r0
          generalize rdU v0 = n0 at *
          generalize rdU w1 = n1 at *
          generalize rdU w2 = n2 at *
          by_cases k1 : 1 < n0
          · have k1' : decide ((1 : UInt64) < n0) = true := decide_eq_true k1
            have r1 := r0.trans (if_pos k1)
            refine Tri.at (by first | (simp only [hc', hn, k1', Con.start, go_sem]; rfl) | rfl) ?_
            repeat (first | ((first | refine Tri.seq (Tri.regT (cfgPF_ok.pins _) ?_) | refine Tri.rgnT (cfgPF_ok.pins _) ?_); (repeat (first | refine RunT.oneA (hp := by simp (maxSteps := 2000000) (disch := first | decide | omega | (simp only [List.length_append, List.length_cons, List.length_nil, List.length_take, List.length_drop]; omega)) only [hc', hn, k1', go_sem]; rfl) (h := ?_) | refine RunT.notA (h := ?_))); refine RunT.nil ?_; try simp only [InBlock, Then]) | ((first | refine Tri.seq (Tri.drwT (mixed) (cfgPF_ok.pins _) ?_) | refine Tri.drnT (mixed) (cfgPF_ok.pins _) ?_); (repeat (first | refine RunD.oneA (hp := by simp (maxSteps := 2000000) (disch := first | decide | omega | (simp only [List.length_append, List.length_cons, List.length_nil, List.length_take, List.length_drop]; omega)) only [hc', hn, k1', go_sem]; rfl) (h := ?_) | refine RunD.notA (h := ?_))); refine RunD.nil ?_; refine ⟨by kernel_rfl, ?_⟩; try simp only [InBlock, Then]) | refine Tri.cF (by first | (simp only [hc', hn, k1', go_sem]; done) | fail) ?_ | refine Tri.cT (by first | (simp only [hc', hn, k1', go_sem]; done) | fail) ?_ | (refine Tri.skip ?_; try simp only [InBlock, Then]) | (refine Tri.exit ?_; simp only [Then, InBlock, if_true, if_false, ↓reduceIte, Nat.reduceEqDiff]) | refine Tri.seq (Tri.block ?_) | refine Tri.block ?_ | refine Tri.seq ?_ | (refine Tri.ret ?_; refine Con.fin (.inl rfl) (by simp only [Tryd.f40, cfgPF, resA, resA1, go_sem]; rfl) (by simp only [Obs, and_true, true_and]) (by first | (simp only [kOpen, Con.of, Con.ofO, resV, hc', hn, k1', go_sem]; done) | fail) trivial rfl rfl))
            refine Tri.phT 5 (.int .u8) 1 rfl rfl ?_
            refine Tri.at (by first | (simp only [hc', hn, k1', Con.start, go_sem]; rfl) | rfl) ?_
            refine Tri.rel true 5 rfl ?_ rfl rfl ?_
            · simp only [AS.blk, go_sem]
              repeat' constructor
            refine Tri.at (by first | (simp only [hc', hn, k1', Con.start, go_sem]; rfl) | rfl) ?_
            refine Tri.ret ?_
            refine Con.fin (.inl rfl) (by simp only [Tryd.f40, cfgPF, resA, resA1, go_sem]; rfl) (by simp only [Obs, and_true, true_and]) ?_ ?_ rfl rfl
            · show AV.tuple [.pure (.arr 3 (.int .u64)) ([n0, n1, n2] : List UInt64), .pure (.slice true (.int .u8)) ([] : List UInt8), .int .i64 (21 : Int)] = opT (opR (ppM (ssM sy seed dr cn ts) key sd sn ex M oi ol xs) b)
              rw [r1]
              rfl
            · exact ⟨rfl, rfl, rfl, rfl, trivial⟩
          · have k1' : decide ((1 : UInt64) < n0) = false := decide_eq_false k1
            replace r0 := r0.trans (if_neg k1)
            by_cases k2 : n0 = sd
            · have k2' : decide (n0 = sd) = true := decide_eq_true k2
              have r1 := r0.trans (if_pos k2)
              refine Tri.at (by first | (simp only [hc', hn, k1', k2', Con.start, go_sem]; rfl) | rfl) ?_
              repeat (first | ((first | refine Tri.seq (Tri.regT (cfgPF_ok.pins _) ?_) | refine Tri.rgnT (cfgPF_ok.pins _) ?_); (repeat (first | refine RunT.oneA (hp := by simp (maxSteps := 2000000) (disch := first | decide | omega | (simp only [List.length_append, List.length_cons, List.length_nil, List.length_take, List.length_drop]; omega)) only [hc', hn, k1', k2', go_sem]; rfl) (h := ?_) | refine RunT.notA (h := ?_))); refine RunT.nil ?_; try simp only [InBlock, Then]) | ((first | refine Tri.seq (Tri.drwT (mixed) (cfgPF_ok.pins _) ?_) | refine Tri.drnT (mixed) (cfgPF_ok.pins _) ?_); (repeat (first | refine RunD.oneA (hp := by simp (maxSteps := 2000000) (disch := first | decide | omega | (simp only [List.length_append, List.length_cons, List.length_nil, List.length_take, List.length_drop]; omega)) only [hc', hn, k1', k2', go_sem]; rfl) (h := ?_) | refine RunD.notA (h := ?_))); refine RunD.nil ?_; refine ⟨by kernel_rfl, ?_⟩; try simp only [InBlock, Then]) | refine Tri.cF (by first | (simp only [hc', hn, k1', k2', go_sem]; done) | fail) ?_ | refine Tri.cT (by first | (simp only [hc', hn, k1', k2', go_sem]; done) | fail) ?_ | (refine Tri.skip ?_; try simp only [InBlock, Then]) | (refine Tri.exit ?_; simp only [Then, InBlock, if_true, if_false, ↓reduceIte, Nat.reduceEqDiff]) | refine Tri.seq (Tri.block ?_) | refine Tri.block ?_ | refine Tri.seq ?_ | (refine Tri.ret ?_; refine Con.fin (.inl rfl) (by simp only [Tryd.f40, cfgPF, resA, resA1, go_sem]; rfl) (by simp only [Obs, and_true, true_and]) (by first | (simp only [kOpen, Con.of, Con.ofO, resV, hc', hn, k1', k2', go_sem]; done) | fail) trivial rfl rfl))
              refine Tri.phT 5 (.int .u8) 1 rfl rfl ?_
              refine Tri.at (by first | (simp only [hc', hn, k1', k2', Con.start, go_sem]; rfl) | rfl) ?_
              refine Tri.rel true 5 rfl ?_ rfl rfl ?_
              · simp only [AS.blk, go_sem]
                repeat' constructor
              refine Tri.at (by first | (simp only [hc', hn, k1', k2', Con.start, go_sem]; rfl) | rfl) ?_
              refine Tri.ret ?_
              refine Con.fin (.inl rfl) (by simp only [Tryd.f40, cfgPF, resA, resA1, go_sem]; rfl) (by simp only [Obs, and_true, true_and]) ?_ ?_ rfl rfl
              · show AV.tuple [.pure (.arr 3 (.int .u64)) ([n0, n1, n2] : List UInt64), .pure (.slice true (.int .u8)) ([] : List UInt8), .int .i64 (67 : Int)] = opT (opR (ppM (ssM sy seed dr cn ts) key sd sn ex M oi ol xs) b)
                rw [r1]
                rfl
              · exact ⟨rfl, rfl, rfl, rfl, trivial⟩
            · have k2' : decide (n0 = sd) = false := decide_eq_false k2
              have r1 := r0.trans (if_neg k2)
              refine Tri.at (by first | (simp only [hc', hn, k1', k2', Con.start, go_sem]; rfl) | rfl) ?_
              repeat (first | ((first | refine Tri.seq (Tri.regT (cfgPF_ok.pins _) ?_) | refine Tri.rgnT (cfgPF_ok.pins _) ?_); (repeat (first | refine RunT.oneA (hp := by simp (maxSteps := 2000000) (disch := first | decide | omega | (simp only [List.length_append, List.length_cons, List.length_nil, List.length_take, List.length_drop]; omega)) only [hc', hn, k1', k2', go_sem]; rfl) (h := ?_) | refine RunT.notA (h := ?_))); refine RunT.nil ?_; try simp only [InBlock, Then]) | ((first | refine Tri.seq (Tri.drwT (mixed) (cfgPF_ok.pins _) ?_) | refine Tri.drnT (mixed) (cfgPF_ok.pins _) ?_); (repeat (first | refine RunD.oneA (hp := by simp (maxSteps := 2000000) (disch := first | decide | omega | (simp only [List.length_append, List.length_cons, List.length_nil, List.length_take, List.length_drop]; omega)) only [hc', hn, k1', k2', go_sem]; rfl) (h := ?_) | refine RunD.notA (h := ?_))); refine RunD.nil ?_; refine ⟨by kernel_rfl, ?_⟩; try simp only [InBlock, Then]) | refine Tri.cF (by first | (simp only [hc', hn, k1', k2', go_sem]; done) | fail) ?_ | refine Tri.cT (by first | (simp only [hc', hn, k1', k2', go_sem]; done) | fail) ?_ | (refine Tri.skip ?_; try simp only [InBlock, Then]) | (refine Tri.exit ?_; simp only [Then, InBlock, if_true, if_false, ↓reduceIte, Nat.reduceEqDiff]) | refine Tri.seq (Tri.block ?_) | refine Tri.block ?_ | refine Tri.seq ?_ | (refine Tri.ret ?_; refine Con.fin (.inl rfl) (by simp only [Tryd.f40, cfgPF, resA, resA1, go_sem]; rfl) (by simp only [Obs, and_true, true_and]) (by first | (simp only [kOpen, Con.of, Con.ofO, resV, hc', hn, k1', k2', go_sem]; done) | fail) trivial rfl rfl))
              refine Tri.ret ?_
              refine Con.fin (.inl rfl) (by simp only [Tryd.f40, cfgPF, resA, resA1, go_sem]; rfl) (by simp only [Obs, and_true, true_and]) ?_ ?_ rfl rfl
              · show AV.tuple [.pure (.arr 3 (.int .u64)) ([n0, n1, n2] : List UInt64), .pure (.slice true (.int .u8)) w3, .int .i64 (0 : Int)] = opT (opR (ppM (ssM sy seed dr cn ts) key sd sn ex M oi ol xs) b)
                rw [r1]
                rfl
              · exact ⟨rfl, rfl, rfl, rfl, trivial⟩
theorem pon_sum : FSumOK Tryd.prog cfgPF.G 40 kOpen.sum := Con.sumOK cfgPF_ok kOpen Tryd.func40 rfl rfl (Con.ofO_inv _ _ _ _) pon_body
end
end Go.Proofs.YtlnkfdblkdhdgaaDoor

namespace Go.Proofs.YtlnkfdblkdhdgaaDoor
open Go.Vc Go.Proofs
set_option maxRecDepth 10000
set_option maxHeartbeats 4000000
def dN (ack : UInt64) : Nat → UInt64 → Nat
  | 0, _ => 0
  | l + 1, f => if ack < f then 0 else dN ack l (f + 1) + 1
theorem dN_le (ack : UInt64) : ∀ (l : Nat) (f : UInt64), dN ack l f ≤ l
  | 0, _ => Nat.le_refl _
  | l + 1, f => by
    rw [dN]
    split
    · exact Nat.zero_le _
    · have := dN_le ack l (f + 1); omega
structure RR where
  came : List (List UInt8)
  back : List (List UInt8)
  e : Int
  p : PP
def PP.drp (p : PP) (ack : UInt64) : PP := ⟨p.s, p.key, p.sd, p.sn, p.ex, p.N, p.i + dN ack p.len (p.sn - UInt64.ofInt (p.len : Int) + 1), p.len - dN ack p.len (p.sn - UInt64.ofInt (p.len : Int) + 1), p.xs⟩
def PP.nxt (p : PP) : PP := ⟨p.s, p.key, p.sd, p.sn, p.ex + 1, p.N, p.i, p.len, p.xs⟩
def PP.ans (p : PP) : List UInt8 := p.bx 0 (p.ex - 1) []
def PP.rcv (p : PP) (b : List UInt8) : RR :=
  if (opR p b).2.2 = 0 then
    if (opR p b).1.getD 1 0 = 0 then ⟨[], [], 0, p.drp ((opR p b).1.getD 2 0)⟩
    else if (opR p b).1.getD 1 0 = p.ex then ⟨[(opR p b).2.1], [p.nxt.ans], 0, p.nxt.bxS 0 (p.nxt.ex - 1) []⟩
    else ⟨[], [p.ans], 0, p.bxS 0 (p.ex - 1) []⟩
  else ⟨[], [], (opR p b).2.2, p⟩
def kRcv : Con := Con.ofO [.q plQ, .a (.v (.slice false (.int .u8)))] [2]
  (fun x => [x.1.1.2.2.2.2.1.i = 0, x.1.1.2.2.2.2.1.len = x.1.1.2.2.2.2.1.N, List.length (α := tmK.T) x.1.1.2.2.2.2.1.xs = x.1.1.2.2.2.2.1.N, x.1.1.2.2.2.2.1.N ≤ 1000000, List.length (α := UInt8) x.1.2.1 = 16, x.1.2.2.2.2.2.1.i + x.1.2.2.2.2.2.1.len ≤ x.1.2.2.2.2.2.1.N, List.length (α := List UInt8) x.1.2.2.2.2.2.1.xs = x.1.2.2.2.2.2.1.N, List.length (α := UInt8) x.2.1 ≤ 100000, ∀ t ∈ x.1.1.2.2.2.2.1.xs, tmOK t])
  (fun x => ⟨.tuple [.pure (.slice true (.slice true (.int .u8))) ((plM x.1).rcv x.2.1).came, .pure (.slice true (.slice true (.int .u8))) ((plM x.1).rcv x.2.1).back, .int .i64 ((plM x.1).rcv x.2.1).e], [.agg [.ptr 1 [] 0, .pure k16 (((plM x.1).rcv x.2.1).p).key, .int .u64 (((plM x.1).rcv x.2.1).p).sd, .int .u64 (((plM x.1).rcv x.2.1).p).sn, .int .u64 (((plM x.1).rcv x.2.1).p).ex, .tsl 3 [] (((plM x.1).rcv x.2.1).p).i (((plM x.1).rcv x.2.1).p).i 1 (((plM x.1).rcv x.2.1).p).len], .agg [.bool (((plM x.1).rcv x.2.1).p).s.sy, .pure k16 (((plM x.1).rcv x.2.1).p).s.seed, .int .u64 (((plM x.1).rcv x.2.1).p).s.dr, .int .u64 (((plM x.1).rcv x.2.1).p).s.cn, .tsl 2 [] 0 0 18 (List.length (α := tmK.T) (((plM x.1).rcv x.2.1).p).s.ts)], .pure (.arr (List.length (α := tmK.T) (((plM x.1).rcv x.2.1).p).s.ts) tmK) (((plM x.1).rcv x.2.1).p).s.ts, .pure (.arr (((plM x.1).rcv x.2.1).p).N (.slice true (.int .u8))) (((plM x.1).rcv x.2.1).p).xs]⟩)
def cfgPG : Cfg2 := { ty := tyTabW, fn := fun | 40 => some kOpen.sum | 38 => some kBxK.sum | _ => none, G := shaG, pin := [], eq := fun _ => none }
theorem cfgPG_ok : CfgOK Tryd.prog cfgPG := ⟨tyTabW_ok, (fun f s h => by
  simp only [cfgPG] at h
  split at h
  · injection h with h; subst h; exact .inl pon_sum
  · injection h with h; subst h; exact .inl bxK_sum
  · cases h), (fun t d h => by cases h)⟩
section
attribute [local go_sem] Tryd.f20 kRcv kOpen kBx kBxK cfgPG tyTabW withP tyTabV tyTabM tyTabS pipT ssM_eta slM ppM_eta plM ppM_s ppM_key ppM_sd ppM_sn ppM_ex ppM_N ppM_i ppM_len ppM_xs
theorem prc_body (p : kRcv.Par) (hp : ∀ q ∈ kRcv.pre p, q) : BodyOK Tryd.prog cfgPG Tryd.f20 (Tryd.f20.body.get rfl) kRcv p := by
  obtain ⟨⟨⟨(sy : Bool), (seed : List UInt8), (dr : UInt64), (cn : UInt64), ⟨N, i0, len, (ts : List tmK.T)⟩, u1⟩, (key : List UInt8), (sd : UInt64), (sn : UInt64), (ex : UInt64), ⟨M, oi, ol, (xs : List (List UInt8))⟩, u2⟩, (b : List UInt8), u⟩ := p
  obtain ⟨h0, h1, h2, h3, h4, h5, h6, h7, h8, _⟩ := Obs.of hp
  replace h0 : i0 = 0 := h0
  replace h1 : len = N := h1
  replace h2 : ts.length = N := h2
  replace h3 : N ≤ 1000000 := h3
  replace h4 : key.length = 16 := h4
  replace h5 : oi + ol ≤ M := h5
  replace h6 : xs.length = M := h6
  replace h7 : b.length ≤ 100000 := h7
  replace h8 : ∀ t ∈ ts, tmOK t := h8
  subst h0 h1 h2
  refine ⟨?_, Nat.le_refl _, rfl, rfl⟩
  show Tri _ _ _ (Code.seq _ (Code.seq _ (Code.seq (Code.seq _ (Code.cond _ (Code.seq _ _) _)) (Code.seq _ (Code.seq (Code.seq _ (Code.cond _ (Code.seq _ (Code.seq (Code.block _ (Code.loop (Code.seq (Code.seq _ (Code.cond _ _ _)) (Code.seq (Code.block _ _) _)))) (Code.seq _ _))) _)) (Code.seq (Code.seq _ (Code.cond _ (Code.seq _ _) _)) (Code.seq _ _))))))) _
  have z0 : decide ((0 : Int) = 0) = true := rfl
  cases hr : opR (ppM (ssM sy seed dr cn ts) key sd sn ex M oi ol xs) b with
  | mk nn r2 =>
  obtain ⟨(da : List UInt8), (e : Int)⟩ := r2
  have q0 : PP.rcv (ppM (ssM sy seed dr cn ts) key sd sn ex M oi ol xs) b = if e = 0 then
      if nn.getD 1 0 = 0 then ⟨[], [], 0, PP.drp (ppM (ssM sy seed dr cn ts) key sd sn ex M oi ol xs) (nn.getD 2 0)⟩
      else if nn.getD 1 0 = ex then ⟨[da], [(PP.nxt (ppM (ssM sy seed dr cn ts) key sd sn ex M oi ol xs)).ans], 0, (PP.nxt (ppM (ssM sy seed dr cn ts) key sd sn ex M oi ol xs)).bxS 0 ((PP.nxt (ppM (ssM sy seed dr cn ts) key sd sn ex M oi ol xs)).ex - 1) []⟩
      else ⟨[], [PP.ans (ppM (ssM sy seed dr cn ts) key sd sn ex M oi ol xs)], 0, PP.bxS (ppM (ssM sy seed dr cn ts) key sd sn ex M oi ol xs) 0 (ex - 1) []⟩
    else ⟨[], [], e, (ppM (ssM sy seed dr cn ts) key sd sn ex M oi ol xs)⟩ := by
    unfold PP.rcv
    rw [hr]
    rfl
  by_cases k1 : e = 0
  rotate_left
  · have k1' : decide (e = 0) = false := decide_eq_false k1
    have q1 := q0.trans (if_neg k1)
    refine Tri.at (by first | (simp only [hr, k1', Con.start, go_sem]; rfl) | rfl) ?_
    repeat (first | ((first | refine Tri.seq (Tri.regT (cfgPG_ok.pins _) ?_) | refine Tri.rgnT (cfgPG_ok.pins _) ?_); (repeat (first | refine RunT.oneA (hp := by simp (maxSteps := 2000000) (disch := first | decide | omega | (simp only [List.length_append, List.length_cons, List.length_nil, List.length_take, List.length_drop]; omega)) only [hr, k1', go_sem]; rfl) (h := ?_) | refine RunT.notA (h := ?_))); refine RunT.nil ?_; try simp only [InBlock, Then]) | refine Tri.cF (by first | (simp only [hr, k1', go_sem]; done) | fail) ?_ | refine Tri.cT (by first | (simp only [hr, k1', go_sem]; done) | fail) ?_ | (refine Tri.skip ?_; try simp only [InBlock, Then]) | (refine Tri.exit ?_; simp only [Then, InBlock, if_true, if_false, ↓reduceIte, Nat.reduceEqDiff]) | refine Tri.seq (Tri.block ?_) | refine Tri.block ?_ | refine Tri.seq ?_ | (refine Tri.ret ?_; refine Con.fin (.inl rfl) (by simp only [Tryd.f20, cfgPG, resA, resA1, go_sem]; rfl) (by simp only [Obs, and_true, true_and]) (by first | (simp only [kRcv, Con.of, Con.ofO, resV, hr, k1', go_sem]; done) | fail) trivial rfl rfl))
    refine Tri.phT 4 (.slice true (.int .u8)) 1 rfl rfl ?_
    refine Tri.at (by first | (simp only [hr, k1', Con.start, go_sem]; rfl) | rfl) ?_
    refine Tri.phT 5 (.slice true (.int .u8)) 1 rfl rfl ?_
    refine Tri.at (by first | (simp only [hr, k1', Con.start, go_sem]; rfl) | rfl) ?_
    refine Tri.rel true 5 rfl ?_ rfl rfl ?_
    · simp only [AS.blk, go_sem]
      repeat' constructor
    refine Tri.at (by first | (simp only [hr, k1', Con.start, go_sem]; rfl) | rfl) ?_
    refine Tri.rel true 6 rfl ?_ rfl rfl ?_
    · simp only [AS.blk, go_sem]
      repeat' constructor
    refine Tri.at (by first | (simp only [hr, k1', Con.start, go_sem]; rfl) | rfl) ?_
    refine Tri.ret ?_
    refine Con.fin (.inl rfl) (by simp only [Tryd.f20, cfgPG, resA, resA1, go_sem]; rfl) (by simp only [Obs, and_true, true_and]) ?_ ?_ rfl rfl
    · show AV.tuple [.pure (.slice true (.slice true (.int .u8))) ([] : List (List UInt8)), .pure (.slice true (.slice true (.int .u8))) ([] : List (List UInt8)), .int .i64 (e : Int)] = AV.tuple [.pure (.slice true (.slice true (.int .u8))) (PP.rcv (ppM (ssM sy seed dr cn ts) key sd sn ex M oi ol xs) b).came, .pure (.slice true (.slice true (.int .u8))) (PP.rcv (ppM (ssM sy seed dr cn ts) key sd sn ex M oi ol xs) b).back, .int .i64 (PP.rcv (ppM (ssM sy seed dr cn ts) key sd sn ex M oi ol xs) b).e]
      rw [q1]
    · show lessHs _ (PP.rcv (ppM (ssM sy seed dr cn ts) key sd sn ex M oi ol xs) b).p.fin
      rw [q1]
      exact ⟨rfl, rfl, rfl, rfl, trivial⟩
  have k1' : decide (e = 0) = true := decide_eq_true k1
  replace q0 := q0.trans (if_pos k1)
  subst k1
  by_cases k2 : nn.getD 1 0 = 0
  · have k2' : decide (nn.getD 1 0 = 0) = true := decide_eq_true k2
    have q1 := q0.trans (if_pos k2)
    refine Tri.at (by first | (simp only [hr, k1', k2', Con.start, go_sem]; rfl) | rfl) ?_
    repeat (first | ((first | refine Tri.seq (Tri.regT (cfgPG_ok.pins _) ?_) | refine Tri.rgnT (cfgPG_ok.pins _) ?_); (repeat (first | refine RunT.oneA (hp := by simp (maxSteps := 2000000) (disch := first | decide | omega | (simp only [List.length_append, List.length_cons, List.length_nil, List.length_take, List.length_drop]; omega)) only [hr, k1', k2', go_sem]; rfl) (h := ?_) | refine RunT.notA (h := ?_))); refine RunT.nil ?_; try simp only [InBlock, Then]) | ((first | refine Tri.seq (Tri.drwT (mixed) (cfgPG_ok.pins _) ?_) | refine Tri.drnT (mixed) (cfgPG_ok.pins _) ?_); (repeat (first | refine RunD.oneA (hp := by simp (maxSteps := 2000000) (disch := first | decide | omega | (simp only [List.length_append, List.length_cons, List.length_nil, List.length_take, List.length_drop]; omega)) only [hr, k1', k2', go_sem]; rfl) (h := ?_) | refine RunD.notA (h := ?_))); refine RunD.nil ?_; refine ⟨by kernel_rfl, ?_⟩; try simp only [InBlock, Then]) | refine Tri.cF (by first | (simp only [hr, k1', k2', go_sem]; done) | fail) ?_ | refine Tri.cT (by first | (simp only [hr, k1', k2', go_sem]; done) | fail) ?_ | (refine Tri.skip ?_; try simp only [InBlock, Then]) | (refine Tri.exit ?_; simp only [Then, InBlock, if_true, if_false, ↓reduceIte, Nat.reduceEqDiff]) | refine Tri.seq (Tri.block ?_) | refine Tri.block ?_ | refine Tri.seq ?_ | (refine Tri.ret ?_; refine Con.fin (.inl rfl) (by simp only [Tryd.f20, cfgPG, resA, resA1, go_sem]; rfl) (by simp only [Obs, and_true, true_and]) (by first | (simp only [kRcv, Con.of, Con.ofO, resV, hr, k1', k2', go_sem]; done) | fail) trivial rfl rfl))
    generalize hf0 : sn - UInt64.ofInt (ol : Int) + 1 = f0
    generalize hack : nn.getD 2 0 = ack at *
    refine Tri.loop (fun q : Nat × Nat × UInt64 => (⟨[some (.ptr 0 [] 0), none, none, none, none, none, none, none, none, none, none, some (.int .u64 ack), some (.int .u64 q.2.2)] ++ List.replicate 75 none, [.live (.agg [.ptr 1 [] 0, .pure k16 key, .int .u64 sd, .int .u64 sn, .int .u64 ex, .tsl 3 [] q.1 q.1 1 q.2.1]), .live (.agg [.bool (ssM sy seed dr cn ts).sy, .pure k16 (ssM sy seed dr cn ts).seed, .int .u64 (ssM sy seed dr cn ts).dr, .int .u64 (ssM sy seed dr cn ts).cn, .tsl 2 [] 0 0 18 (List.length (α := tmK.T) (ssM sy seed dr cn ts).ts)]), .live (.pure (.arr (List.length (α := tmK.T) (ssM sy seed dr cn ts).ts) tmK) (ssM sy seed dr cn ts).ts), .live (.pure (.arr M (.slice true (.int .u8))) xs), .live (.pure (.arr 3 (.int .u64)) nn)]⟩ : AS)) (fun q => oi ≤ q.1 ∧ q.1 + q.2.1 = oi + ol ∧ dN ack ol f0 = (q.1 - oi) + dN ack q.2.1 q.2.2) (fun q => q.2.1) (oi, ol, f0) ?_ ⟨Nat.le_refl _, rfl, by rw [Nat.sub_self, Nat.zero_add]⟩ ?_
    · refine Wk.of ?_ ?_ rfl rfl
      · simp only [lessTs, List.reduceReplicate, List.cons_append, List.nil_append] <;> ((repeat' apply And.intro) <;> first | with_reducible rfl | exact True.intro | exact congrArg (fun z : Int => some (AV.int IntKind.i64 z)) (show (_ : Int) = _ by omega) | exact congrArg (fun z : Nat => some (AV.tsl _ _ _ _ _ z)) (show (_ : Nat) = _ by omega) | exact arrEq (by omega) (by with_reducible rfl))
      exact ⟨rfl, rfl, rfl, rfl, rfl, trivial⟩
    · rintro ⟨i, l, f⟩ ⟨g1, g2, g3⟩
      replace g1 : oi ≤ i := g1
      replace g2 : i + l = oi + ol := g2
      replace g3 : dN ack ol f0 = (i - oi) + dN ack l f := g3
      have hend : dN ack l f = 0 → (PP.drp (ppM (ssM sy seed dr cn ts) key sd sn ex M oi ol xs) ack) = ⟨ssM sy seed dr cn ts, key, sd, sn, ex, M, i, l, xs⟩ := fun h => by
        have e1 : dN ack ol f0 = i - oi := by rw [g3, h]; rfl
        have e2 : oi + dN ack ol f0 = i := by omega
        have e3 : ol - dN ack ol f0 = l := by omega
        show (⟨ssM sy seed dr cn ts, key, sd, sn, ex, M, oi + dN ack ol (sn - UInt64.ofInt (ol : Int) + 1), ol - dN ack ol (sn - UInt64.ofInt (ol : Int) + 1), xs⟩ : PP) = _
        rw [hf0, e2, e3]
      cases l with
      | zero =>
        have c1 : decide ((0 : Int) < ((0 : Nat) : Int)) = false := rfl
        have c2 : decide ((0 : Int) < 0) = false := rfl
        rw [hend rfl] at q1
        refine Tri.at (by first | (simp only [c1, c2, Con.start, go_sem]; rfl) | rfl) ?_
        repeat (first | ((first | refine Tri.seq (Tri.regT (cfgPG_ok.pins _) ?_) | refine Tri.rgnT (cfgPG_ok.pins _) ?_); (repeat (first | refine RunT.oneA (hp := by simp (maxSteps := 2000000) (disch := first | decide | omega | (simp only [List.length_append, List.length_cons, List.length_nil, List.length_take, List.length_drop]; omega)) only [c1, c2, go_sem]; rfl) (h := ?_) | refine RunT.notA (h := ?_))); refine RunT.nil ?_; try simp only [InBlock, Then]) | refine Tri.cF (by first | (simp only [c1, c2, go_sem]; done) | fail) ?_ | refine Tri.cT (by first | (simp only [c1, c2, go_sem]; done) | fail) ?_ | (refine Tri.skip ?_; try simp only [InBlock, Then]) | (refine Tri.exit ?_; simp only [Then, InBlock, if_true, if_false, ↓reduceIte, Nat.reduceEqDiff]) | refine Tri.seq (Tri.block ?_) | refine Tri.block ?_ | refine Tri.seq ?_ | (refine Tri.ret ?_; refine Con.fin (.inl rfl) (by simp only [Tryd.f20, cfgPG, resA, resA1, go_sem]; rfl) (by simp only [Obs, and_true, true_and]) (by first | (simp only [kRcv, Con.of, Con.ofO, resV, c1, c2, go_sem]; done) | fail) trivial rfl rfl))
        refine Tri.phT 4 (.slice true (.int .u8)) 1 rfl rfl ?_
        refine Tri.at (by first | (simp only [c1, c2, Con.start, go_sem]; rfl) | rfl) ?_
        refine Tri.phT 5 (.slice true (.int .u8)) 1 rfl rfl ?_
        refine Tri.at (by first | (simp only [c1, c2, Con.start, go_sem]; rfl) | rfl) ?_
        refine Tri.rel true 5 rfl ?_ rfl rfl ?_
        · simp only [AS.blk, go_sem]
          repeat' constructor
        refine Tri.at (by first | (simp only [c1, c2, Con.start, go_sem]; rfl) | rfl) ?_
        refine Tri.rel true 6 rfl ?_ rfl rfl ?_
        · simp only [AS.blk, go_sem]
          repeat' constructor
        refine Tri.at (by first | (simp only [c1, c2, Con.start, go_sem]; rfl) | rfl) ?_
        refine Tri.ret ?_
        refine Con.fin (.inl rfl) (by simp only [Tryd.f20, cfgPG, resA, resA1, go_sem]; rfl) (by simp only [Obs, and_true, true_and]) ?_ ?_ rfl rfl
        · show AV.tuple [.pure (.slice true (.slice true (.int .u8))) ([] : List (List UInt8)), .pure (.slice true (.slice true (.int .u8))) ([] : List (List UInt8)), .int .i64 (0 : Int)] = AV.tuple [.pure (.slice true (.slice true (.int .u8))) (PP.rcv (ppM (ssM sy seed dr cn ts) key sd sn ex M oi ol xs) b).came, .pure (.slice true (.slice true (.int .u8))) (PP.rcv (ppM (ssM sy seed dr cn ts) key sd sn ex M oi ol xs) b).back, .int .i64 (PP.rcv (ppM (ssM sy seed dr cn ts) key sd sn ex M oi ol xs) b).e]
          rw [q1]
        · show lessHs _ (PP.rcv (ppM (ssM sy seed dr cn ts) key sd sn ex M oi ol xs) b).p.fin
          rw [q1]
          exact ⟨rfl, rfl, rfl, rfl, trivial⟩
      | succ l =>
        have c1 : decide ((0 : Int) < ((l + 1 : Nat) : Int)) = true := decide_eq_true (by omega)
        by_cases c3 : ack < f
        · have c3' : decide (ack < f) = true := decide_eq_true c3
          rw [hend (if_pos c3)] at q1
          refine Tri.at (by first | (simp only [c1, c3', Con.start, go_sem]; rfl) | rfl) ?_
          repeat (first | ((first | refine Tri.seq (Tri.regT (cfgPG_ok.pins _) ?_) | refine Tri.rgnT (cfgPG_ok.pins _) ?_); (repeat (first | refine RunT.oneA (hp := by simp (maxSteps := 2000000) (disch := first | decide | omega | (simp only [List.length_append, List.length_cons, List.length_nil, List.length_take, List.length_drop]; omega)) only [c1, c3', go_sem]; rfl) (h := ?_) | refine RunT.notA (h := ?_))); refine RunT.nil ?_; try simp only [InBlock, Then]) | refine Tri.cF (by first | (simp only [c1, c3', go_sem]; done) | fail) ?_ | refine Tri.cT (by first | (simp only [c1, c3', go_sem]; done) | fail) ?_ | (refine Tri.skip ?_; try simp only [InBlock, Then]) | (refine Tri.exit ?_; simp only [Then, InBlock, if_true, if_false, ↓reduceIte, Nat.reduceEqDiff]) | refine Tri.seq (Tri.block ?_) | refine Tri.block ?_ | refine Tri.seq ?_ | (refine Tri.ret ?_; refine Con.fin (.inl rfl) (by simp only [Tryd.f20, cfgPG, resA, resA1, go_sem]; rfl) (by simp only [Obs, and_true, true_and]) (by first | (simp only [kRcv, Con.of, Con.ofO, resV, c1, c3', go_sem]; done) | fail) trivial rfl rfl))
          refine Tri.phT 4 (.slice true (.int .u8)) 1 rfl rfl ?_
          refine Tri.at (by first | (simp only [c1, c3', Con.start, go_sem]; rfl) | rfl) ?_
          refine Tri.phT 5 (.slice true (.int .u8)) 1 rfl rfl ?_
          refine Tri.at (by first | (simp only [c1, c3', Con.start, go_sem]; rfl) | rfl) ?_
          refine Tri.rel true 5 rfl ?_ rfl rfl ?_
          · simp only [AS.blk, go_sem]
            repeat' constructor
          refine Tri.at (by first | (simp only [c1, c3', Con.start, go_sem]; rfl) | rfl) ?_
          refine Tri.rel true 6 rfl ?_ rfl rfl ?_
          · simp only [AS.blk, go_sem]
            repeat' constructor
          refine Tri.at (by first | (simp only [c1, c3', Con.start, go_sem]; rfl) | rfl) ?_
          refine Tri.ret ?_
          refine Con.fin (.inl rfl) (by simp only [Tryd.f20, cfgPG, resA, resA1, go_sem]; rfl) (by simp only [Obs, and_true, true_and]) ?_ ?_ rfl rfl
          · show AV.tuple [.pure (.slice true (.slice true (.int .u8))) ([] : List (List UInt8)), .pure (.slice true (.slice true (.int .u8))) ([] : List (List UInt8)), .int .i64 (0 : Int)] = AV.tuple [.pure (.slice true (.slice true (.int .u8))) (PP.rcv (ppM (ssM sy seed dr cn ts) key sd sn ex M oi ol xs) b).came, .pure (.slice true (.slice true (.int .u8))) (PP.rcv (ppM (ssM sy seed dr cn ts) key sd sn ex M oi ol xs) b).back, .int .i64 (PP.rcv (ppM (ssM sy seed dr cn ts) key sd sn ex M oi ol xs) b).e]
            rw [q1]
          · show lessHs _ (PP.rcv (ppM (ssM sy seed dr cn ts) key sd sn ex M oi ol xs) b).p.fin
            rw [q1]
            exact ⟨rfl, rfl, rfl, rfl, trivial⟩
        · have c3' : decide (ack < f) = false := decide_eq_false c3
          have hd : dN ack (l + 1) f = dN ack l (f + 1) + 1 := if_neg c3
          refine Tri.at (by first | (simp only [c1, c3', Con.start, go_sem]; rfl) | rfl) ?_
          repeat (first | ((first | refine Tri.seq (Tri.regT (cfgPG_ok.pins _) ?_) | refine Tri.rgnT (cfgPG_ok.pins _) ?_); (repeat (first | refine RunT.oneA (hp := by simp (maxSteps := 2000000) (disch := first | decide | omega | (simp only [List.length_append, List.length_cons, List.length_nil, List.length_take, List.length_drop]; omega)) only [c1, c3', go_sem]; rfl) (h := ?_) | refine RunT.notA (h := ?_))); refine RunT.nil ?_; try simp only [InBlock, Then]) | refine Tri.cF (by first | (simp only [c1, c3', go_sem]; done) | fail) ?_ | refine Tri.cT (by first | (simp only [c1, c3', go_sem]; done) | fail) ?_ | (refine Tri.skip ?_; try simp only [InBlock, Then]) | (refine Tri.exit ?_; simp only [Then, InBlock, if_true, if_false, ↓reduceIte, Nat.reduceEqDiff]) | refine Tri.seq (Tri.block ?_) | refine Tri.block ?_ | refine Tri.seq ?_ | (refine Tri.ret ?_; refine Con.fin (.inl rfl) (by simp only [Tryd.f20, cfgPG, resA, resA1, go_sem]; rfl) (by simp only [Obs, and_true, true_and]) (by first | (simp only [kRcv, Con.of, Con.ofO, resV, c1, c3', go_sem]; done) | fail) trivial rfl rfl))
          refine ⟨(i + 1, l, f + 1), ⟨(by show oi ≤ i + 1; omega), (by show i + 1 + l = oi + ol; omega), (by show dN ack ol f0 = (i + 1 - oi) + dN ack l (f + 1); rw [g3, hd]; omega)⟩, (by show l < l + 1; omega), Wk.of ?_ ?_ rfl rfl⟩
          · simp only [lessTs, List.reduceReplicate, List.cons_append, List.nil_append] <;> ((repeat' apply And.intro) <;> first | with_reducible rfl | exact True.intro | exact congrArg (fun z : Int => some (AV.int IntKind.i64 z)) (show (_ : Int) = _ by omega) | exact congrArg (fun z : Nat => some (AV.tsl _ _ _ _ _ z)) (show (_ : Nat) = _ by omega) | exact arrEq (by omega) (by with_reducible rfl))
          · exact ⟨rfl, rfl, rfl, rfl, rfl, trivial⟩
  have k2' : decide (nn.getD 1 0 = 0) = false := decide_eq_false k2
  replace q0 := q0.trans (if_neg k2)
  by_cases k3 : nn.getD 1 0 = ex
  · have k3' : decide (nn.getD 1 0 = ex) = true := decide_eq_true k3
    have q1 := q0.trans (if_pos k3)
    refine Tri.at (by first | (simp only [hr, k1', k2', k3', List.nil_append, List.length_nil, Con.start, go_sem]; rfl) | rfl) ?_
    repeat (first | ((first | refine Tri.seq (Tri.regT (cfgPG_ok.pins _) ?_) | refine Tri.rgnT (cfgPG_ok.pins _) ?_); (repeat (first | refine RunT.oneA (hp := by simp (maxSteps := 2000000) (disch := first | decide | omega | (simp only [List.length_append, List.length_cons, List.length_nil, List.length_take, List.length_drop]; omega)) only [hr, k1', k2', k3', List.nil_append, List.length_nil, go_sem]; rfl) (h := ?_) | refine RunT.notA (h := ?_))); refine RunT.nil ?_; try simp only [InBlock, Then]) | ((first | refine Tri.seq (Tri.drwT (mixed) (cfgPG_ok.pins _) ?_) | refine Tri.drnT (mixed) (cfgPG_ok.pins _) ?_); (repeat (first | refine RunD.oneA (hp := by simp (maxSteps := 2000000) (disch := first | decide | omega | (simp only [List.length_append, List.length_cons, List.length_nil, List.length_take, List.length_drop]; omega)) only [hr, k1', k2', k3', List.nil_append, List.length_nil, go_sem]; rfl) (h := ?_) | refine RunD.notA (h := ?_))); refine RunD.nil ?_; refine ⟨by kernel_rfl, ?_⟩; try simp only [InBlock, Then]) | refine Tri.cF (by first | (simp only [hr, k1', k2', k3', List.nil_append, List.length_nil, go_sem]; done) | fail) ?_ | refine Tri.cT (by first | (simp only [hr, k1', k2', k3', List.nil_append, List.length_nil, go_sem]; done) | fail) ?_ | (refine Tri.skip ?_; try simp only [InBlock, Then]) | (refine Tri.exit ?_; simp only [Then, InBlock, if_true, if_false, ↓reduceIte, Nat.reduceEqDiff]) | refine Tri.seq (Tri.block ?_) | refine Tri.block ?_ | refine Tri.seq ?_ | (refine Tri.ret ?_; refine Con.fin (.inl rfl) (by simp only [Tryd.f20, cfgPG, resA, resA1, go_sem]; rfl) (by simp only [Obs, and_true, true_and]) (by first | (simp only [kRcv, Con.of, Con.ofO, resV, hr, k1', k2', k3', List.nil_append, List.length_nil, go_sem]; done) | fail) trivial rfl rfl))
    refine Tri.rel true 6 rfl ?_ rfl rfl ?_
    · simp only [AS.blk, go_sem]
      repeat' constructor
    refine Tri.at (by first | (simp only [hr, k1', k2', k3', List.nil_append, List.length_nil, Con.start, go_sem]; rfl) | rfl) ?_
    refine Tri.rel true 7 rfl ?_ rfl rfl ?_
    · simp only [AS.blk, go_sem]
      repeat' constructor
    refine Tri.at (by first | (simp only [hr, k1', k2', k3', List.nil_append, List.length_nil, Con.start, go_sem]; rfl) | rfl) ?_
    refine Tri.ret ?_
    refine Con.fin (.inl rfl) (by simp only [Tryd.f20, cfgPG, resA, resA1, go_sem]; rfl) (by simp only [Obs, and_true, true_and]) ?_ ?_ rfl rfl
    · show AV.tuple [.pure (.slice true (.slice true (.int .u8))) ([da] : List (List UInt8)), .pure (.slice true (.slice true (.int .u8))) ([(PP.nxt (ppM (ssM sy seed dr cn ts) key sd sn ex M oi ol xs)).ans] : List (List UInt8)), .int .i64 (0 : Int)] = AV.tuple [.pure (.slice true (.slice true (.int .u8))) (PP.rcv (ppM (ssM sy seed dr cn ts) key sd sn ex M oi ol xs) b).came, .pure (.slice true (.slice true (.int .u8))) (PP.rcv (ppM (ssM sy seed dr cn ts) key sd sn ex M oi ol xs) b).back, .int .i64 (PP.rcv (ppM (ssM sy seed dr cn ts) key sd sn ex M oi ol xs) b).e]
      rw [q1]
    · show lessHs _ (PP.rcv (ppM (ssM sy seed dr cn ts) key sd sn ex M oi ol xs) b).p.fin
      rw [q1]
      exact ⟨rfl, rfl, rfl, rfl, trivial⟩
  · have k3' : decide (nn.getD 1 0 = ex) = false := decide_eq_false k3
    have q1 := q0.trans (if_neg k3)
    refine Tri.at (by first | (simp only [hr, k1', k2', k3', List.nil_append, List.length_nil, Con.start, go_sem]; rfl) | rfl) ?_
    repeat (first | ((first | refine Tri.seq (Tri.regT (cfgPG_ok.pins _) ?_) | refine Tri.rgnT (cfgPG_ok.pins _) ?_); (repeat (first | refine RunT.oneA (hp := by simp (maxSteps := 2000000) (disch := first | decide | omega | (simp only [List.length_append, List.length_cons, List.length_nil, List.length_take, List.length_drop]; omega)) only [hr, k1', k2', k3', List.nil_append, List.length_nil, go_sem]; rfl) (h := ?_) | refine RunT.notA (h := ?_))); refine RunT.nil ?_; try simp only [InBlock, Then]) | ((first | refine Tri.seq (Tri.drwT (mixed) (cfgPG_ok.pins _) ?_) | refine Tri.drnT (mixed) (cfgPG_ok.pins _) ?_); (repeat (first | refine RunD.oneA (hp := by simp (maxSteps := 2000000) (disch := first | decide | omega | (simp only [List.length_append, List.length_cons, List.length_nil, List.length_take, List.length_drop]; omega)) only [hr, k1', k2', k3', List.nil_append, List.length_nil, go_sem]; rfl) (h := ?_) | refine RunD.notA (h := ?_))); refine RunD.nil ?_; refine ⟨by kernel_rfl, ?_⟩; try simp only [InBlock, Then]) | refine Tri.cF (by first | (simp only [hr, k1', k2', k3', List.nil_append, List.length_nil, go_sem]; done) | fail) ?_ | refine Tri.cT (by first | (simp only [hr, k1', k2', k3', List.nil_append, List.length_nil, go_sem]; done) | fail) ?_ | (refine Tri.skip ?_; try simp only [InBlock, Then]) | (refine Tri.exit ?_; simp only [Then, InBlock, if_true, if_false, ↓reduceIte, Nat.reduceEqDiff]) | refine Tri.seq (Tri.block ?_) | refine Tri.block ?_ | refine Tri.seq ?_ | (refine Tri.ret ?_; refine Con.fin (.inl rfl) (by simp only [Tryd.f20, cfgPG, resA, resA1, go_sem]; rfl) (by simp only [Obs, and_true, true_and]) (by first | (simp only [kRcv, Con.of, Con.ofO, resV, hr, k1', k2', k3', List.nil_append, List.length_nil, go_sem]; done) | fail) trivial rfl rfl))
    refine Tri.phT 4 (.slice true (.int .u8)) 1 rfl rfl ?_
    refine Tri.at (by first | (simp only [hr, k1', k2', k3', List.nil_append, List.length_nil, Con.start, go_sem]; rfl) | rfl) ?_
    refine Tri.rel true 5 rfl ?_ rfl rfl ?_
    · simp only [AS.blk, go_sem]
      repeat' constructor
    refine Tri.at (by first | (simp only [hr, k1', k2', k3', List.nil_append, List.length_nil, Con.start, go_sem]; rfl) | rfl) ?_
    refine Tri.rel true 6 rfl ?_ rfl rfl ?_
    · simp only [AS.blk, go_sem]
      repeat' constructor
    refine Tri.at (by first | (simp only [hr, k1', k2', k3', List.nil_append, List.length_nil, Con.start, go_sem]; rfl) | rfl) ?_
    refine Tri.ret ?_
    refine Con.fin (.inl rfl) (by simp only [Tryd.f20, cfgPG, resA, resA1, go_sem]; rfl) (by simp only [Obs, and_true, true_and]) ?_ ?_ rfl rfl
    · show AV.tuple [.pure (.slice true (.slice true (.int .u8))) ([] : List (List UInt8)), .pure (.slice true (.slice true (.int .u8))) ([PP.ans (ppM (ssM sy seed dr cn ts) key sd sn ex M oi ol xs)] : List (List UInt8)), .int .i64 (0 : Int)] = AV.tuple [.pure (.slice true (.slice true (.int .u8))) (PP.rcv (ppM (ssM sy seed dr cn ts) key sd sn ex M oi ol xs) b).came, .pure (.slice true (.slice true (.int .u8))) (PP.rcv (ppM (ssM sy seed dr cn ts) key sd sn ex M oi ol xs) b).back, .int .i64 (PP.rcv (ppM (ssM sy seed dr cn ts) key sd sn ex M oi ol xs) b).e]
      rw [q1]
    · show lessHs _ (PP.rcv (ppM (ssM sy seed dr cn ts) key sd sn ex M oi ol xs) b).p.fin
      rw [q1]
      exact ⟨rfl, rfl, rfl, rfl, trivial⟩
theorem prc_sum : FSumOK Tryd.prog cfgPG.G 20 kRcv.sum := Con.sumOK cfgPG_ok kRcv Tryd.func20 rfl rfl (Con.ofO_inv _ _ _ _) prc_body
end
end Go.Proofs.YtlnkfdblkdhdgaaDoor

namespace Go.Proofs.YtlnkfdblkdhdgaaDoor
open Go.Vc Go.Proofs
set_option maxRecDepth 10000
set_option maxHeartbeats 4000000
structure PG (p : PP) : Prop where
  key : p.key.length = 16
  in_ : p.i + p.len ≤ p.N
  xs : p.xs.length = p.N
  len : p.len ≤ 8
  bx : ∀ b ∈ p.xs, List.length b ≤ 100000
structure SG (n : Nat) (s : SS) : Prop where
  sy : s.Sy
  len : s.ts.length ≤ n
def PP.at (p : PP) (s : SS) : PP := ppM s p.key p.sd p.sn p.ex p.N p.i p.len p.xs
theorem PG.at {p : PP} (h : PG p) (s : SS) : PG (p.at s) := ⟨h.key, h.in_, h.xs, h.len, h.bx⟩
theorem at_at (p : PP) (s t : SS) : (p.at s).at t = p.at t := rfl
theorem at_self (p : PP) : p.at p.s = p := rfl
theorem box_len {s : SS} (hs : s.sy = true) {key : List UInt8} {us : Int} {d : List UInt8} : (s.box key us d).length ≤ 9 := by
  by_cases h : 2000 < d.length
  · rw [box_long h]; exact Nat.zero_le _
  · rw [box_sy hs (by omega), List.length_cons, wd_len]; exact Nat.le_refl _
theorem SG.put {n : Nat} {s : SS} (h : SG n s) (hn : n ≤ 900000) (key : List UInt8) (us : Int) (d : List UInt8) : SG (n + 1) (s.put key us d) :=
  ⟨h.sy.put (by have := h.len; omega), by have := h.len; have := put_len (s := s) (key := key) (us := us) (d := d); omega⟩
theorem SG.mono {n m : Nat} {s : SS} (h : SG n s) (hn : n ≤ m) : SG m s := ⟨h.sy, Nat.le_trans h.len hn⟩
theorem SG.new (sd : List UInt8) : SG 0 (ssM true sd 0 0 []) := ⟨⟨rfl, rfl, fun t ht => by cases ht⟩, Nat.le_refl _⟩
theorem PG.new {s : SS} {key : List UInt8} {n : Int} (h : key.length = 16) : PG (PP.new s key n) := ⟨h, Nat.le_refl _, rfl, Nat.zero_le _, fun b hb => by cases hb⟩
theorem out_len {p : PP} (h : PG p) : p.out.length = p.len := by
  have h1 := h.in_
  have h2 := h.xs
  rw [PP.out, List.length_take, List.length_drop]
  omega
theorem PG.snd {p : PP} (h : PG p) (hs : p.s.sy = true) (d : List UInt8) : PG (p.snd d) := by
  unfold PP.snd
  split
  · exact h
  · split
    · exact h
    · rename_i h1 h2
      refine ⟨h.key, by show 0 + (p.len + 1) ≤ p.len + 1; omega, ?_, by show p.len + 1 ≤ 8; omega, ?_⟩
      · show (p.out ++ [_]).length = p.len + 1
        rw [List.length_append, out_len h]; rfl
      · intro b hb
        rcases List.mem_append.1 hb with hb | hb
        · exact h.bx b (List.mem_of_mem_drop (List.mem_of_mem_take hb))
        · rw [List.mem_singleton] at hb
          subst hb
          have := box_len (s := p.s) hs (key := p.key) (us := 6) (d := p.pay (p.sn + 1) 0 d)
          show (p.s.box p.key 6 (p.pay (p.sn + 1) 0 d)).length ≤ 100000
          omega
theorem SG.snd {n : Nat} {p : PP} (h : SG n p.s) (hn : n ≤ 900000) (d : List UInt8) : SG (n + 1) (p.snd d).s := by
  unfold PP.snd
  split
  · exact h.mono (by omega)
  · split
    · exact h.mono (by omega)
    · exact h.put hn _ _ _
theorem PG.rcv {p : PP} (h : PG p) (b : List UInt8) : PG (p.rcv b).p := by
  unfold PP.rcv
  split
  · split
    · refine ⟨h.key, ?_, h.xs, ?_, h.bx⟩
      · have h1 := h.in_
        have h2 := dN_le ((opR p b).1.getD 2 0) p.len (p.sn - UInt64.ofInt (p.len : Int) + 1)
        show p.i + dN _ p.len _ + (p.len - dN _ p.len _) ≤ p.N
        omega
      · have h1 := h.len
        show p.len - dN _ p.len _ ≤ 8
        omega
    · split
      · exact ⟨h.key, h.in_, h.xs, h.len, h.bx⟩
      · exact ⟨h.key, h.in_, h.xs, h.len, h.bx⟩
  · exact h
theorem SG.rcv {n : Nat} {p : PP} (h : SG n p.s) (hn : n ≤ 900000) (b : List UInt8) : SG (n + 1) (p.rcv b).p.s := by
  unfold PP.rcv
  split
  · split
    · exact h.mono (by omega)
    · split
      · exact h.put hn _ _ _
      · exact h.put hn _ _ _
  · exact h.mono (by omega)
def kNewPK : SumK := keepS [1, 0] kNewP.sum
theorem pnK_sum : FSumOK Tryd.prog shaG 16 kNewPK.sum := pnw_sum.keep [1, 0]
theorem eqT_k (x : List UInt8) : eqT k16 x x = true := decide_eq_true rfl
theorem strEq_id (x : List UInt8) : strEq x x = true := decide_eq_true rfl
end Go.Proofs.YtlnkfdblkdhdgaaDoor

namespace Go.Proofs.YtlnkfdblkdhdgaaDoor
open Go.Vc Go.Proofs
set_option maxRecDepth 10000
set_option maxHeartbeats 4000000
def spS : SS := ssM true [0, 0, 0, 0, 0, 0, 0, 0, 0, 0, 0, 0, 0, 0, 0, 0] 0 0 []
def spA0 : PP := PP.new spS [1, 0, 0, 0, 0, 0, 0, 0, 0, 0, 0, 0, 0, 0, 0, 0] 0
def spB0 : PP := PP.new spS [1, 0, 0, 0, 0, 0, 0, 0, 0, 0, 0, 0, 0, 0, 0, 0] 1
def spA1 : PP := spA0.snd [120]
def spC0 : PP := spB0.at spA1.s
def spB1 : PP := (spC0.rcv [83, 0, 0, 0, 0, 0, 0, 0, 0]).p
def spC1 : PP := spA1.at spB1.s
def spA2 : PP := (spC1.rcv [83, 0, 0, 0, 0, 0, 0, 0, 1]).p
def spC2 : PP := spB1.at spA2.s
def spB2 : PP := (spC2.rcv [83, 0, 0, 0, 0, 0, 0, 0, 0]).p
def spC3 : PP := spA2.at spB2.s
theorem sp_x1 : ppM (ssM true [0, 0, 0, 0, 0, 0, 0, 0, 0, 0, 0, 0, 0, 0, 0, 0] 0 0 []) (PP.new (ssM true [0, 0, 0, 0, 0, 0, 0, 0, 0, 0, 0, 0, 0, 0, 0, 0] 0 0 []) [1, 0, 0, 0, 0, 0, 0, 0, 0, 0, 0, 0, 0, 0, 0, 0] 0).key (PP.new (ssM true [0, 0, 0, 0, 0, 0, 0, 0, 0, 0, 0, 0, 0, 0, 0, 0] 0 0 []) [1, 0, 0, 0, 0, 0, 0, 0, 0, 0, 0, 0, 0, 0, 0, 0] 0).sd (PP.new (ssM true [0, 0, 0, 0, 0, 0, 0, 0, 0, 0, 0, 0, 0, 0, 0, 0] 0 0 []) [1, 0, 0, 0, 0, 0, 0, 0, 0, 0, 0, 0, 0, 0, 0, 0] 0).sn (PP.new (ssM true [0, 0, 0, 0, 0, 0, 0, 0, 0, 0, 0, 0, 0, 0, 0, 0] 0 0 []) [1, 0, 0, 0, 0, 0, 0, 0, 0, 0, 0, 0, 0, 0, 0, 0] 0).ex (PP.new (ssM true [0, 0, 0, 0, 0, 0, 0, 0, 0, 0, 0, 0, 0, 0, 0, 0] 0 0 []) [1, 0, 0, 0, 0, 0, 0, 0, 0, 0, 0, 0, 0, 0, 0, 0] 0).N (PP.new (ssM true [0, 0, 0, 0, 0, 0, 0, 0, 0, 0, 0, 0, 0, 0, 0, 0] 0 0 []) [1, 0, 0, 0, 0, 0, 0, 0, 0, 0, 0, 0, 0, 0, 0, 0] 0).i (PP.new (ssM true [0, 0, 0, 0, 0, 0, 0, 0, 0, 0, 0, 0, 0, 0, 0, 0] 0 0 []) [1, 0, 0, 0, 0, 0, 0, 0, 0, 0, 0, 0, 0, 0, 0, 0] 0).len (PP.new (ssM true [0, 0, 0, 0, 0, 0, 0, 0, 0, 0, 0, 0, 0, 0, 0, 0] 0 0 []) [1, 0, 0, 0, 0, 0, 0, 0, 0, 0, 0, 0, 0, 0, 0, 0] 0).xs = spA0 := rfl
theorem sp_xs : spA0.snd [120] = spA1 := rfl
theorem sp_xe : spA0.sndE [120] = 0 := by kernel_rfl
theorem sp_o1 : spA1.out = [[83, 0, 0, 0, 0, 0, 0, 0, 0]] := by kernel_rfl
theorem sp_x2 : ppM spA1.s (PP.new (ssM true [0, 0, 0, 0, 0, 0, 0, 0, 0, 0, 0, 0, 0, 0, 0, 0] 0 0 []) [1, 0, 0, 0, 0, 0, 0, 0, 0, 0, 0, 0, 0, 0, 0, 0] 1).key (PP.new (ssM true [0, 0, 0, 0, 0, 0, 0, 0, 0, 0, 0, 0, 0, 0, 0, 0] 0 0 []) [1, 0, 0, 0, 0, 0, 0, 0, 0, 0, 0, 0, 0, 0, 0, 0] 1).sd (PP.new (ssM true [0, 0, 0, 0, 0, 0, 0, 0, 0, 0, 0, 0, 0, 0, 0, 0] 0 0 []) [1, 0, 0, 0, 0, 0, 0, 0, 0, 0, 0, 0, 0, 0, 0, 0] 1).sn (PP.new (ssM true [0, 0, 0, 0, 0, 0, 0, 0, 0, 0, 0, 0, 0, 0, 0, 0] 0 0 []) [1, 0, 0, 0, 0, 0, 0, 0, 0, 0, 0, 0, 0, 0, 0, 0] 1).ex (PP.new (ssM true [0, 0, 0, 0, 0, 0, 0, 0, 0, 0, 0, 0, 0, 0, 0, 0] 0 0 []) [1, 0, 0, 0, 0, 0, 0, 0, 0, 0, 0, 0, 0, 0, 0, 0] 1).N (PP.new (ssM true [0, 0, 0, 0, 0, 0, 0, 0, 0, 0, 0, 0, 0, 0, 0, 0] 0 0 []) [1, 0, 0, 0, 0, 0, 0, 0, 0, 0, 0, 0, 0, 0, 0, 0] 1).i (PP.new (ssM true [0, 0, 0, 0, 0, 0, 0, 0, 0, 0, 0, 0, 0, 0, 0, 0] 0 0 []) [1, 0, 0, 0, 0, 0, 0, 0, 0, 0, 0, 0, 0, 0, 0, 0] 1).len (PP.new (ssM true [0, 0, 0, 0, 0, 0, 0, 0, 0, 0, 0, 0, 0, 0, 0, 0] 0 0 []) [1, 0, 0, 0, 0, 0, 0, 0, 0, 0, 0, 0, 0, 0, 0, 0] 1).xs = spC0 := rfl
theorem sp_c1 : (spC0.rcv [83, 0, 0, 0, 0, 0, 0, 0, 0]).came = [[120]] := by kernel_rfl
theorem sp_d1 : (spC0.rcv [83, 0, 0, 0, 0, 0, 0, 0, 0]).back = [[83, 0, 0, 0, 0, 0, 0, 0, 1]] := by kernel_rfl
theorem sp_e1 : (spC0.rcv [83, 0, 0, 0, 0, 0, 0, 0, 0]).e = 0 := by kernel_rfl
theorem sp_p1 : (spC0.rcv [83, 0, 0, 0, 0, 0, 0, 0, 0]).p = spB1 := rfl
theorem sp_x3 : ppM spB1.s spA1.key spA1.sd spA1.sn spA1.ex spA1.N spA1.i spA1.len spA1.xs = spC1 := rfl
theorem sp_p2 : (spC1.rcv [83, 0, 0, 0, 0, 0, 0, 0, 1]).p = spA2 := rfl
theorem sp_x4 : ppM spA2.s spB1.key spB1.sd spB1.sn spB1.ex spB1.N spB1.i spB1.len spB1.xs = spC2 := rfl
theorem sp_c3 : (spC2.rcv [83, 0, 0, 0, 0, 0, 0, 0, 0]).came = [] := by kernel_rfl
theorem sp_d3 : (spC2.rcv [83, 0, 0, 0, 0, 0, 0, 0, 0]).back = [[83, 0, 0, 0, 0, 0, 0, 0, 2]] := by kernel_rfl
theorem sp_e3 : (spC2.rcv [83, 0, 0, 0, 0, 0, 0, 0, 0]).e = 0 := by kernel_rfl
theorem sp_p3 : (spC2.rcv [83, 0, 0, 0, 0, 0, 0, 0, 0]).p = spB2 := rfl
theorem sp_x5 : ppM spB2.s spA2.key spA2.sd spA2.sn spA2.ex spA2.N spA2.i spA2.len spA2.xs = spC3 := rfl
theorem sp_l5 : spC3.len = 0 := by kernel_rfl
theorem spG :
    (SG 10 spS ∧ SG 10 spA1.s ∧ SG 10 spB1.s ∧ SG 10 spA2.s ∧ SG 10 spB2.s) ∧ PG spA0 ∧ PG spB0 ∧ PG spA1 ∧ PG spB1 ∧ PG spA2 ∧ PG spB2 := by
  have g0 : SG 0 spS := SG.new _
  have a0 : PG spA0 := PG.new rfl
  have b0 : PG spB0 := PG.new rfl
  have a1 : PG spA1 := a0.snd rfl _
  have g1 : SG 1 spA1.s := SG.snd (p := spA0) g0 (by omega) _
  have b1 : PG spB1 := (b0.at spA1.s).rcv _
  have g2 : SG 2 spB1.s := SG.rcv (p := spC0) g1 (by omega) _
  have a2 : PG spA2 := (a1.at spB1.s).rcv _
  have g3 : SG 3 spA2.s := SG.rcv (p := spC1) g2 (by omega) _
  have b2 : PG spB2 := (b1.at spA2.s).rcv _
  have g4 : SG 4 spB2.s := SG.rcv (p := spC2) g3 (by omega) _
  exact ⟨⟨g0.mono (by omega), g1.mono (by omega), g2.mono (by omega), g3.mono (by omega), g4.mono (by omega)⟩, a0, b0, a1, b1, a2, b2⟩
def kSpk14 : Con := Con.of [] (fun _ => []) (fun _ => ⟨.bool true, []⟩)
def cfgPS : Cfg2 := { ty := tyTabW, fn := fun | 15 => some kNewS.sum | 16 => some kNewPK.sum | 17 => some kSnd.sum | 18 => some kBxs.sum | 20 => some kRcv.sum | 22 => some kOpP.sum | _ => none, G := shaG, pin := [], eq := eqS }
theorem cfgPS_ok : CfgOK Tryd.prog cfgPS := ⟨tyTabW_ok, (fun f s h => by
  simp only [cfgPS] at h
  split at h
  · injection h with h; subst h; exact .inl newS_sum
  · injection h with h; subst h; exact .inl pnK_sum
  · injection h with h; subst h; exact .inl psd_sum
  · injection h with h; subst h; exact .inl pbs_sum
  · injection h with h; subst h; exact .inl prc_sum
  · injection h with h; subst h; exact .inl pop_sum
  · cases h), eqS_ok⟩
section
attribute [local go_sem] Tryd.f13 kSpk14 kNewS kNewPK kNewP kSnd kBxs kRcv kOpP cfgPS tyTabW withP tyTabV tyTabM tyTabS pipT eqS ssM_eta slM ppM_eta plM eqT_k strEq_id
theorem spk_body (p : kSpk14.Par) (hp : ∀ q ∈ kSpk14.pre p, q) : BodyOK Tryd.prog cfgPS Tryd.f13 (Tryd.f13.body.get rfl) kSpk14 p := by
  refine ⟨?_, Nat.zero_le _, rfl, rfl⟩
  show Tri _ _ _ (Code.seq _ (Code.seq _ (Code.seq (Code.seq _ (Code.cond _ (Code.seq _ _) _)) (Code.seq _ (Code.seq (Code.seq _ (Code.cond _ (Code.seq _ _) _)) (Code.seq _ (Code.seq _ (Code.seq (Code.seq _ (Code.cond _ (Code.seq _ _) _)) (Code.seq _ (Code.seq _ (Code.seq _ _))))))))))) _
  obtain ⟨⟨g0, g1, g2, g3, g4⟩, a0, b0, a1, b1, a2, b2⟩ := spG
  replace a0 : PG (PP.new (ssM true [0, 0, 0, 0, 0, 0, 0, 0, 0, 0, 0, 0, 0, 0, 0, 0] 0 0 []) [1, 0, 0, 0, 0, 0, 0, 0, 0, 0, 0, 0, 0, 0, 0, 0] 0) := a0
  replace b0 : PG (PP.new (ssM true [0, 0, 0, 0, 0, 0, 0, 0, 0, 0, 0, 0, 0, 0, 0, 0] 0 0 []) [1, 0, 0, 0, 0, 0, 0, 0, 0, 0, 0, 0, 0, 0, 0, 0] 1) := b0
  replace g0 : SG 10 (ssM true [0, 0, 0, 0, 0, 0, 0, 0, 0, 0, 0, 0, 0, 0, 0, 0] 0 0 []) := g0
  have g0l := g0.len
  have g0k := g0.sy.ok
  have g1l := g1.len
  have g1k := g1.sy.ok
  have g2l := g2.len
  have g2k := g2.sy.ok
  have g3l := g3.len
  have g3k := g3.sy.ok
  have g4l := g4.len
  have g4k := g4.sy.ok
  have a0k := a0.key
  have a0i := a0.in_
  have a0x := a0.xs
  have a0l := a0.len
  have a0b := a0.bx
  have b0k := b0.key
  have b0i := b0.in_
  have b0x := b0.xs
  have b0l := b0.len
  have b0b := b0.bx
  have a1k := a1.key
  have a1i := a1.in_
  have a1x := a1.xs
  have a1l := a1.len
  have a1b := a1.bx
  have b1k := b1.key
  have b1i := b1.in_
  have b1x := b1.xs
  have b1l := b1.len
  have b1b := b1.bx
  have a2k := a2.key
  have a2i := a2.in_
  have a2x := a2.xs
  have a2l := a2.len
  have a2b := a2.bx
  have b2k := b2.key
  have b2i := b2.in_
  have b2x := b2.xs
  have b2l := b2.len
  have b2b := b2.bx
  have z1 : decide (((0 : Nat) : Int) = 0) = true := rfl
  have z2 : decide ((0 : Int) = 0) = true := rfl
  have z3 : decide ((1 : Int) = 1) = true := rfl
  have z4 : decide (((1 : Nat) : Int) = 1) = true := rfl
  have h_x1 := sp_x1
  have h_xs := sp_xs
  have h_xe := sp_xe
  have h_o1 := sp_o1
  have h_x2 := sp_x2
  have h_c1 := sp_c1
  have h_d1 := sp_d1
  have h_e1 := sp_e1
  have h_p1 := sp_p1
  have h_x3 := sp_x3
  have h_p2 := sp_p2
  have h_x4 := sp_x4
  have h_c3 := sp_c3
  have h_d3 := sp_d3
  have h_e3 := sp_e3
  have h_p3 := sp_p3
  have h_x5 := sp_x5
  have h_l5 := sp_l5
  refine Tri.at (by first | (simp only [h_x1, h_xs, h_xe, h_o1, h_x2, h_c1, h_d1, h_e1, h_p1, h_x3, h_p2, h_x4, h_c3, h_d3, h_e3, h_p3, h_x5, h_l5, z1, z2, z3, z4, Con.start, go_sem]; rfl) | rfl) ?_
  repeat (first | ((first | refine Tri.seq (Tri.regT (cfgPS_ok.pins _) ?_) | refine Tri.rgnT (cfgPS_ok.pins _) ?_); (repeat (first | refine RunT.oneA (hp := by simp (maxSteps := 2000000) (disch := first | decide | omega | (simp only [List.length_append, List.length_cons, List.length_nil, List.length_take, List.length_drop]; omega)) only [h_x1, h_xs, h_xe, h_o1, h_x2, h_c1, h_d1, h_e1, h_p1, h_x3, h_p2, h_x4, h_c3, h_d3, h_e3, h_p3, h_x5, h_l5, z1, z2, z3, z4, go_sem]; rfl) (h := ?_) | refine RunT.notA (h := ?_))); refine RunT.nil ?_; try simp only [InBlock, Then]) | refine Tri.cF (by first | (simp only [h_x1, h_xs, h_xe, h_o1, h_x2, h_c1, h_d1, h_e1, h_p1, h_x3, h_p2, h_x4, h_c3, h_d3, h_e3, h_p3, h_x5, h_l5, z1, z2, z3, z4, go_sem]; done) | fail) ?_ | refine Tri.cT (by first | (simp only [h_x1, h_xs, h_xe, h_o1, h_x2, h_c1, h_d1, h_e1, h_p1, h_x3, h_p2, h_x4, h_c3, h_d3, h_e3, h_p3, h_x5, h_l5, z1, z2, z3, z4, go_sem]; done) | fail) ?_ | (refine Tri.skip ?_; try simp only [InBlock, Then]) | (refine Tri.exit ?_; simp only [Then, InBlock, if_true, if_false, ↓reduceIte, Nat.reduceEqDiff]) | refine Tri.seq (Tri.block ?_) | refine Tri.block ?_ | refine Tri.seq ?_ | (refine Tri.ret ?_; refine Con.fin (.inl rfl) (by simp only [Tryd.f13, cfgPS, resA, resA1, go_sem]; rfl) (by simp only [Obs, and_true, true_and]) (by first | (simp only [kSpk14, Con.of, Con.ofO, resV, h_x1, h_xs, h_xe, h_o1, h_x2, h_c1, h_d1, h_e1, h_p1, h_x3, h_p2, h_x4, h_c3, h_d3, h_e3, h_p3, h_x5, h_l5, z1, z2, z3, z4, go_sem]; done) | fail) trivial rfl rfl))
theorem spk_sum : FSumOK Tryd.prog cfgPS.G 13 kSpk14.sum := Con.sumOK cfgPS_ok kSpk14 Tryd.func13 rfl rfl (Con.of_inv _ _ _) spk_body
end
end Go.Proofs.YtlnkfdblkdhdgaaDoor

namespace Go.Proofs.YtlnkfdblkdhdgaaDoor
open Go.Vc Go.Proofs
set_option maxRecDepth 10000
def bvN (b : List UInt8) : Nat → Nat
  | 0 => 0
  | i + 1 => bvN b i * 256 + (b.getD i 0).toNat
theorem bvN_lt (b : List UInt8) : ∀ i, bvN b i < 256 ^ i
  | 0 => by simp [bvN]
  | i + 1 => by
    have h := bvN_lt b i
    have h2 := UInt8.toNat_lt (b.getD i 0)
    rw [bvN, Nat.pow_succ]
    omega
theorem rdI_bvN (b : List UInt8) : ∀ i, i ≤ 8 → (rdI b i).toNat = bvN b i
  | 0, _ => rfl
  | i + 1, h => by
    have ih := rdI_bvN b i (by omega)
    have hl := bvN_lt b i
    have h256 : 256 ^ i ≤ 256 ^ 7 := Nat.pow_le_pow_right (by decide) (by omega)
    have h2 := UInt8.toNat_lt (b.getD i 0)
    have h7 : 256 ^ 7 * 256 = 2 ^ 64 := by decide
    rw [rdI, bvN, UInt64.toNat_or, UInt64.toNat_shiftLeft, ih]
    have e8 : (8 : UInt64).toNat % 64 = 8 := rfl
    rw [e8, Nat.shiftLeft_eq, Nat.mod_eq_of_lt (by omega), UInt8.toNat_toUInt64]
    have h3 := Nat.two_pow_add_eq_or_of_lt (i := 8) (b := (b.getD i 0).toNat) (by omega) (bvN b i)
    rw [Nat.mul_comm (bvN b i) (2 ^ 8), ← h3]
    try omega
theorem bvN_foldl (b : List UInt8) : ∀ i, i ≤ b.length → bvN b i = (b.take i).foldl (fun a x => a * 256 + UInt8.toNat x) 0
  | 0, _ => rfl
  | i + 1, h => by
    rw [bvN, bvN_foldl b i (by omega), List.take_add_one, List.getElem?_eq_getElem (by omega), List.foldl_append, List.getD_eq_getElem?_getD, List.getElem?_eq_getElem (by omega)]
    rfl
def lvN : List UInt8 → Nat
  | [] => 0
  | b :: r => lvN r * 256 + b.toNat
theorem bvN_rev (l : List UInt8) : bvN l.reverse l.length = lvN l := by
  have h := bvN_foldl l.reverse l.length (by rw [List.length_reverse]; exact Nat.le_refl _)
  rw [h, List.take_of_length_le (by rw [List.length_reverse]; exact Nat.le_refl _), List.foldl_reverse]
  induction l with
  | nil => rfl
  | cons b r ih =>
    rw [List.foldr_cons, lvN]
    have : List.foldr (fun x y => y * 256 + UInt8.toNat x) 0 r = lvN r := by
      have h2 := bvN_foldl r.reverse r.length (by rw [List.length_reverse]; exact Nat.le_refl _)
      exact ih (by rw [h2, List.take_of_length_le (by rw [List.length_reverse]; exact Nat.le_refl _), List.foldl_reverse])
    rw [this]
theorem shr8_nat (n : UInt64) : (n >>> 8).toNat = n.toNat / 256 := by
  rw [UInt64.toNat_shiftRight]; simp [Nat.shiftRight_eq_div_pow]
theorem lvN_leN : ∀ (k : Nat) (n : UInt64), n.toNat < 256 ^ k → lvN (leN k n) = n.toNat
  | 0, n, h => by
    have : n.toNat = 0 := by simpa using h
    rw [leN, this]; rfl
  | k + 1, n, h => by
    unfold leN
    split
    · rename_i e; rw [e]; rfl
    · have h1 := shr8_nat n
      have ih := lvN_leN k (n >>> 8) (shr8_lt h)
      rw [lvN, ih, h1, UInt64.toNat_toUInt8]
      have := Nat.div_add_mod n.toNat 256
      have e : (2 : Nat) ^ 8 = 256 := rfl
      rw [e]
      omega
theorem leN_last : ∀ (k : Nat) (n : UInt64), n.toNat < 256 ^ k → ∀ h : leN k n ≠ [], (leN k n).getLast h ≠ 0
  | 0, n, _, h => absurd rfl h
  | k + 1, n, hn, h => by
    have hz : n ≠ 0 := fun e => h (by unfold leN; rw [if_pos e])
    have e : leN (k + 1) n = n.toUInt8 :: leN k (n >>> 8) := by
      conv => lhs; unfold leN
      rw [if_neg hz]
    simp only [e]
    by_cases h0 : leN k (n >>> 8) = []
    · have h1 := lvN_leN k (n >>> 8) (shr8_lt hn)
      rw [h0, shr8_nat] at h1
      have h2 : n.toNat / 256 = 0 := h1.symm
      have h3 : n.toNat < 256 := by omega
      simp only [h0, List.getLast_singleton]
      intro hb
      have h4 : n.toUInt8.toNat = 0 := by rw [hb]; rfl
      rw [UInt64.toNat_toUInt8] at h4
      have h5 : n.toNat = 0 := by
        have e8 : (2 : Nat) ^ 8 = 256 := rfl
        rw [e8] at h4
        omega
      exact hz (UInt64.toNat_inj.1 h5)
    · rw [List.getLast_cons h0]
      exact leN_last k (n >>> 8) (shr8_lt hn) h0
theorem rd_num (n : UInt64) : rdB (numS n) = true ∧ rdU (numS n) = n := by
  have hn : n.toNat < 256 ^ 8 := UInt64.toNat_lt n
  have hl := numS_len n
  have hb : rdB (numS n) = true := by
    rw [rdB, decide_eq_false (by omega : ¬ (8 : Int) < ((numS n).length : Int)), Bool.false_or]
    cases hd : decide ((0 : Int) < ((numS n).length : Int)) with
    | false => rfl
    | true =>
      have hp : 0 < (numS n).length := by have := of_decide_eq_true hd; omega
      have hne : leN 8 n ≠ [] := fun e => by rw [numS, e] at hp; simp at hp
      have hla := leN_last 8 n hn hne
      have hg : (numS n).getD 0 0 = (leN 8 n).getLast hne := by
        rw [numS, List.getD_eq_getElem?_getD, ← List.head?_eq_getElem?, List.head?_reverse, List.getLast?_eq_some_getLast hne]
        rfl
      rw [hg, decide_eq_false hla]; rfl
  refine ⟨hb, ?_⟩
  rw [rdU, if_pos hb]
  refine UInt64.toNat_inj.1 ?_
  rw [rdI_bvN _ _ hl]
  have h1 := bvN_rev (leN 8 n)
  have h2 : (numS n).length = (leN 8 n).length := by rw [numS, List.length_reverse]
  rw [h2]
  show bvN (leN 8 n).reverse (leN 8 n).length = _
  rw [h1, lvN_leN 8 n hn]
def flBK (f : flK.T) : List UInt8 := [UInt8.ofInt (f.1 : Int), UInt8.ofInt (shrT .i64 ((List.length (α := UInt8) f.2.1 : Nat) : Int) 8), UInt8.ofInt ((List.length (α := UInt8) f.2.1 : Nat) : Int)] ++ f.2.1
def jnK (fs : List flK.T) : List UInt8 := (fs.map flBK).flatten
def fkOK (f : flK.T) : Prop := 1 ≤ (f.1 : Int) ∧ (f.1 : Int) ≤ 255 ∧ List.length (α := UInt8) f.2.1 ≤ 65535
theorem flBK_len (f : flK.T) : (flBK f).length = List.length (α := UInt8) f.2.1 + 3 := by rw [flBK, List.length_append]; show 3 + _ = _; omega
theorem ofInt8 (x : Int) (h0 : 0 ≤ x) : (UInt8.ofInt x).toNat = x.toNat % 256 := by
  rw [UInt8.ofInt, UInt8.toNat_ofNat']
  omega
theorem shr8i (n : Nat) : (shrT .i64 ((n : Nat) : Int) 8 : Int) = ((n / 256 : Nat) : Int) := by
  have h := toI_shrT .i64 ((n : Nat) : Int) 8
  have e : toI .i64 (shrT .i64 ((n : Nat) : Int) 8) = (shrT .i64 ((n : Nat) : Int) 8 : Int) := rfl
  rw [← e, h]
  show Int.fdiv ((n : Nat) : Int) (2 ^ min 8 64) = _
  rw [Int.fdiv_eq_ediv_of_nonneg _ (by decide)]
  have : ((2 : Int) ^ min 8 64) = 256 := by decide
  rw [this]
  omega
theorem sp_one {f : flK.T} {p : List UInt8} {k : Nat} {acc : List flK.T} (hf : fkOK f) : spF (k + 1) (flBK f ++ p) acc = spF k p (acc ++ [f]) := by
  obtain ⟨(t : Int), (v : List UInt8), u⟩ := f
  obtain ⟨a1, a2, a3⟩ := hf
  replace a1 : 1 ≤ t := a1
  replace a2 : t ≤ 255 := a2
  replace a3 : v.length ≤ 65535 := a3
  have hd : flBK ((t, v, u) : flK.T) ++ p = UInt8.ofInt t :: UInt8.ofInt (shrT .i64 ((v.length : Nat) : Int) 8) :: UInt8.ofInt ((v.length : Nat) : Int) :: (v ++ p) := rfl
  rw [hd]
  have c1 : (UInt8.ofInt t).toNat = t.toNat := by rw [ofInt8 _ (by omega)]; omega
  have c2 : (UInt8.ofInt (shrT .i64 ((v.length : Nat) : Int) 8)).toNat = v.length / 256 := by rw [shr8i, ofInt8 _ (by omega)]; omega
  have c3 : (UInt8.ofInt ((v.length : Nat) : Int)).toNat = v.length % 256 := by rw [ofInt8 _ (by omega)]; omega
  generalize hx : UInt8.ofInt t = x at c1
  generalize hy : UInt8.ofInt (shrT .i64 ((v.length : Nat) : Int) 8) = y at c2
  generalize hz : UInt8.ofInt ((v.length : Nat) : Int) = z at c3
  have hx0 : x ≠ 0 := fun e => by
    have : x.toNat = 0 := by rw [e]; rfl
    omega
  have hn : spN (x :: y :: z :: (v ++ p)) = v.length := by
    show y.toNat * 256 + z.toNat = _
    omega
  have hdr : List.drop 3 (x :: y :: z :: (v ++ p)) = v ++ p := rfl
  have hl : (x :: y :: z :: (v ++ p)).length = v.length + p.length + 3 := by simp only [List.length_cons, List.length_append]
  rw [spF, if_neg (by rw [hl]; omega), if_neg (by show ¬ x = 0; exact hx0), if_neg (by rw [hl]; omega), if_neg (by rw [hn, hl]; omega), hn, hdr, List.drop_left, List.take_left]
  show spF k p (acc ++ [(((x.toNat : Nat) : Int), v, ())]) = _
  rw [c1, show ((t.toNat : Nat) : Int) = t by omega]
theorem sp_all : ∀ (fs : List flK.T) (k : Nat) (p : List UInt8) (acc : List flK.T), (∀ f ∈ fs, fkOK f) → spF (k + fs.length) (jnK fs ++ p) acc = spF k p (acc ++ fs)
  | [], k, p, acc, _ => by
    show spF k ([] ++ p) acc = spF k p (acc ++ [])
    rw [List.nil_append, List.append_nil]
  | f :: r, k, p, acc, h => by
    have e : jnK (f :: r) ++ p = flBK f ++ (jnK r ++ p) := by
      show (flBK f ++ jnK r) ++ p = _
      rw [List.append_assoc]
    rw [e, List.length_cons, ← Nat.add_assoc, sp_one (h f (List.mem_cons_self ..)), sp_all r k p _ fun x hx => h x (List.mem_cons_of_mem _ hx), List.append_assoc]
    rfl
theorem jnK_big : ∀ fs : List flK.T, fs.length ≤ (jnK fs).length
  | [] => Nat.zero_le _
  | f :: r => by
    have e1 : jnK (f :: r) = flBK f ++ jnK r := rfl
    have := jnK_big r
    rw [e1, List.length_append, flBK_len, List.length_cons]
    omega
theorem sp_jn (fs : List flK.T) (h : ∀ f ∈ fs, fkOK f) : spF (jnK fs).length (jnK fs) [] = (some fs, (0 : Int)) := by
  have hb := jnK_big fs
  have e := sp_all fs ((jnK fs).length - fs.length) [] [] h
  rw [List.append_nil, show (jnK fs).length - fs.length + fs.length = (jnK fs).length by omega] at e
  rw [e, List.nil_append]
  generalize (jnK fs).length - fs.length = k
  cases k with
  | zero => rfl
  | succ k => rw [spF, if_pos (by decide)]
theorem splS_bx {a b c d : List UInt8} (ha : a.length ≤ 65535) (hb : b.length ≤ 65535) (hc : c.length ≤ 65535) (hd : d.length ≤ 65535) : splS (jnF (tgF 41 [a, b, c, d])) 41 4 = some [a, b, c, d] := by
  have e : jnF (tgF 41 [a, b, c, d]) = jnK [((41 : Int), a, ()), ((42 : Int), b, ()), ((43 : Int), c, ()), ((44 : Int), d, ())] := rfl
  have h := sp_jn [((41 : Int), a, ()), ((42 : Int), b, ()), ((43 : Int), c, ()), ((44 : Int), d, ())] (by
    intro f hf
    simp only [List.mem_cons, List.not_mem_nil, or_false] at hf
    rcases hf with rfl | rfl | rfl | rfl
    · exact ⟨(by show (1 : Int) ≤ 41; decide), (by show (41 : Int) ≤ 255; decide), ha⟩
    · exact ⟨(by show (1 : Int) ≤ 42; decide), (by show (42 : Int) ≤ 255; decide), hb⟩
    · exact ⟨(by show (1 : Int) ≤ 43; decide), (by show (43 : Int) ≤ 255; decide), hc⟩
    · exact ⟨(by show (1 : Int) ≤ 44; decide), (by show (44 : Int) ≤ 255; decide), hd⟩)
  unfold splS
  rw [e, h]
  have h2 : eqF [((41 : Int), a, ()), ((42 : Int), b, ()), ((43 : Int), c, ()), ((44 : Int), d, ())] (tgI 41 4) = true := rfl
  exact if_pos h2
theorem num64 (n : UInt64) : (numS n).length ≤ 65535 := Nat.le_trans (numS_len n) (by decide)
theorem opR_of {p : PP} {b d : List UInt8} {sd n a : UInt64} (h : p.s.opn p.key 6 b = some (jnF (tgF 41 [numS sd, numS n, numS a, d]))) (h1 : ¬ 1 < sd) (h2 : sd ≠ p.sd) (hd : d.length ≤ 1000) : opR p b = ([sd, n, a], d, 0) := by
  unfold opR
  rw [h]
  show (match splS (jnF (tgF 41 [numS sd, numS n, numS a, d])) 41 4 with
    | none => ([0, 0, 0], [], 21)
    | some v => opV p.sd (v.getD 0 []) (v.getD 1 []) (v.getD 2 []) (v.getD 3 [])) = _
  rw [splS_bx (num64 _) (num64 _) (num64 _) (by omega)]
  show opV p.sd (numS sd) (numS n) (numS a) d = _
  unfold opV
  rw [(rd_num sd).1, (rd_num sd).2, (rd_num n).1, (rd_num n).2, (rd_num a).1, (rd_num a).2, if_neg (by decide), if_neg (by decide), if_neg (by decide), if_neg h1, if_neg h2]
end Go.Proofs.YtlnkfdblkdhdgaaDoor

namespace Go.Proofs.YtlnkfdblkdhdgaaDoor
open Go.Vc Go.Proofs
set_option maxRecDepth 10000
structure GS (n : Nat) (s : SS) : Prop where
  k : s.Sy ∨ (s.sy = false ∧ s.ts = [])
  len : s.ts.length ≤ n
theorem GS.ok {n : Nat} {s : SS} (h : GS n s) : ∀ t ∈ s.ts, tmOK t := by
  rcases h.k with k | ⟨_, k⟩
  · exact k.ok
  · intro t ht
    rw [k] at ht
    cases ht
theorem GS.mono {n m : Nat} {s : SS} (h : GS n s) (hn : n ≤ m) : GS m s := ⟨h.k, Nat.le_trans h.len hn⟩
theorem put_sy2 {s : SS} {key : List UInt8} {us : Int} {d : List UInt8} : (s.put key us d).sy = s.sy := by
  unfold SS.put
  split
  · rfl
  · split
    · rename_i h; exact h.symm
    · rename_i h; cases hs : s.sy <;> simp_all
theorem GS.put {n : Nat} {s : SS} (h : GS n s) (hn : n ≤ 900000) (key : List UInt8) (us : Int) (d : List UInt8) : GS (n + 1) (s.put key us d) := by
  have hl := h.len
  refine ⟨?_, by have := put_len (s := s) (key := key) (us := us) (d := d); omega⟩
  rcases h.k with k | ⟨k1, k2⟩
  · exact .inl (k.put (by omega))
  · refine .inr ⟨put_sy2.trans k1, ?_⟩
    by_cases hd : 2000 < d.length
    · rw [put_long hd]; exact k2
    · rw [put_ns k1 (by omega)]; exact k2
theorem box_lenG {s : SS} {key : List UInt8} {us : Int} {d : List UInt8} : (s.box key us d).length ≤ 3000 := by
  by_cases h : 2000 < d.length
  · rw [box_long h]; exact Nat.zero_le _
  · cases hs : s.sy with
    | true => rw [box_sy hs (by omega), List.length_cons, wd_len]; decide
    | false =>
      rw [box_ns hs (by omega), List.length_append, List.length_append, wd_len, tagS_len, show (strS key us s.cn d).length = d.length from strS_len]
      omega
theorem PG.sndG {p : PP} (h : PG p) (d : List UInt8) : PG (p.snd d) := by
  unfold PP.snd
  split
  · exact h
  · split
    · exact h
    · rename_i h1 h2
      refine ⟨h.key, by show 0 + (p.len + 1) ≤ p.len + 1; omega, ?_, by show p.len + 1 ≤ 8; omega, ?_⟩
      · show (p.out ++ [_]).length = p.len + 1
        rw [List.length_append, out_len h]; rfl
      · intro b hb
        rcases List.mem_append.1 hb with hb | hb
        · exact h.bx b (List.mem_of_mem_drop (List.mem_of_mem_take hb))
        · rw [List.mem_singleton] at hb
          subst hb
          have := box_lenG (s := p.s) (key := p.key) (us := 6) (d := p.pay (p.sn + 1) 0 d)
          show (p.s.box p.key 6 (p.pay (p.sn + 1) 0 d)).length ≤ 100000
          omega
theorem GS.snd {n : Nat} {p : PP} (h : GS n p.s) (hn : n ≤ 900000) (d : List UInt8) : GS (n + 1) (p.snd d).s := by
  unfold PP.snd
  split
  · exact h.mono (by omega)
  · split
    · exact h.mono (by omega)
    · exact h.put hn _ _ _
theorem GS.rcv {n : Nat} {p : PP} (h : GS n p.s) (hn : n ≤ 900000) (b : List UInt8) : GS (n + 1) (p.rcv b).p.s := by
  unfold PP.rcv
  split
  · split
    · exact h.mono (by omega)
    · split
      · exact h.put hn _ _ _
      · exact h.put hn _ _ _
  · exact h.mono (by omega)
theorem fnd_num {s : SS} {key : List UInt8} {us : Int} {b d : List UInt8} (h : s.fnd key us b = some d) : ∃ n : UInt64, b = 83 :: wd n ∧ n.toNat < s.ts.length := by
  unfold SS.fnd at h
  split at h
  · rename_i h9
    split at h
    · rename_i h83
      split at h
      · rename_i hlt
        obtain ⟨x, r, rfl⟩ : ∃ x r, b = x :: r := by
          cases b with
          | nil => cases h9
          | cons x r => exact ⟨x, r, rfl⟩
        replace h83 : x = 83 := h83
        replace h9 : r.length + 1 = 9 := h9
        refine ⟨nb r, ?_, hlt⟩
        rw [wd_nb (by omega), h83]
      · cases h
    · cases h
  · cases h
theorem opn_put {n : Nat} {s : SS} (g : GS n s) {key k2 : List UInt8} {us u2 : Int} {x b d : List UInt8} (h : s.opn k2 u2 b = some d) : (s.put key us x).opn k2 u2 b = some d := by
  rcases g.k with k | ⟨k1, k2'⟩
  · have e : s.fnd k2 u2 b = some d := (opn_cn k.sy).symm.trans h
    obtain ⟨m, rfl, hm⟩ := fnd_num e
    exact ((opn_cn (put_sy2.trans k.sy)).trans (fnd_put k.sy hm)).trans e
  · have e2 : (s.put key us x).opn k2 u2 b = s.opn k2 u2 b := by
      unfold SS.opn
      rw [put_sy2, k1]
      rfl
    exact e2.trans h
theorem opn_box {n : Nat} {s : SS} (g : GS n s) {key : List UInt8} {us : Int} {d : List UInt8} (hd : d.length ≤ 2000) : (s.put key us d).opn key us (s.box key us d) = some d := by
  rcases g.k with k | ⟨k1, k2⟩
  · exact opn_sy_back k hd
  · exact opn_ns_back k1 (put_sy2.trans k1) hd
structure HB (s : SS) (k b : List UInt8) (sd n a : UInt64) (d : List UInt8) : Prop where
  o : s.opn k 6 b = some (jnF (tgF 41 [numS sd, numS n, numS a, d]))
  d : d.length ≤ 1000
  b : b.length ≤ 100000
theorem HB.put {m : Nat} {s : SS} {k b : List UInt8} {sd n a : UInt64} {d : List UInt8} (h : HB s k b sd n a d) (g : GS m s) (key : List UInt8) (us : Int) (x : List UInt8) : HB (s.put key us x) k b sd n a d := ⟨opn_put g h.o, h.d, h.b⟩
theorem HB.mk' {m : Nat} {p : PP} (g : GS m p.s) {n a : UInt64} {d : List UInt8} (hd : d.length ≤ 1000) : HB (p.s.put p.key 6 (p.pay n a d)) p.key (p.bx n a d) p.sd n a d :=
  ⟨opn_box g (pay_len hd), hd, Nat.le_trans box_lenG (by decide)⟩
def Keep (s t : SS) : Prop := ∀ (k b : List UInt8) (sd n a : UInt64) (d : List UInt8), HB s k b sd n a d → HB t k b sd n a d
theorem Keep.refl (s : SS) : Keep s s := fun _ _ _ _ _ _ h => h
theorem Keep.trans {s t u : SS} (h : Keep s t) (h2 : Keep t u) : Keep s u := fun _ _ _ _ _ _ x => h2 _ _ _ _ _ _ (h _ _ _ _ _ _ x)
theorem Keep.put {m : Nat} {s : SS} (g : GS m s) (key : List UInt8) (us : Int) (x : List UInt8) : Keep s (s.put key us x) := fun _ _ _ _ _ _ h => h.put g key us x
theorem Keep.snd {m : Nat} {p : PP} (g : GS m p.s) (d : List UInt8) : Keep p.s (p.snd d).s := by
  unfold PP.snd
  split
  · exact Keep.refl _
  · split
    · exact Keep.refl _
    · exact Keep.put g _ _ _
theorem Keep.rcv {m : Nat} {p : PP} (g : GS m p.s) (b : List UInt8) : Keep p.s (p.rcv b).p.s := by
  unfold PP.rcv
  split
  · split
    · exact Keep.refl _
    · split
      · exact Keep.put g _ _ _
      · exact Keep.put g _ _ _
  · exact Keep.refl _
structure SD (s : SS) (k : List UInt8) (p : PP) (sent : List (List UInt8)) : Prop where
  pg : PG p
  key : p.key = k
  sd : ¬ 1 < p.sd
  sn : p.sn = UInt64.ofNat sent.length
  le : p.len ≤ sent.length
  bx : ∀ j, j < p.len → HB s k (p.out.getD j []) p.sd (UInt64.ofNat (sent.length - p.len + j + 1)) 0 (sent.getD (sent.length - p.len + j) [])
theorem SD.keep {s t : SS} {k : List UInt8} {p : PP} {sent : List (List UInt8)} (h : SD s k p sent) (hk : Keep s t) : SD t k p sent := ⟨h.pg, h.key, h.sd, h.sn, h.le, fun j hj => hk _ _ _ _ _ _ (h.bx j hj)⟩
theorem SD.at {s : SS} {k : List UInt8} {p : PP} {sent : List (List UInt8)} (h : SD s k p sent) (t : SS) : SD s k (p.at t) sent := ⟨h.pg.at t, h.key, h.sd, h.sn, h.le, h.bx⟩
theorem SD.new {s t : SS} {k : List UInt8} {n : Int} (h : k.length = 16) : SD s k (PP.new t k n) [] := by
  refine ⟨PG.new h, rfl, ?_, rfl, Nat.le_refl _, fun j hj => absurd hj (Nat.not_lt_zero _)⟩
  show ¬ 1 < sdN n
  unfold sdN
  split <;> decide
theorem snd_eqG {p : PP} {d : List UInt8} (h1 : d.length ≤ 1000) (h2 : p.len < 8) : p.snd d = ⟨p.s.put p.key 6 (p.pay (p.sn + 1) 0 d), p.key, p.sd, p.sn + 1, p.ex, p.len + 1, 0, p.len + 1, p.out ++ [p.bx (p.sn + 1) 0 d]⟩ := (if_neg (by omega)).trans (if_neg (by omega))
theorem sndE_eqG {p : PP} {d : List UInt8} (h1 : d.length ≤ 1000) (h2 : p.len < 8) : p.sndE d = 0 := (if_neg (by omega)).trans (if_neg (by omega))
theorem snd_full {p : PP} {d : List UInt8} (h : 1000 < d.length ∨ 8 ≤ p.len) : p.snd d = p ∧ decide (p.sndE d = 0) = false := by
  by_cases h1 : 1000 < d.length
  · refine ⟨if_pos h1, ?_⟩
    rw [show p.sndE d = 23 from if_pos h1]
    rfl
  · have h2 : 8 ≤ p.len := h.resolve_left h1
    refine ⟨(if_neg h1).trans (if_pos h2), ?_⟩
    rw [show p.sndE d = 2 from (if_neg h1).trans (if_pos h2)]
    rfl
theorem out_get {p : PP} (h : PG p) {j : Nat} (hj : j < p.len) : p.out.getD j [] = p.xs.getD (p.i + j) [] := by
  rw [PP.out, List.getD_eq_getElem?_getD, List.getElem?_take, if_pos hj, List.getElem?_drop, ← List.getD_eq_getElem?_getD]
theorem getD_snoc_lt {α : Type} (l : List α) (x d : α) {j : Nat} (h : j < l.length) : (l ++ [x]).getD j d = l.getD j d := by
  rw [List.getD_eq_getElem?_getD, List.getElem?_append_left h, ← List.getD_eq_getElem?_getD]
theorem getD_snoc_eq {α : Type} (l : List α) (x d : α) : (l ++ [x]).getD l.length d = x := by
  rw [List.getD_eq_getElem?_getD, List.getElem?_append_right (Nat.le_refl _), Nat.sub_self]
  rfl
theorem u64_succ (n : Nat) : UInt64.ofNat n + 1 = UInt64.ofNat (n + 1) := by
  apply UInt64.toNat_inj.1
  rw [UInt64.toNat_add, UInt64.toNat_ofNat', UInt64.toNat_ofNat']
  show (n % 2 ^ 64 + 1) % 2 ^ 64 = _
  omega
theorem u64_toNat {n : Nat} (h : n < 18446744073709551616) : (UInt64.ofNat n).toNat = n := UInt64.toNat_ofNat_of_lt' h
theorem u64_inj {a b : Nat} (ha : a < 18446744073709551616) (hb : b < 18446744073709551616) (h : UInt64.ofNat a = UInt64.ofNat b) : a = b := by
  rw [← u64_toNat ha, h, u64_toNat hb]
theorem SD.snd {m : Nat} {k : List UInt8} {p : PP} {sent : List (List UInt8)} (h : SD p.s k p sent) (g : GS m p.s) {d : List UInt8} (h1 : d.length ≤ 1000) (h2 : p.len < 8) : SD (p.snd d).s k (p.snd d) (sent ++ [d]) := by
  have e := snd_eqG h1 h2
  have hle := h.le
  have hl : (sent ++ [d]).length = sent.length + 1 := by rw [List.length_append]; rfl
  have hk : Keep p.s (p.snd d).s := Keep.snd g d
  have hpg := h.pg.sndG d
  have hol := out_len h.pg
  refine ⟨hpg, by rw [e]; exact h.key, by rw [e]; exact h.sd, ?_, by rw [e, hl]; show p.len + 1 ≤ _; omega, ?_⟩
  · rw [e, hl, ← u64_succ, ← h.sn]
  · intro j hj
    have eo : (p.snd d).out = p.out ++ [p.bx (p.sn + 1) 0 d] := by
      rw [e]
      show List.take (p.len + 1) (List.drop 0 (p.out ++ [_])) = _
      exact List.take_of_length_le (by rw [List.drop_zero, List.length_append, hol]; exact Nat.le_refl _)
    have el : (p.snd d).len = p.len + 1 := by rw [e]
    have es : (p.snd d).sd = p.sd := by rw [e]
    rw [el] at hj
    rw [eo, el, es, hl, show sent.length + 1 - (p.len + 1) = sent.length - p.len by omega]
    by_cases hj2 : j < p.len
    · rw [getD_snoc_lt _ _ _ (by omega), getD_snoc_lt _ _ _ (by omega)]
      exact hk _ _ _ _ _ _ (h.bx j hj2)
    · have hj3 : j = p.len := by omega
      subst hj3
      rw [show sent.length - p.len + p.len = sent.length by omega, getD_snoc_eq, ← u64_succ, ← h.sn]
      have eg : (p.out ++ [p.bx (p.sn + 1) 0 d]).getD p.len [] = p.bx (p.sn + 1) 0 d := by
        have := getD_snoc_eq p.out (p.bx (p.sn + 1) 0 d) []
        rwa [hol] at this
      rw [eg, e]
      have := HB.mk' g (n := p.sn + 1) (a := 0) h1
      rwa [h.key] at this ⊢
theorem dN_nat {a : Nat} (ha : a < 18446744073709551616) : ∀ (l f : Nat), f + l < 18446744073709551616 → dN (UInt64.ofNat a) l (UInt64.ofNat f) = min l (a + 1 - f)
  | 0, f, _ => by rw [dN]; omega
  | l + 1, f, h => by
    rw [dN]
    by_cases c : a < f
    · rw [if_pos (by rw [UInt64.lt_iff_toNat_lt, u64_toNat ha, u64_toNat (by omega)]; exact c)]
      omega
    · rw [if_neg (by rw [UInt64.lt_iff_toNat_lt, u64_toNat ha, u64_toNat (by omega)]; exact c), u64_succ, dN_nat ha l (f + 1) (by omega)]
      omega
theorem first_eq {l n : Nat} (h : l ≤ n) (hn : n < 1000000) : UInt64.ofNat n - UInt64.ofInt ((l : Nat) : Int) + 1 = UInt64.ofNat (n - l + 1) := by
  have e : UInt64.ofInt ((l : Nat) : Int) = UInt64.ofNat l := by
    apply UInt64.toNat_inj.1
    rw [u64_nat (by omega), u64_toNat (by omega)]
  rw [e]
  apply UInt64.toNat_inj.1
  rw [UInt64.toNat_add, UInt64.toNat_sub, u64_toNat (by omega), u64_toNat (by omega), u64_toNat (by omega)]
  show ((2 ^ 64 - l + n) % 2 ^ 64 + 1) % 2 ^ 64 = _
  omega
theorem SD.drp {s : SS} {k : List UInt8} {p : PP} {sent : List (List UInt8)} (h : SD s k p sent) (hn : sent.length < 1000000) {a : Nat} (ha : a ≤ sent.length) : SD s k (p.drp (UInt64.ofNat a)) sent ∧ (p.drp (UInt64.ofNat a)).len = min p.len (sent.length - a) := by
  have hle := h.le
  have e : dN (UInt64.ofNat a) p.len (p.sn - UInt64.ofInt ((p.len : Nat) : Int) + 1) = min p.len (a + 1 - (sent.length - p.len + 1)) := by
    rw [h.sn, first_eq h.le hn, dN_nat (by omega) _ _ (by omega)]
  obtain ⟨q, hq⟩ : ∃ q, q = min p.len (a + 1 - (sent.length - p.len + 1)) := ⟨_, rfl⟩
  rw [← hq] at e
  have ep : p.drp (UInt64.ofNat a) = ⟨p.s, p.key, p.sd, p.sn, p.ex, p.N, p.i + q, p.len - q, p.xs⟩ := by
    unfold PP.drp
    rw [e]
  have hin := h.pg.in_
  have hpg : PG (p.drp (UInt64.ofNat a)) := by
    rw [ep]
    refine ⟨h.pg.key, ?_, h.pg.xs, ?_, h.pg.bx⟩
    · show p.i + q + (p.len - q) ≤ p.N; omega
    · have := h.pg.len; show p.len - q ≤ 8; omega
  have el : (p.drp (UInt64.ofNat a)).len = p.len - q := by rw [ep]
  refine ⟨⟨hpg, by rw [ep]; exact h.key, by rw [ep]; exact h.sd, by rw [ep]; exact h.sn, by rw [el]; omega, ?_⟩, by rw [el]; omega⟩
  intro j hj
  rw [out_get hpg hj]
  rw [el] at hj ⊢
  have hb := h.bx (q + j) (by omega)
  rw [out_get h.pg (by omega)] at hb
  have e1 : sent.length - (p.len - q) + j = sent.length - p.len + (q + j) := by omega
  rw [e1]
  have e2 : (p.drp (UInt64.ofNat a)).xs.getD ((p.drp (UInt64.ofNat a)).i + j) [] = p.xs.getD (p.i + (q + j)) [] := by
    rw [ep]
    show p.xs.getD (p.i + q + j) [] = _
    rw [Nat.add_assoc]
  have e3 : (p.drp (UInt64.ofNat a)).sd = p.sd := by rw [ep]
  rw [e2, e3]
  exact hb
theorem rcv_ack {p : PP} {b d : List UInt8} {sd a : UInt64} (h : HB p.s p.key b sd 0 a d) (h1 : ¬ 1 < sd) (h2 : sd ≠ p.sd) : p.rcv b = ⟨[], [], 0, p.drp a⟩ := by
  unfold PP.rcv
  rw [opR_of h.o h1 h2 h.d]
  rfl
theorem rcv_new {p : PP} {b d : List UInt8} {sd a : UInt64} (h : HB p.s p.key b sd p.ex a d) (h0 : p.ex ≠ 0) (h1 : ¬ 1 < sd) (h2 : sd ≠ p.sd) : p.rcv b = ⟨[d], [p.nxt.ans], 0, p.nxt.bxS 0 (p.nxt.ex - 1) []⟩ := by
  unfold PP.rcv
  rw [opR_of h.o h1 h2 h.d]
  show (if (0 : Int) = 0 then if p.ex = 0 then _ else if p.ex = p.ex then _ else _ else _) = _
  rw [if_pos rfl, if_neg h0, if_pos rfl]
theorem rcv_old {p : PP} {b d : List UInt8} {sd n a : UInt64} (h : HB p.s p.key b sd n a d) (h0 : n ≠ 0) (h1 : ¬ 1 < sd) (h2 : sd ≠ p.sd) (h3 : n ≠ p.ex) : p.rcv b = ⟨[], [p.ans], 0, p.bxS 0 (p.ex - 1) []⟩ := by
  unfold PP.rcv
  rw [opR_of h.o h1 h2 h.d]
  show (if (0 : Int) = 0 then if n = 0 then _ else if n = p.ex then _ else _ else _) = _
  rw [if_pos rfl, if_neg h0, if_neg h3]
theorem rcv_bad {p : PP} {b : List UInt8} (h : p.s.opn p.key 6 b = none) : p.rcv b = ⟨[], [], 40, p⟩ := by
  have e : opR p b = ([0, 0, 0], [], 40) := by
    unfold opR
    rw [h]
  unfold PP.rcv
  rw [e]
  rfl
theorem SD.bxS {m : Nat} {k : List UInt8} {p : PP} {sent : List (List UInt8)} (h : SD p.s k p sent) (g : GS m p.s) (n a : UInt64) (d : List UInt8) : SD (p.bxS n a d).s k (p.bxS n a d) sent :=
  SD.keep ⟨⟨h.pg.key, h.pg.in_, h.pg.xs, h.pg.len, h.pg.bx⟩, h.key, h.sd, h.sn, h.le, h.bx⟩ (Keep.put g _ _ _)
theorem SD.nxt {s : SS} {k : List UInt8} {p : PP} {sent : List (List UInt8)} (h : SD s k p sent) : SD s k p.nxt sent := ⟨⟨h.pg.key, h.pg.in_, h.pg.xs, h.pg.len, h.pg.bx⟩, h.key, h.sd, h.sn, h.le, h.bx⟩
theorem u64_pred (n : Nat) : UInt64.ofNat (n + 1) - 1 = UInt64.ofNat n := by
  rw [← u64_succ]
  apply UInt64.toNat_inj.1
  rw [UInt64.toNat_sub, UInt64.toNat_add]
  have := UInt64.toNat_lt (UInt64.ofNat n)
  show (2 ^ 64 - 1 + ((UInt64.ofNat n).toNat + 1) % 2 ^ 64) % 2 ^ 64 = _
  omega
theorem SD.data {m : Nat} {k : List UInt8} {p : PP} {sent : List (List UInt8)} (h : SD p.s k p sent) (g : GS m p.s) {b d : List UInt8} {sd a : UInt64} {n e : Nat} (he : p.ex = UInt64.ofNat (e + 1)) (hb : HB p.s p.key b sd (UInt64.ofNat n) a d) (h0 : 0 < n) (hn : n < 1000000) (hen : e < 1000000) (h1 : ¬ 1 < sd) (h2 : sd ≠ p.sd) :
    ∃ y, (p.rcv b).back = [y] ∧ (p.rcv b).came = (if n = e + 1 then [d] else []) ∧ (p.rcv b).e = 0 ∧ (p.rcv b).p.ex = UInt64.ofNat ((if n = e + 1 then e + 1 else e) + 1) ∧ (p.rcv b).p.len = p.len ∧ (p.rcv b).p.sd = p.sd ∧ SD (p.rcv b).p.s k (p.rcv b).p sent ∧ HB (p.rcv b).p.s k y p.sd 0 (UInt64.ofNat (if n = e + 1 then e + 1 else e)) [] := by
  have hne : UInt64.ofNat n ≠ 0 := fun c => by
    have := u64_inj (a := n) (b := 0) (by omega) (by omega) c
    omega
  by_cases c : n = e + 1
  · have hb2 : HB p.s p.key b sd p.ex a d := by rw [he, ← c]; exact hb
    have r := rcv_new hb2 (by rw [he, ← c]; exact hne) h1 h2
    rw [r, if_pos c, if_pos c]
    refine ⟨p.nxt.ans, rfl, rfl, rfl, ?_, rfl, rfl, SD.bxS (p := p.nxt) h.nxt g _ _ _, ?_⟩
    · show p.ex + 1 = _
      rw [he, u64_succ]
    · have := HB.mk' (p := p.nxt) g (n := 0) (a := p.nxt.ex - 1) (d := []) (Nat.zero_le _)
      have e1 : p.nxt.ex - 1 = UInt64.ofNat (e + 1) := by
        show p.ex + 1 - 1 = _
        rw [he, u64_succ, u64_pred]
      rw [e1] at this
      have hk : p.nxt.key = k := h.key
      show HB (p.nxt.s.put p.nxt.key 6 (p.nxt.pay 0 (p.nxt.ex - 1) [])) k (p.nxt.bx 0 (p.nxt.ex - 1) []) p.nxt.sd 0 _ []
      rw [e1]
      rw [hk] at this ⊢
      exact this
  · have hx : UInt64.ofNat n ≠ p.ex := fun q => c (u64_inj (by omega) (by omega) (q.trans he))
    have r := rcv_old hb hne h1 h2 hx
    rw [r, if_neg c, if_neg c]
    refine ⟨p.ans, rfl, rfl, rfl, he, rfl, rfl, SD.bxS h g _ _ _, ?_⟩
    have := HB.mk' (p := p) g (n := 0) (a := p.ex - 1) (d := []) (Nat.zero_le _)
    have e1 : p.ex - 1 = UInt64.ofNat e := by rw [he, u64_pred]
    rw [e1] at this
    show HB (p.s.put p.key 6 (p.pay 0 (p.ex - 1) [])) k (p.bx 0 (p.ex - 1) []) p.sd 0 _ []
    rw [e1]
    have hk := h.key
    rw [hk] at this ⊢
    exact this
end Go.Proofs.YtlnkfdblkdhdgaaDoor

namespace Go.Proofs.YtlnkfdblkdhdgaaDoor
open Go.Vc Go.Proofs
set_option maxRecDepth 10000
set_option maxHeartbeats 4000000
structure RI (n : Nat) (k : List UInt8) (s : SS) (a b : PP) (sent : List (List UInt8)) : Prop where
  g : GS n s
  pa : SD s k a sent
  pb : SD s k b []
  sa : a.sd = 0
  sb : b.sd = 1
  ex : b.ex = UInt64.ofNat (sent.length - a.len + 1)
  sl : sent.length ≤ n
theorem RI.mono {n m : Nat} {k : List UInt8} {s : SS} {a b : PP} {sent : List (List UInt8)} (h : RI n k s a b sent) (hn : n ≤ m) : RI m k s a b sent := ⟨h.g.mono hn, h.pa, h.pb, h.sa, h.sb, h.ex, Nat.le_trans h.sl hn⟩
theorem RI.new {k : List UInt8} (h : k.length = 16) (s : SS) (g : GS 0 s) : RI 0 k s (PP.new s k 0) (PP.new s k 1) [] :=
  ⟨g, SD.new h, SD.new h, rfl, rfl, rfl, Nat.le_refl _⟩
theorem RI.send {n : Nat} {k : List UInt8} {s : SS} {a b : PP} {sent : List (List UInt8)} (h : RI n k s a b sent) (hn : n ≤ 900000) {d : List UInt8} (hd : d.length ≤ 1000) :
    (∃ sent2, RI (n + 1) k ((a.at s).snd d).s ((a.at s).snd d) b sent2) ∧ decide ((a.at s).sndE d = 0) = decide ((a.len : Int) < 8) ∧ ((a.at s).snd d).len = min (a.len + 1) 8 := by
  have hl := h.pa.pg.len
  have hle := h.pa.le
  by_cases c : a.len < 8
  · have c' : (a.at s).len < 8 := c
    have e := snd_eqG hd c'
    have e2 := sndE_eqG hd c'
    have el : ((a.at s).snd d).len = a.len + 1 := by rw [e]; rfl
    have hk : Keep s ((a.at s).snd d).s := Keep.snd (p := a.at s) h.g d
    refine ⟨⟨sent ++ [d], GS.snd (p := a.at s) h.g hn d, SD.snd (p := a.at s) (h.pa.at s) h.g hd c', h.pb.keep hk, ?_, h.sb, ?_, ?_⟩, ?_, ?_⟩
    · rw [e]; exact h.sa
    · rw [h.ex, el, List.length_append]
      show UInt64.ofNat _ = UInt64.ofNat (sent.length + 1 - (a.len + 1) + 1)
      rw [show sent.length + 1 - (a.len + 1) = sent.length - a.len by omega]
    · have := h.sl
      rw [List.length_append]
      show sent.length + 1 ≤ n + 1
      omega
    · rw [e2, decide_eq_true (show (a.len : Int) < 8 by omega)]
      rfl
    · rw [el]; omega
  · have c' : 8 ≤ (a.at s).len := Nat.le_of_not_lt c
    obtain ⟨e, e2⟩ := snd_full (d := d) (.inr c')
    refine ⟨⟨sent, ?_⟩, ?_, ?_⟩
    · rw [e]
      exact ⟨h.g.mono (by omega), h.pa.at s, h.pb, h.sa, h.sb, h.ex, by have := h.sl; omega⟩
    · rw [e2, decide_eq_false (show ¬ (a.len : Int) < 8 by omega)]
    · rw [e]
      show a.len = _
      omega
structure WI (n : Nat) (k : List UInt8) (V : List (List UInt8)) (i : Nat) (s : SS) (a b : PP) (sent : List (List UInt8)) : Prop where
  r : RI n k s a b sent
  hi : a.len + i = V.length
  hv : V.length ≤ sent.length
  hh : ∀ j, i ≤ j → j < V.length → HB s k (V.getD j []) 0 (UInt64.ofNat (sent.length - V.length + j + 1)) 0 (sent.getD (sent.length - V.length + j) [])
theorem WI.new {n : Nat} {k : List UInt8} {s : SS} {a b : PP} {sent : List (List UInt8)} (h : RI n k s a b sent) : WI n k a.out 0 s a b sent := by
  have hl := out_len h.pa.pg
  refine ⟨h, by omega, by have := h.pa.le; omega, fun j _ hj => ?_⟩
  have := h.pa.bx j (by omega)
  rw [h.sa] at this
  rw [hl]
  exact this
theorem WI.step {n : Nat} {k : List UInt8} {V : List (List UInt8)} {i : Nat} {s : SS} {a b : PP} {sent : List (List UInt8)} (h : WI n k V i s a b sent) (hi : i < V.length) (hn : n ≤ 900000) :
    ∃ y, ((b.at s).rcv (V.getD i [])).back = [y] ∧ ((b.at s).rcv (V.getD i [])).e = 0 ∧ y.length ≤ 100000 ∧ (V.getD i []).length ≤ 100000 ∧ GS (n + 1) ((b.at s).rcv (V.getD i [])).p.s ∧
      WI (n + 1) k V (i + 1) ((a.at ((b.at s).rcv (V.getD i [])).p.s).rcv y).p.s ((a.at ((b.at s).rcv (V.getD i [])).p.s).rcv y).p ((b.at s).rcv (V.getD i [])).p sent ∧ ((a.at ((b.at s).rcv (V.getD i [])).p.s).rcv y).p.len + 1 = a.len := by
  obtain ⟨⟨g, ha, hb, sa, sb, ex, sl⟩, hvi, hv, hh⟩ := h
  have hx := hh i (Nat.le_refl _) hi
  have hle := ha.le
  rw [show sent.length - V.length + i + 1 = (sent.length - a.len) + 1 by omega] at hx
  have hkb : (b.at s).key = k := hb.key
  have hx2 : HB (b.at s).s (b.at s).key (V.getD i []) 0 (UInt64.ofNat ((sent.length - a.len) + 1)) 0 (sent.getD (sent.length - V.length + i) []) := by rw [hkb]; exact hx
  obtain ⟨y, q1, q2, q3, q4, q5, q6, q7, q8⟩ := SD.data (p := b.at s) (hb.at s) g (e := sent.length - a.len) ex hx2 (by omega) (by omega) (by omega) (by decide) (by show (0 : UInt64) ≠ b.sd; rw [sb]; decide)
  have g2 : GS (n + 1) ((b.at s).rcv (V.getD i [])).p.s := GS.rcv (p := b.at s) g hn _
  have hkeep : Keep s ((b.at s).rcv (V.getD i [])).p.s := Keep.rcv (p := b.at s) g _
  rw [if_pos rfl] at q2 q4 q8
  generalize (b.at s).rcv (V.getD i []) = R at *
  have ha2 : SD R.p.s k (a.at R.p.s) sent := (ha.keep hkeep).at _
  have hka : (a.at R.p.s).key = k := ha.key
  have hy : HB (a.at R.p.s).s (a.at R.p.s).key y 1 0 (UInt64.ofNat (sent.length - a.len + 1)) [] := by
    rw [hka]
    have : (b.at s).sd = 1 := sb
    rw [this] at q8
    exact q8
  have r2 := rcv_ack hy (by decide) (by show (1 : UInt64) ≠ a.sd; rw [sa]; decide)
  obtain ⟨d1, d2⟩ := ha2.drp (by omega) (a := sent.length - a.len + 1) (by omega)
  have hl : ((a.at R.p.s).drp (UInt64.ofNat (sent.length - a.len + 1))).len + 1 = a.len := by
    rw [d2]
    show min a.len _ + 1 = a.len
    omega
  refine ⟨y, q1, q3, hy.b, hx.b, g2, ?_⟩
  rw [r2]
  refine ⟨⟨⟨g2, d1, q7, sa, q6.trans sb, ?_, by omega⟩, by show ((a.at R.p.s).drp _).len + (i + 1) = _; omega, hv, ?_⟩, hl⟩
  · show R.p.ex = UInt64.ofNat (sent.length - ((a.at R.p.s).drp (UInt64.ofNat (sent.length - a.len + 1))).len + 1)
    rw [q4, show sent.length - ((a.at R.p.s).drp (UInt64.ofNat (sent.length - a.len + 1))).len = sent.length - a.len + 1 by omega]
  · intro j h1 h2
    exact hkeep _ _ _ _ _ _ (hh j (by omega) h2)
theorem and_small (a : Int) {m : Nat} (hm : m < 1000) : ∃ n : Nat, n ≤ m ∧ andT .i64 a ((m : Nat) : Int) = ((n : Nat) : Int) := by
  refine ⟨(BitVec.ofInt 64 a &&& BitVec.ofInt 64 ((m : Nat) : Int)).toNat, ?_, ?_⟩
  · rw [BitVec.toNat_and]
    refine Nat.le_trans Nat.and_le_right ?_
    rw [BitVec.ofInt_natCast, BitVec.toNat_ofNat]
    exact Nat.mod_le _ _
  · have h : (BitVec.ofInt 64 a &&& BitVec.ofInt 64 ((m : Nat) : Int)).toNat ≤ m := by
      rw [BitVec.toNat_and]
      refine Nat.le_trans Nat.and_le_right ?_
      rw [BitVec.ofInt_natCast, BitVec.toNat_ofNat]
      exact Nat.mod_le _ _
    show IntKind.i64.wrap ((BitVec.ofInt 64 a &&& BitVec.ofInt 64 ((m : Nat) : Int)).toNat : Int) = _
    rw [IntKind.wrap_i64]
    omega
def kPR : Con := Con.of [.v (.slice false (.int .i64)), .v (.int .i64)] (fun x => [List.length (α := Int) x.1 ≤ 9223372036854775807]) (fun _ => ⟨.bool true, []⟩)
def cfgPR : Cfg2 := { ty := tyTabW, fn := fun | 13 => some kSpk14.sum | 15 => some kNewS.sum | 16 => some kNewPK.sum | 17 => some kSnd.sum | 18 => some kBxs.sum | 20 => some kRcv.sum | 22 => some kOpP.sum | _ => none, G := shaG, pin := [], eq := eqS }
theorem cfgPR_ok : CfgOK Tryd.prog cfgPR := ⟨tyTabW_ok, (fun f s h => by
  simp only [cfgPR] at h
  split at h
  · injection h with h; subst h; exact .inl spk_sum
  · injection h with h; subst h; exact .inl newS_sum
  · injection h with h; subst h; exact .inl pnK_sum
  · injection h with h; subst h; exact .inl psd_sum
  · injection h with h; subst h; exact .inl pbs_sum
  · injection h with h; subst h; exact .inl prc_sum
  · injection h with h; subst h; exact .inl pop_sum
  · cases h), eqS_ok⟩
section
attribute [local go_sem] Tryd.f5 kPR kSpk14 kNewS kNewPK kNewP kSnd kBxs kRcv kOpP cfgPR tyTabW withP tyTabV tyTabM tyTabS pipT eqS ssM_eta slM ppM_eta plM eqT_k strEq_id
theorem prm_body (p : kPR.Par) (hp : ∀ q ∈ kPR.pre p, q) : BodyOK Tryd.prog cfgPR Tryd.f5 (Tryd.f5.body.get rfl) kPR p := by
  obtain ⟨(l : List Int), (k : Int), u⟩ := p
  obtain ⟨h0, _⟩ := Obs.of hp
  replace h0 : l.length ≤ 9223372036854775807 := h0
  refine ⟨?_, Nat.zero_le _, rfl, rfl⟩
  show Tri _ _ _ (Code.seq _ (Code.seq (Code.seq _ (Code.cond _ (Code.seq _ _) _)) (Code.seq (Code.seq _ (Code.cond _ (Code.seq _ _) _)) (Code.seq _ (Code.seq (Code.seq _ (Code.cond _ (Code.seq _ _) _)) (Code.seq _ (Code.seq (Code.seq _ (Code.block _ (Code.loop (Code.seq _ (Code.seq (Code.cond _ _ _) (Code.seq (Code.block _ (Code.seq _ (Code.seq (Code.seq _ (Code.block _ (Code.loop (Code.seq (Code.seq _ (Code.cond _ _ _)) (Code.seq (Code.block _ (Code.seq (Code.seq _ (Code.cond _ (Code.seq _ _) _)) _)) _))))) (Code.seq _ (Code.seq (Code.seq _ (Code.block _ (Code.loop (Code.seq (Code.seq _ (Code.cond _ _ _)) (Code.seq (Code.block _ (Code.seq _ (Code.seq (Code.seq _ (Code.cond _ (Code.seq _ _) _)) (Code.seq _ _)))) _))))) (Code.seq _ (Code.cond _ (Code.seq _ _) _))))))) _)))))) (Code.seq _ _)))))))) _
  have hs : ∀ (s : SS) (p : PP), (p.at s).s = s := fun _ _ => rfl
  have hq1 : ∀ (s : SS) (p : PP), (p.at s).key = p.key := fun _ _ => rfl
  have hq2 : ∀ (s : SS) (p : PP), (p.at s).sd = p.sd := fun _ _ => rfl
  have hq3 : ∀ (s : SS) (p : PP), (p.at s).sn = p.sn := fun _ _ => rfl
  have hq4 : ∀ (s : SS) (p : PP), (p.at s).ex = p.ex := fun _ _ => rfl
  have hq5 : ∀ (s : SS) (p : PP), (p.at s).i = p.i := fun _ _ => rfl
  have hq6 : ∀ (s : SS) (p : PP), (p.at s).len = p.len := fun _ _ => rfl
  have hq7 : ∀ (s : SS) (p : PP), (p.at s).xs = p.xs := fun _ _ => rfl
  have hq8 : ∀ (s : SS) (p : PP), (p.at s).N = p.N := fun _ _ => rfl
  have hout : ∀ (s : SS) (p : PP), (p.at s).out = p.out := fun _ _ => rfl
  have hat : ∀ (s : SS) (p : PP), ppM s p.key p.sd p.sn p.ex p.N p.i p.len p.xs = p.at s := fun _ _ => rfl
  by_cases hl : l.length ≤ 20
  rotate_left
  · have hl' : decide ((20 : Int) < (l.length : Int)) = true := decide_eq_true (by omega)
    refine Tri.at (by first | (simp only [hl', Con.start, go_sem]; rfl) | rfl) ?_
    repeat (first | ((first | refine Tri.seq (Tri.regT (cfgPR_ok.pins _) ?_) | refine Tri.rgnT (cfgPR_ok.pins _) ?_); (repeat (first | refine RunT.oneA (hp := by simp (maxSteps := 2000000) (disch := first | decide | omega | (simp only [List.length_append, List.length_cons, List.length_nil, List.length_take, List.length_drop]; omega)) only [hl', go_sem]; rfl) (h := ?_) | refine RunT.notA (h := ?_))); refine RunT.nil ?_; try simp only [InBlock, Then]) | refine Tri.cF (by first | (simp only [hl', go_sem]; done) | fail) ?_ | refine Tri.cT (by first | (simp only [hl', go_sem]; done) | fail) ?_ | (refine Tri.skip ?_; try simp only [InBlock, Then]) | (refine Tri.exit ?_; simp only [Then, InBlock, if_true, if_false, ↓reduceIte, Nat.reduceEqDiff]) | refine Tri.seq (Tri.block ?_) | refine Tri.block ?_ | refine Tri.seq ?_ | (refine Tri.ret ?_; refine Con.fin (.inl rfl) (by simp only [Tryd.f5, cfgPR, resA, resA1, go_sem]; rfl) (by simp only [Obs, and_true, true_and]) (by first | (simp only [kPR, Con.of, Con.ofO, resV, hl', go_sem]; done) | fail) trivial rfl rfl))
  have hl' : decide ((20 : Int) < (l.length : Int)) = false := decide_eq_false (by omega)
  obtain ⟨kk, hk1, hk2⟩ := and_small k (m := 3) (by decide)
  replace hk2 : andT .i64 k 3 = ((kk : Nat) : Int) := hk2
  refine Tri.at (by first | (simp only [hl', Con.start, go_sem]; rfl) | rfl) ?_
  repeat (first | ((first | refine Tri.seq (Tri.regT (cfgPR_ok.pins _) ?_) | refine Tri.rgnT (cfgPR_ok.pins _) ?_); (repeat (first | refine RunT.oneA (hp := by simp (maxSteps := 2000000) (disch := first | decide | omega | (simp only [List.length_append, List.length_cons, List.length_nil, List.length_take, List.length_drop]; omega)) only [hl', go_sem]; rfl) (h := ?_) | refine RunT.notA (h := ?_))); refine RunT.nil ?_; try simp only [InBlock, Then]) | ((first | refine Tri.seq (Tri.drwT (mixed) (cfgPR_ok.pins _) ?_) | refine Tri.drnT (mixed) (cfgPR_ok.pins _) ?_); (repeat (first | refine RunD.oneA (hp := by simp (maxSteps := 2000000) (disch := first | decide | omega | (simp only [List.length_append, List.length_cons, List.length_nil, List.length_take, List.length_drop]; omega)) only [hl', go_sem]; rfl) (h := ?_) | refine RunD.notA (h := ?_))); refine RunD.nil ?_; refine ⟨by kernel_rfl, ?_⟩; try simp only [InBlock, Then]) | refine Tri.cF (by first | (simp only [hl', go_sem]; done) | fail) ?_ | refine Tri.cT (by first | (simp only [hl', go_sem]; done) | fail) ?_ | (refine Tri.skip ?_; try simp only [InBlock, Then]) | (refine Tri.exit ?_; simp only [Then, InBlock, if_true, if_false, ↓reduceIte, Nat.reduceEqDiff]) | refine Tri.seq (Tri.block ?_) | refine Tri.block ?_ | refine Tri.seq ?_ | (refine Tri.ret ?_; refine Con.fin (.inl rfl) (by simp only [Tryd.f5, cfgPR, resA, resA1, go_sem]; rfl) (by simp only [Obs, and_true, true_and]) (by first | (simp only [kPR, Con.of, Con.ofO, resV, hl', go_sem]; done) | fail) trivial rfl rfl))
  have n0 : (PP.new (ssM true [0, 0, 0, 0, 0, 0, 0, 0, 0, 0, 0, 0, 0, 0, 0, 0] 0 0 []) [1, 0, 0, 0, 0, 0, 0, 0, 0, 0, 0, 0, 0, 0, 0, 0] 0).len = 0 := rfl
  refine Tri.loop (fun q : Nat × SS × PP × PP => (⟨[none, some (.int .i64 k), none, none, none, some (.ptr 0 [] 0), some (.ptr 2 [] 0), some (.ptr 4 [] 0), some (.int .i64 (q.2.2.1.len : Int)), none, none, none, none, none, none, none, none, none, none, none, none, none, none, none, none, none, none, none, none, none, none, none, some (.pure (.slice false (.int .i64)) l), some (.int .i64 (l.length : Int)), some (.int .i64 (q.1 : Int))] ++ List.replicate 61 none, [.live (.agg [.bool q.2.1.sy, .pure k16 q.2.1.seed, .int .u64 q.2.1.dr, .int .u64 q.2.1.cn, .tsl 1 [] 0 0 18 (List.length (α := tmK.T) q.2.1.ts)]), .live (.pure (.arr (List.length (α := tmK.T) q.2.1.ts) tmK) q.2.1.ts), .live (.agg [.ptr 0 [] 0, .pure k16 q.2.2.1.key, .int .u64 q.2.2.1.sd, .int .u64 q.2.2.1.sn, .int .u64 q.2.2.1.ex, .tsl 3 [] q.2.2.1.i q.2.2.1.i 1 q.2.2.1.len]), .live (.pure (.arr q.2.2.1.N (.slice true (.int .u8))) q.2.2.1.xs), .live (.agg [.ptr 0 [] 0, .pure k16 q.2.2.2.key, .int .u64 q.2.2.2.sd, .int .u64 q.2.2.2.sn, .int .u64 q.2.2.2.ex, .tsl 5 [] q.2.2.2.i q.2.2.2.i 1 q.2.2.2.len]), .live (.pure (.arr q.2.2.2.N (.slice true (.int .u8))) q.2.2.2.xs)]⟩ : AS)) (fun q => q.1 ≤ l.length ∧ ∃ sent, RI (18 * q.1) [1, 0, 0, 0, 0, 0, 0, 0, 0, 0, 0, 0, 0, 0, 0, 0] q.2.1 q.2.2.1 q.2.2.2 sent) (fun q => l.length - q.1) (0, (ssM true [0, 0, 0, 0, 0, 0, 0, 0, 0, 0, 0, 0, 0, 0, 0, 0] 0 0 []), PP.new (ssM true [0, 0, 0, 0, 0, 0, 0, 0, 0, 0, 0, 0, 0, 0, 0, 0] 0 0 []) [1, 0, 0, 0, 0, 0, 0, 0, 0, 0, 0, 0, 0, 0, 0, 0] 0, PP.new (ssM true [0, 0, 0, 0, 0, 0, 0, 0, 0, 0, 0, 0, 0, 0, 0, 0] 0 0 []) [1, 0, 0, 0, 0, 0, 0, 0, 0, 0, 0, 0, 0, 0, 0, 0] 1) ?_ ⟨Nat.zero_le _, [], RI.new rfl _ ⟨.inl (SG.new _).sy, Nat.le_refl 0⟩⟩ ?_
  · refine Wk.of ?_ ?_ rfl rfl
    · simp only [lessTs, List.reduceReplicate, List.cons_append, List.nil_append] <;> ((repeat' apply And.intro) <;> first | with_reducible rfl | exact True.intro | exact congrArg (fun z : Int => some (AV.int IntKind.i64 z)) (show (_ : Int) = _ by omega) | exact congrArg (fun z : Nat => some (AV.tsl _ _ _ _ _ z)) (show (_ : Nat) = _ by omega) | exact arrEq (by omega) (by with_reducible rfl))
    exact ⟨rfl, rfl, rfl, rfl, rfl, rfl, trivial⟩
  · rintro ⟨i, s, a, b⟩ ⟨hi, sent, hI⟩
    replace hi : i ≤ l.length := hi
    replace hI : RI (18 * i) [1, 0, 0, 0, 0, 0, 0, 0, 0, 0, 0, 0, 0, 0, 0, 0] s a b sent := hI
    by_cases h3 : i < l.length
    rotate_left
    · have h3' : decide ((i : Int) < (l.length : Int)) = false := decide_eq_false (by omega)
      refine Tri.at (by first | (simp only [h3', Con.start, go_sem]; rfl) | rfl) ?_
      repeat (first | ((first | refine Tri.seq (Tri.regT (cfgPR_ok.pins _) ?_) | refine Tri.rgnT (cfgPR_ok.pins _) ?_); (repeat (first | refine RunT.oneA (hp := by simp (maxSteps := 2000000) (disch := first | decide | omega | (simp only [List.length_append, List.length_cons, List.length_nil, List.length_take, List.length_drop]; omega)) only [h3', go_sem]; rfl) (h := ?_) | refine RunT.notA (h := ?_))); refine RunT.nil ?_; try simp only [InBlock, Then]) | refine Tri.cF (by first | (simp only [h3', go_sem]; done) | fail) ?_ | refine Tri.cT (by first | (simp only [h3', go_sem]; done) | fail) ?_ | (refine Tri.skip ?_; try simp only [InBlock, Then]) | (refine Tri.exit ?_; simp only [Then, InBlock, if_true, if_false, ↓reduceIte, Nat.reduceEqDiff]) | refine Tri.seq (Tri.block ?_) | refine Tri.block ?_ | refine Tri.seq ?_ | (refine Tri.ret ?_; refine Con.fin (.inl rfl) (by simp only [Tryd.f5, cfgPR, resA, resA1, go_sem]; rfl) (by simp only [Obs, and_true, true_and]) (by first | (simp only [kPR, Con.of, Con.ofO, resV, h3', go_sem]; done) | fail) trivial rfl rfl))
    · have h3' : decide ((i : Int) < (l.length : Int)) = true := decide_eq_true (by omega)
      obtain ⟨w, hw1, hw2⟩ := and_small (l.getD i 0) (m := 15) (by decide)
      replace hw2 : andT .i64 (l.getD i 0) 15 = ((w : Nat) : Int) := hw2
      generalize hxi : l.getD i 0 = xi at *
      refine Tri.at (by first | (simp only [h3', hxi, Con.start, go_sem]; rfl) | rfl) ?_
      repeat (first | ((first | refine Tri.seq (Tri.regT (cfgPR_ok.pins _) ?_) | refine Tri.rgnT (cfgPR_ok.pins _) ?_); (repeat (first | refine RunT.oneA (hp := by simp (maxSteps := 2000000) (disch := first | decide | omega | (simp only [List.length_append, List.length_cons, List.length_nil, List.length_take, List.length_drop]; omega)) only [h3', hxi, go_sem]; rfl) (h := ?_) | refine RunT.notA (h := ?_))); refine RunT.nil ?_; try simp only [InBlock, Then]) | refine Tri.cF (by first | (simp only [h3', hxi, go_sem]; done) | fail) ?_ | refine Tri.cT (by first | (simp only [h3', hxi, go_sem]; done) | fail) ?_ | (refine Tri.skip ?_; try simp only [InBlock, Then]) | (refine Tri.exit ?_; simp only [Then, InBlock, if_true, if_false, ↓reduceIte, Nat.reduceEqDiff]) | refine Tri.seq (Tri.block ?_) | refine Tri.block ?_ | refine Tri.seq ?_ | (refine Tri.ret ?_; refine Con.fin (.inl rfl) (by simp only [Tryd.f5, cfgPR, resA, resA1, go_sem]; rfl) (by simp only [Obs, and_true, true_and]) (by first | (simp only [kPR, Con.of, Con.ofO, resV, h3', hxi, go_sem]; done) | fail) trivial rfl rfl))
      refine Tri.loop (fun q : Nat × SS × PP => (⟨[none, some (.int .i64 k), none, none, none, some (.ptr 0 [] 0), some (.ptr 2 [] 0), some (.ptr 4 [] 0), some (.int .i64 (q.2.2.len : Int)), none, some (.int .i64 xi), some (.int .i64 (q.1 : Int)), none, none, none, none, none, none, none, none, none, none, none, none, none, none, none, none, none, none, none, none, some (.pure (.slice false (.int .i64)) l), some (.int .i64 (l.length : Int)), some (.int .i64 (i : Int))] ++ List.replicate 61 none, [.live (.agg [.bool q.2.1.sy, .pure k16 q.2.1.seed, .int .u64 q.2.1.dr, .int .u64 q.2.1.cn, .tsl 1 [] 0 0 18 (List.length (α := tmK.T) q.2.1.ts)]), .live (.pure (.arr (List.length (α := tmK.T) q.2.1.ts) tmK) q.2.1.ts), .live (.agg [.ptr 0 [] 0, .pure k16 q.2.2.key, .int .u64 q.2.2.sd, .int .u64 q.2.2.sn, .int .u64 q.2.2.ex, .tsl 3 [] q.2.2.i q.2.2.i 1 q.2.2.len]), .live (.pure (.arr q.2.2.N (.slice true (.int .u8))) q.2.2.xs), .live (.agg [.ptr 0 [] 0, .pure k16 b.key, .int .u64 b.sd, .int .u64 b.sn, .int .u64 b.ex, .tsl 5 [] b.i b.i 1 b.len]), .live (.pure (.arr b.N (.slice true (.int .u8))) b.xs)]⟩ : AS)) (fun q => q.1 ≤ w ∧ ∃ sent, RI (18 * i + q.1) [1, 0, 0, 0, 0, 0, 0, 0, 0, 0, 0, 0, 0, 0, 0, 0] q.2.1 q.2.2 b sent) (fun q => w - q.1) (0, s, a) ?_ ⟨Nat.zero_le _, sent, hI⟩ ?_
      · refine Wk.of ?_ ?_ rfl rfl
        · simp only [lessTs, List.reduceReplicate, List.cons_append, List.nil_append] <;> ((repeat' apply And.intro) <;> first | with_reducible rfl | exact True.intro | exact congrArg (fun z : Int => some (AV.int IntKind.i64 z)) (show (_ : Int) = _ by omega) | exact congrArg (fun z : Nat => some (AV.tsl _ _ _ _ _ z)) (show (_ : Nat) = _ by omega) | exact arrEq (by omega) (by with_reducible rfl))
        exact ⟨rfl, rfl, rfl, rfl, rfl, rfl, trivial⟩
      · clear hI
        rintro ⟨j, s, a⟩ ⟨hj, sent, hI⟩
        replace hj : j ≤ w := hj
        replace hI : RI (18 * i + j) [1, 0, 0, 0, 0, 0, 0, 0, 0, 0, 0, 0, 0, 0, 0, 0] s a b sent := hI
        have sgl := hI.g.len
        have sgk := hI.g.ok
        have ag := hI.pa.pg
        have bg := hI.pb.pg
        have a1 := ag.key
        have a2 := ag.in_
        have a3 := ag.xs
        have a4 := ag.len
        have a5 := ag.bx
        have b1 := bg.key
        have b2 := bg.in_
        have b3 := bg.xs
        have b4 := bg.len
        have b5 := bg.bx
        by_cases h4 : j < w
        · have h4' : decide ((j : Int) < (w : Int)) = true := decide_eq_true (by omega)
          obtain ⟨⟨sent2, hI2⟩, e1, e2⟩ := hI.send (by omega) (d := [UInt8.ofInt (j : Int)]) (by show 1 ≤ 1000; omega)
          have sgl2 := hI2.g.len
          have hle := hI.pa.pg.len
          have hmin : (bif decide ((8 : Int) < ((a.len + 1 : Nat) : Int)) then 8 else ((a.len + 1 : Nat) : Int)) = ((((a.at s).snd [UInt8.ofInt (j : Int)]).len : Nat) : Int) := by
            rw [e2]
            by_cases c : 8 < a.len + 1
            · rw [decide_eq_true (show (8 : Int) < ((a.len + 1 : Nat) : Int) by omega)]
              show (8 : Int) = _
              omega
            · rw [decide_eq_false (show ¬ (8 : Int) < ((a.len + 1 : Nat) : Int) by omega)]
              show ((a.len + 1 : Nat) : Int) = _
              omega
          refine Tri.at (by first | (simp only [h4', hw2, hat, e1, hmin, Con.start, go_sem]; rfl) | rfl) ?_
          repeat (first | ((first | refine Tri.seq (Tri.regT (cfgPR_ok.pins _) ?_) | refine Tri.rgnT (cfgPR_ok.pins _) ?_); (repeat (first | refine RunT.oneA (hp := by simp (maxSteps := 2000000) (disch := first | decide | omega | (simp only [List.length_append, List.length_cons, List.length_nil, List.length_take, List.length_drop]; omega)) only [h4', hw2, hat, e1, hmin, go_sem]; rfl) (h := ?_) | refine RunT.notA (h := ?_))); refine RunT.nil ?_; try simp only [InBlock, Then]) | refine Tri.cF (by first | (simp only [h4', hw2, hat, e1, hmin, go_sem]; done) | fail) ?_ | refine Tri.cT (by first | (simp only [h4', hw2, hat, e1, hmin, go_sem]; done) | fail) ?_ | (refine Tri.skip ?_; try simp only [InBlock, Then]) | (refine Tri.exit ?_; simp only [Then, InBlock, if_true, if_false, ↓reduceIte, Nat.reduceEqDiff]) | refine Tri.seq (Tri.block ?_) | refine Tri.block ?_ | refine Tri.seq ?_ | (refine Tri.ret ?_; refine Con.fin (.inl rfl) (by simp only [Tryd.f5, cfgPR, resA, resA1, go_sem]; rfl) (by simp only [Obs, and_true, true_and]) (by first | (simp only [kPR, Con.of, Con.ofO, resV, h4', hw2, hat, e1, hmin, go_sem]; done) | fail) trivial rfl rfl))
          refine ⟨(j + 1, ((a.at s).snd [UInt8.ofInt (j : Int)]).s, (a.at s).snd [UInt8.ofInt (j : Int)]), ⟨(by show j + 1 ≤ w; omega), sent2, hI2⟩, (by show w - (j + 1) < w - j; omega), Wk.of ?_ ?_ rfl rfl⟩
          · simp only [lessTs, List.reduceReplicate, List.cons_append, List.nil_append] <;> ((repeat' apply And.intro) <;> first | with_reducible rfl | exact True.intro | exact congrArg (fun z : Int => some (AV.int IntKind.i64 z)) (show (_ : Int) = _ by omega) | exact congrArg (fun z : Nat => some (AV.tsl _ _ _ _ _ z)) (show (_ : Nat) = _ by omega) | exact arrEq (by omega) (by with_reducible rfl))
          · exact ⟨rfl, rfl, rfl, rfl, rfl, rfl, trivial⟩
        · have h4' : decide ((j : Int) < (w : Int)) = false := decide_eq_false (by omega)
          have oa := out_len ag
          refine Tri.at (by first | (simp only [h4', hw2, hat, hs, hq1, hq2, hq3, hq4, hq5, hq6, hq7, hq8, hout, Con.start, go_sem]; rfl) | rfl) ?_
          repeat (first | ((first | refine Tri.seq (Tri.regT (cfgPR_ok.pins _) ?_) | refine Tri.rgnT (cfgPR_ok.pins _) ?_); (repeat (first | refine RunT.oneA (hp := by simp (maxSteps := 2000000) (disch := first | decide | omega | (simp only [List.length_append, List.length_cons, List.length_nil, List.length_take, List.length_drop]; omega)) only [h4', hw2, hat, hs, hq1, hq2, hq3, hq4, hq5, hq6, hq7, hq8, hout, go_sem]; rfl) (h := ?_) | refine RunT.notA (h := ?_))); refine RunT.nil ?_; try simp only [InBlock, Then]) | refine Tri.cF (by first | (simp only [h4', hw2, hat, hs, hq1, hq2, hq3, hq4, hq5, hq6, hq7, hq8, hout, go_sem]; done) | fail) ?_ | refine Tri.cT (by first | (simp only [h4', hw2, hat, hs, hq1, hq2, hq3, hq4, hq5, hq6, hq7, hq8, hout, go_sem]; done) | fail) ?_ | (refine Tri.skip ?_; try simp only [InBlock, Then]) | (refine Tri.exit ?_; simp only [Then, InBlock, if_true, if_false, ↓reduceIte, Nat.reduceEqDiff]) | refine Tri.seq (Tri.block ?_) | refine Tri.block ?_ | refine Tri.seq ?_ | (refine Tri.ret ?_; refine Con.fin (.inl rfl) (by simp only [Tryd.f5, cfgPR, resA, resA1, go_sem]; rfl) (by simp only [Obs, and_true, true_and]) (by first | (simp only [kPR, Con.of, Con.ofO, resV, h4', hw2, hat, hs, hq1, hq2, hq3, hq4, hq5, hq6, hq7, hq8, hout, go_sem]; done) | fail) trivial rfl rfl))
          have hjw : j = w := by omega
          rw [hjw] at hI
          have hW := WI.new hI
          have hVl : a.out.length ≤ 8 := by omega
          generalize hV : a.out = V at *
          obtain ⟨m, hm⟩ : ∃ m, m = min kk V.length := ⟨_, rfl⟩
          have hmi : (bif decide (((V.length : Nat) : Int) < ((kk : Nat) : Int)) then ((V.length : Nat) : Int) else ((kk : Nat) : Int)) = ((m : Nat) : Int) := by
            by_cases c : V.length < kk
            · rw [decide_eq_true (show ((V.length : Nat) : Int) < ((kk : Nat) : Int) by omega)]
              show ((V.length : Nat) : Int) = _
              omega
            · rw [decide_eq_false (show ¬ ((V.length : Nat) : Int) < ((kk : Nat) : Int) by omega)]
              show ((kk : Nat) : Int) = _
              omega
          refine Tri.loop (fun q : Nat × SS × PP × PP => (⟨[none, some (.int .i64 k), none, none, none, some (.ptr 0 [] 0), some (.ptr 2 [] 0), some (.ptr 4 [] 0), some (.int .i64 (q.2.2.1.len : Int)), none, none, none, some (.pure (.slice true (.slice true (.int .u8))) V), some (.int .i64 (q.1 : Int)), none, none, none, none, none, none, none, none, none, none, none, none, none, none, none, none, none, none, some (.pure (.slice false (.int .i64)) l), some (.int .i64 (l.length : Int)), some (.int .i64 (i : Int))] ++ List.replicate 61 none, [.live (.agg [.bool q.2.1.sy, .pure k16 q.2.1.seed, .int .u64 q.2.1.dr, .int .u64 q.2.1.cn, .tsl 1 [] 0 0 18 (List.length (α := tmK.T) q.2.1.ts)]), .live (.pure (.arr (List.length (α := tmK.T) q.2.1.ts) tmK) q.2.1.ts), .live (.agg [.ptr 0 [] 0, .pure k16 q.2.2.1.key, .int .u64 q.2.2.1.sd, .int .u64 q.2.2.1.sn, .int .u64 q.2.2.1.ex, .tsl 3 [] q.2.2.1.i q.2.2.1.i 1 q.2.2.1.len]), .live (.pure (.arr q.2.2.1.N (.slice true (.int .u8))) q.2.2.1.xs), .live (.agg [.ptr 0 [] 0, .pure k16 q.2.2.2.key, .int .u64 q.2.2.2.sd, .int .u64 q.2.2.2.sn, .int .u64 q.2.2.2.ex, .tsl 5 [] q.2.2.2.i q.2.2.2.i 1 q.2.2.2.len]), .live (.pure (.arr q.2.2.2.N (.slice true (.int .u8))) q.2.2.2.xs)]⟩ : AS)) (fun q => q.1 ≤ m ∧ WI (18 * i + w + q.1) [1, 0, 0, 0, 0, 0, 0, 0, 0, 0, 0, 0, 0, 0, 0, 0] V q.1 q.2.1 q.2.2.1 q.2.2.2 sent) (fun q => m - q.1) (0, s, a, b) ?_ ⟨Nat.zero_le _, (by show WI (18 * i + w + 0) [1, 0, 0, 0, 0, 0, 0, 0, 0, 0, 0, 0, 0, 0, 0, 0] V 0 s a b sent; exact hW)⟩ ?_
          · refine Wk.of ?_ ?_ rfl rfl
            · simp only [lessTs, List.reduceReplicate, List.cons_append, List.nil_append] <;> ((repeat' apply And.intro) <;> first | with_reducible rfl | exact True.intro | exact congrArg (fun z : Int => some (AV.int IntKind.i64 z)) (show (_ : Int) = _ by omega) | exact congrArg (fun z : Nat => some (AV.tsl _ _ _ _ _ z)) (show (_ : Nat) = _ by omega) | exact arrEq (by omega) (by with_reducible rfl))
            exact ⟨rfl, rfl, rfl, rfl, rfl, rfl, trivial⟩
          · clear hI hW sgl sgk a1 a2 a3 a4 a5 b1 b2 b3 b4 b5 ag bg oa hV
            rintro ⟨j, s, a, b⟩ ⟨hj, hW⟩
            replace hj : j ≤ m := hj
            replace hW : WI (18 * i + w + j) [1, 0, 0, 0, 0, 0, 0, 0, 0, 0, 0, 0, 0, 0, 0, 0] V j s a b sent := hW
            have hI := hW.r
            have sgl := hI.g.len
            have sgk := hI.g.ok
            have ag := hI.pa.pg
            have bg := hI.pb.pg
            have a1 := ag.key
            have a2 := ag.in_
            have a3 := ag.xs
            have a4 := ag.len
            have a5 := ag.bx
            have b1 := bg.key
            have b2 := bg.in_
            have b3 := bg.xs
            have b4 := bg.len
            have b5 := bg.bx
            by_cases h5 : j < m
            · have h5' : decide ((j : Int) < (m : Int)) = true := decide_eq_true (by omega)
              obtain ⟨y, q1, q2, q3, q4, q5, q6, q7⟩ := hW.step (by omega) (by omega)
              generalize hx : V.getD j [] = x at *
              have q5l := q5.len
              have q5k := q5.ok
              have hI2 := q6.r
              have z1 : decide ((1 : Int) = 1) = true := rfl
              have z0 : decide ((0 : Int) = 0) = true := rfl
              have z4 : decide (((1 : Nat) : Int) = 1) = true := rfl
              refine Tri.at (by first | (simp only [h5', hk2, hmi, hat, hs, hq1, hq2, hq3, hq4, hq5, hq6, hq7, hq8, hout, hx, q1, q2, z0, z1, z4, Con.start, go_sem]; rfl) | rfl) ?_
              repeat (first | ((first | refine Tri.seq (Tri.regT (cfgPR_ok.pins _) ?_) | refine Tri.rgnT (cfgPR_ok.pins _) ?_); (repeat (first | refine RunT.oneA (hp := by simp (maxSteps := 2000000) (disch := first | decide | omega | (simp only [List.length_append, List.length_cons, List.length_nil, List.length_take, List.length_drop]; omega)) only [h5', hk2, hmi, hat, hs, hq1, hq2, hq3, hq4, hq5, hq6, hq7, hq8, hout, hx, q1, q2, z0, z1, z4, go_sem]; rfl) (h := ?_) | refine RunT.notA (h := ?_))); refine RunT.nil ?_; try simp only [InBlock, Then]) | refine Tri.cF (by first | (simp only [h5', hk2, hmi, hat, hs, hq1, hq2, hq3, hq4, hq5, hq6, hq7, hq8, hout, hx, q1, q2, z0, z1, z4, go_sem]; done) | fail) ?_ | refine Tri.cT (by first | (simp only [h5', hk2, hmi, hat, hs, hq1, hq2, hq3, hq4, hq5, hq6, hq7, hq8, hout, hx, q1, q2, z0, z1, z4, go_sem]; done) | fail) ?_ | (refine Tri.skip ?_; try simp only [InBlock, Then]) | (refine Tri.exit ?_; simp only [Then, InBlock, if_true, if_false, ↓reduceIte, Nat.reduceEqDiff]) | refine Tri.seq (Tri.block ?_) | refine Tri.block ?_ | refine Tri.seq ?_ | (refine Tri.ret ?_; refine Con.fin (.inl rfl) (by simp only [Tryd.f5, cfgPR, resA, resA1, go_sem]; rfl) (by simp only [Obs, and_true, true_and]) (by first | (simp only [kPR, Con.of, Con.ofO, resV, h5', hk2, hmi, hat, hs, hq1, hq2, hq3, hq4, hq5, hq6, hq7, hq8, hout, hx, q1, q2, z0, z1, z4, go_sem]; done) | fail) trivial rfl rfl))
              refine ⟨(j + 1, ((a.at ((b.at s).rcv x).p.s).rcv y).p.s, ((a.at ((b.at s).rcv x).p.s).rcv y).p, ((b.at s).rcv x).p), ⟨(by show j + 1 ≤ m; omega), q6⟩, (by show m - (j + 1) < m - j; omega), Wk.of ?_ ?_ rfl rfl⟩
              · simp only [lessTs, List.reduceReplicate, List.cons_append, List.nil_append] <;> ((repeat' apply And.intro) <;> first | with_reducible rfl | exact True.intro | exact congrArg (fun z : Int => some (AV.int IntKind.i64 z)) (show (_ : Int) = _ by omega) | exact congrArg (fun z : Nat => some (AV.tsl _ _ _ _ _ z)) (show (_ : Nat) = _ by omega) | exact arrEq (by omega) (by with_reducible rfl))
              · exact ⟨rfl, rfl, rfl, rfl, rfl, rfl, trivial⟩
            · have h5' : decide ((j : Int) < (m : Int)) = false := decide_eq_false (by omega)
              have z5 : decide ((a.len : Int) = (a.len : Int)) = true := decide_eq_true rfl
              refine Tri.at (by first | (simp only [h5', hk2, hmi, hat, hs, hq1, hq2, hq3, hq4, hq5, hq6, hq7, hq8, hout, z5, Con.start, go_sem]; rfl) | rfl) ?_
              repeat (first | ((first | refine Tri.seq (Tri.regT (cfgPR_ok.pins _) ?_) | refine Tri.rgnT (cfgPR_ok.pins _) ?_); (repeat (first | refine RunT.oneA (hp := by simp (maxSteps := 2000000) (disch := first | decide | omega | (simp only [List.length_append, List.length_cons, List.length_nil, List.length_take, List.length_drop]; omega)) only [h5', hk2, hmi, hat, hs, hq1, hq2, hq3, hq4, hq5, hq6, hq7, hq8, hout, z5, go_sem]; rfl) (h := ?_) | refine RunT.notA (h := ?_))); refine RunT.nil ?_; try simp only [InBlock, Then]) | refine Tri.cF (by first | (simp only [h5', hk2, hmi, hat, hs, hq1, hq2, hq3, hq4, hq5, hq6, hq7, hq8, hout, z5, go_sem]; done) | fail) ?_ | refine Tri.cT (by first | (simp only [h5', hk2, hmi, hat, hs, hq1, hq2, hq3, hq4, hq5, hq6, hq7, hq8, hout, z5, go_sem]; done) | fail) ?_ | (refine Tri.skip ?_; try simp only [InBlock, Then]) | (refine Tri.exit ?_; simp only [Then, InBlock, if_true, if_false, ↓reduceIte, Nat.reduceEqDiff]) | refine Tri.seq (Tri.block ?_) | refine Tri.block ?_ | refine Tri.seq ?_ | (refine Tri.ret ?_; refine Con.fin (.inl rfl) (by simp only [Tryd.f5, cfgPR, resA, resA1, go_sem]; rfl) (by simp only [Obs, and_true, true_and]) (by first | (simp only [kPR, Con.of, Con.ofO, resV, h5', hk2, hmi, hat, hs, hq1, hq2, hq3, hq4, hq5, hq6, hq7, hq8, hout, z5, go_sem]; done) | fail) trivial rfl rfl))
              refine ⟨(i + 1, s, a, b), ⟨(by show i + 1 ≤ l.length; omega), sent, ?_⟩, (by show l.length - (i + 1) < l.length - i; omega), Wk.of ?_ ?_ rfl rfl⟩
              · exact hI.mono (by show 18 * i + w + j ≤ 18 * (i + 1); omega)
              · simp only [lessTs, List.reduceReplicate, List.cons_append, List.nil_append] <;> ((repeat' apply And.intro) <;> first | with_reducible rfl | exact True.intro | exact congrArg (fun z : Int => some (AV.int IntKind.i64 z)) (show (_ : Int) = _ by omega) | exact congrArg (fun z : Nat => some (AV.tsl _ _ _ _ _ z)) (show (_ : Nat) = _ by omega) | exact arrEq (by omega) (by with_reducible rfl))
              · exact ⟨rfl, rfl, rfl, rfl, rfl, rfl, trivial⟩
theorem prm_sum : FSumOK Tryd.prog cfgPR.G 5 kPR.sum := Con.sumOK cfgPR_ok kPR Tryd.func5 rfl rfl (Con.of_inv _ _ _) prm_body
end
end Go.Proofs.YtlnkfdblkdhdgaaDoor
