/- Part of a proof: No more boxes are open than there is room for; what is acknowledged makes room for as many -/
import Derived.Test.YtlnkfdblkdhdgaaDoorP2
import Derived.Shelf.Bytes.SlClone
set_option linter.unusedVariables false
set_option linter.unusedSimpArgs false
set_option linter.unusedSectionVars false
namespace Go.Proofs.YtlnkfdblkdhdgaaDoor.Ae
open Go.Vc Go.Proofs
set_option maxRecDepth 10000
set_option maxHeartbeats 4000000
def cfgD : Cfg2 := { ty := tyTabS, fn := fun | 140 => some kBlock.sum | 137 => some kBoxes.sum | 138 => some kTwice.sum | 141 => some kCounter.sum | _ => none, G := shaG, pin := [], eq := fun _ => none }
theorem cfgD_ok : CfgOK Tryd.prog cfgD := ⟨tysSOK, (fun f s h => by
  simp only [cfgD] at h
  split at h
  · injection h with h; subst h; exact .inl block_sum
  · injection h with h; subst h; exact .inl boxes_sum
  · injection h with h; subst h; exact .inl twice_sum
  · injection h with h; subst h; exact .inl counter_sum
  · cases h), (fun t d h => by cases h)⟩
abbrev d4 : List UInt8 := [0, 0, 0, 0]
def kxI (ks : List (List UInt8)) (i : Nat) : Nat → List (List UInt8)
  | 0 => ks
  | j + 1 => (kxI ks i j).set i (((kxI ks i j).getD i d4).set j (((kxI ks i j).getD i d4).getD j 0 ^^^ ((kxI ks i j).getD (i - 4) d4).getD j 0))
def cpK (old key : List UInt8) (i : Nat) : List UInt8 :=
  let src := List.take (16 - 4 * i) (List.drop (4 * i) key)
  List.take 0 old ++ List.take (min src.length 4) src ++ List.drop (List.take (min src.length 4) src).length old
def keyStep (box key : List UInt8) (i : Nat) (s : UInt8 × List (List UInt8)) : UInt8 × List (List UInt8) :=
  if i < 4 then (s.1, s.2.set i (cpK (s.2.getD i d4) key i)) else
    let k1 := s.2.set i (s.2.getD (i - 1) d4)
    let w := k1.getD i d4
    if i % 4 = 0 then (twice s.1, kxI (k1.set i [box.getD (w.getD 1 0).toNat 0 ^^^ s.1, box.getD (w.getD 2 0).toNat 0, box.getD (w.getD 3 0).toNat 0, box.getD (w.getD 0 0).toNat 0]) i 4)
    else (s.1, kxI k1 i 4)
def keyI (box key : List UInt8) : Nat → UInt8 × List (List UInt8)
  | 0 => (1, Kd.dflt a44)
  | i + 1 => keyStep box key i (keyI box key i)
def box0 : List UInt8 := (boxI (Kd.dflt a256) 255).2.2
def newC (key : List UInt8) : cipK.T := (box0, (keyI box0 key 44).2, ())
def kNew : Con := Con.of [.v a16] (fun _ => []) (fun x => ⟨.ptr 1 [] 0, [.pure a16 x.1, .pure cipK (newC x.1)]⟩)
theorem new_body (p : kNew.Par) (hp : ∀ q ∈ kNew.pre p, q) : BodyOK Tryd.prog cfgD Tryd.f107 (Tryd.f107.body.get rfl) kNew p := by
  obtain ⟨(key : List UInt8), u⟩ := p
  refine ⟨?_, Nat.zero_le _, rfl, rfl⟩
  show Tri _ _ _ (Code.seq _ (Code.seq _ (Code.seq _ (Code.seq _ (Code.seq (Code.seq _ (Code.block _ (Code.loop (Code.seq _ (Code.seq (Code.cond _ _ _) (Code.seq (Code.block _ (Code.seq _ (Code.seq _ (Code.seq (Code.seq _ (Code.cond _ (Code.seq _ _) _)) (Code.seq _ (Code.seq (Code.seq _ (Code.cond _ (Code.seq _ _) _)) (Code.seq _ (Code.block _ (Code.loop _))))))))) _)))))) (Code.seq _ _)))))) _
  refine Tri.seq (Tri.reg (cfgD_ok.pins _) (by simp (maxSteps := 2000000) (disch := first | decide | omega | (simp only [List.length_append, List.length_cons, List.length_nil, List.length_take, List.length_drop]; omega)) only [Tryd.f107, kNew, kBoxes, kTwice, cfgD, tyTabS, go_sem]; rfl) (by first | exact True.intro | (simp only [Obs, and_true, true_and]; omega) | (simp [Obs, AV.sizeL, AV.size, Kd.sz]; done) | (simp [Obs, AV.sizeL, AV.size, Kd.sz]; omega)) ?_)
  refine Tri.seq (Tri.reg (cfgD_ok.pins _) (by simp (maxSteps := 2000000) (disch := first | decide | omega | (simp only [List.length_append, List.length_cons, List.length_nil, List.length_take, List.length_drop]; omega)) only [Tryd.f107, kNew, kBoxes, kTwice, cfgD, tyTabS, go_sem]; rfl) (by first | exact True.intro | (simp only [Obs, and_true, true_and]; omega) | (simp [Obs, AV.sizeL, AV.size, Kd.sz]; done) | (simp [Obs, AV.sizeL, AV.size, Kd.sz]; omega)) ?_)
  refine Tri.seq (Tri.reg (cfgD_ok.pins _) (by simp (maxSteps := 2000000) (disch := first | decide | omega | (simp only [List.length_append, List.length_cons, List.length_nil, List.length_take, List.length_drop]; omega)) only [Tryd.f107, kNew, kBoxes, kTwice, cfgD, tyTabS, go_sem]; rfl) (by first | exact True.intro | (simp only [Obs, and_true, true_and]; omega) | (simp [Obs, AV.sizeL, AV.size, Kd.sz]; done) | (simp [Obs, AV.sizeL, AV.size, Kd.sz]; omega)) ?_)
  refine Tri.seq (Tri.reg (cfgD_ok.pins _) (by simp (maxSteps := 2000000) (disch := first | decide | omega | (simp only [List.length_append, List.length_cons, List.length_nil, List.length_take, List.length_drop]; omega)) only [Tryd.f107, kNew, kBoxes, kTwice, cfgD, tyTabS, go_sem]; rfl) (by first | exact True.intro | (simp only [Obs, and_true, true_and]; omega) | (simp [Obs, AV.sizeL, AV.size, Kd.sz]; done) | (simp [Obs, AV.sizeL, AV.size, Kd.sz]; omega)) ?_)
  refine Tri.seq ?_
  refine Tri.seq (Tri.reg (cfgD_ok.pins _) (by simp (maxSteps := 2000000) (disch := first | decide | omega | (simp only [List.length_append, List.length_cons, List.length_nil, List.length_take, List.length_drop]; omega)) only [Tryd.f107, kNew, kBoxes, kTwice, cfgD, tyTabS, go_sem]; rfl) (by first | exact True.intro | (simp only [Obs, and_true, true_and]; omega) | (simp [Obs, AV.sizeL, AV.size, Kd.sz]; done) | (simp [Obs, AV.sizeL, AV.size, Kd.sz]; omega)) ?_)
  refine Tri.block ?_
  refine Tri.loop (fun i : Nat => (⟨[none, some (.ptr 0 [] 0), none, some (.ptr 1 [] 0), some (.int .u8 (keyI box0 key i).1), none, none, none, none, none, none, none, some (.int .i64 (i : Int))] ++ List.replicate 94 none, [.live (.pure a16 key), .live (.pure cipK (box0, (keyI box0 key i).2, ()))]⟩ : AS)) (· ≤ 44) (fun k => 44 - k) 0 ?_ (Nat.zero_le _) ?_
  · refine Wk.of ?_ ?_ rfl rfl
    · simp only [lessTs, List.reduceReplicate, List.cons_append, List.nil_append] <;> ((repeat' apply And.intro) <;> first | rfl | trivial)
    · simp only [lessHs, keyI] <;> ((repeat' apply And.intro) <;> first | rfl | trivial)
  · intro i hi
    refine Tri.seq (Tri.reg (cfgD_ok.pins _) (by simp (maxSteps := 2000000) (disch := first | decide | omega | (simp only [List.length_append, List.length_cons, List.length_nil, List.length_take, List.length_drop]; omega)) only [Tryd.f107, kNew, kBoxes, kTwice, cfgD, tyTabS, go_sem]; rfl) (by first | exact True.intro | (simp only [Obs, and_true, true_and]; omega) | (simp [Obs, AV.sizeL, AV.size, Kd.sz]; done) | (simp [Obs, AV.sizeL, AV.size, Kd.sz]; omega)) ?_)
    refine Tri.seq ?_
    refine Tri.split (by simp only [AS.ev, go_sem]; rfl) (fun hc => ?_) (fun hc => ?_)
    · have hc' : i < 44 := by
        have : (i : Int) < 44 := by simpa using hc
        omega
      refine Tri.skp ?_
      refine Tri.seq (Tri.block ?_)
      refine Tri.seq (Tri.reg (cfgD_ok.pins _) (by simp (maxSteps := 2000000) (disch := first | decide | omega | (simp only [List.length_append, List.length_cons, List.length_nil, List.length_take, List.length_drop]; omega)) only [Tryd.f107, kNew, kBoxes, kTwice, cfgD, tyTabS, go_sem]; rfl) (by first | exact True.intro | (simp only [Obs, and_true, true_and]; omega) | (simp [Obs, AV.sizeL, AV.size, Kd.sz]; done) | (simp [Obs, AV.sizeL, AV.size, Kd.sz]; omega)) ?_)
      refine Tri.seq (Tri.reg (cfgD_ok.pins _) (by simp (maxSteps := 2000000) (disch := first | decide | omega | (simp only [List.length_append, List.length_cons, List.length_nil, List.length_take, List.length_drop]; omega)) only [Tryd.f107, kNew, kBoxes, kTwice, cfgD, tyTabS, go_sem]; rfl) (by first | exact True.intro | (simp only [Obs, and_true, true_and]; omega) | (simp [Obs, AV.sizeL, AV.size, Kd.sz]; done) | (simp [Obs, AV.sizeL, AV.size, Kd.sz]; omega)) ?_)
      refine Tri.seq (Tri.seq ?_)
      refine (Tri.rgn (cfgD_ok.pins _) (by simp (maxSteps := 2000000) (disch := first | decide | omega | (simp only [List.length_append, List.length_cons, List.length_nil, List.length_take, List.length_drop]; omega)) only [Tryd.f107, kNew, kBoxes, kTwice, cfgD, tyTabS, go_sem]; rfl) (by first | exact True.intro | (simp only [Obs, and_true, true_and]; omega) | (simp [Obs, AV.sizeL, AV.size, Kd.sz]; done) | (simp [Obs, AV.sizeL, AV.size, Kd.sz]; omega)) ?_)
      try simp only [InBlock, Then]
      refine Tri.split (by simp only [AS.ev, go_sem]; rfl) (fun hd => ?_) (fun hd => ?_)
      · have hd' : i < 4 := by
          have : (i : Int) < 4 := by simpa using hd
          omega
        refine Tri.seq (Tri.drw (mixed) (cfgD_ok.pins _) (by simp (maxSteps := 2000000) (disch := first | decide | omega | (simp only [List.length_append, List.length_cons, List.length_nil, List.length_take, List.length_drop]; omega)) only [Tryd.f107, kNew, kBoxes, kTwice, cfgD, tyTabS, go_sem]; rfl) (by first | exact True.intro | (simp only [Obs, and_true, true_and]; omega) | (simp [Obs, AV.sizeL, AV.size, Kd.sz]; done) | (simp [Obs, AV.sizeL, AV.size, Kd.sz]; omega)) (by kernel_rfl) ?_)
        refine Tri.exit ?_
        simp only [Then, InBlock, if_true]
        refine (Tri.rgn (cfgD_ok.pins _) (by simp (maxSteps := 2000000) (disch := first | decide | omega | (simp only [List.length_append, List.length_cons, List.length_nil, List.length_take, List.length_drop]; omega)) only [Tryd.f107, kNew, kBoxes, kTwice, cfgD, tyTabS, go_sem]; rfl) (by first | exact True.intro | (simp only [Obs, and_true, true_and]; omega) | (simp [Obs, AV.sizeL, AV.size, Kd.sz]; done) | (simp [Obs, AV.sizeL, AV.size, Kd.sz]; omega)) ?_)
        try simp only [InBlock, Then]
        refine ⟨i + 1, (by omega), (by omega), Wk.of ?_ ?_ rfl rfl⟩
        · simp only [lessTs, List.reduceReplicate, List.cons_append, List.nil_append, keyI, keyStep, if_pos hd'] <;> ((repeat' apply And.intro) <;> first | rfl | trivial)
        · simp only [lessHs, keyI, keyStep, if_pos hd'] <;> ((repeat' apply And.intro) <;> first | rfl | trivial)
      · have hd' : ¬ i < 4 := by
          have : ¬ (i : Int) < 4 := by simpa using hd
          omega
        obtain ⟨m1, hm1⟩ : ∃ m : Nat, (i : Int) - 1 = (m : Int) := ⟨i - 1, by omega⟩
        obtain ⟨m4, hm4⟩ : ∃ m : Nat, (i : Int) - 4 = (m : Int) := ⟨i - 4, by omega⟩
        have hn1 : m1 = i - 1 := by omega
        have hn4 : m4 = i - 4 := by omega
        refine Tri.skp ?_
        refine Tri.seq (Tri.reg (cfgD_ok.pins _) (by simp (maxSteps := 2000000) (disch := first | decide | omega | (simp only [List.length_append, List.length_cons, List.length_nil, List.length_take, List.length_drop]; omega)) only [Tryd.f107, kNew, kBoxes, kTwice, cfgD, tyTabS, hm1, hm4, go_sem]; rfl) (by first | exact True.intro | (simp only [Obs, and_true, true_and]; omega) | (simp [Obs, AV.sizeL, AV.size, Kd.sz]; done) | (simp [Obs, AV.sizeL, AV.size, Kd.sz]; omega)) ?_)
        refine Tri.seqWk (fun q : UInt8 × List (List UInt8) => (⟨[none, some (.ptr 0 [] 0), none, some (.ptr 1 [] 0), some (.int .u8 q.1), some (.int .i64 (i : Int)), some (.ptr 1 [1, i] (256 + i * 4)), none, none, none, none, none, some (.int .i64 (i : Int))] ++ List.replicate 94 none, [.live (.pure a16 key), .live (.pure cipK (box0, q.2, ()))]⟩ : AS)) (fun q => keyI box0 key (i + 1) = (q.1, kxI q.2 i 4)) ?_ ?_
        · refine Tri.seq ?_
          refine (Tri.rgn (cfgD_ok.pins _) (by simp (maxSteps := 2000000) (disch := first | decide | omega | (simp only [List.length_append, List.length_cons, List.length_nil, List.length_take, List.length_drop]; omega)) only [Tryd.f107, kNew, kBoxes, kTwice, cfgD, tyTabS, hm1, hm4, go_sem]; rfl) (by first | exact True.intro | (simp only [Obs, and_true, true_and]; omega) | (simp [Obs, AV.sizeL, AV.size, Kd.sz]; done) | (simp [Obs, AV.sizeL, AV.size, Kd.sz]; omega)) ?_)
          try simp only [InBlock, Then]
          generalize hk1 : (keyI box0 key i).2.set i ((keyI box0 key i).2.getD m1 [0, 0, 0, 0]) = k1
          refine Tri.split (by simp only [AS.ev, go_sem]; rfl) (fun he => ?_) (fun he => ?_)
          · have he' : i % 4 = 0 := by
              have : ((i % 4 : Nat) : Int) = 0 := by simpa using he
              omega
            have hl1 := UInt8.toNat_lt ((k1.getD i [0, 0, 0, 0]).getD 1 0)
            have hl2 := UInt8.toNat_lt ((k1.getD i [0, 0, 0, 0]).getD 2 0)
            have hl3 := UInt8.toNat_lt ((k1.getD i [0, 0, 0, 0]).getD 3 0)
            have hl0 := UInt8.toNat_lt ((k1.getD i [0, 0, 0, 0]).getD 0 0)
            refine Tri.seq (Tri.drw (mixed) (cfgD_ok.pins _) (by simp (maxSteps := 2000000) (disch := first | decide | omega | (simp only [List.length_append, List.length_cons, List.length_nil, List.length_take, List.length_drop]; omega)) only [Tryd.f107, kNew, kBoxes, kTwice, cfgD, tyTabS, hm1, hm4, go_sem]; rfl) (by (simp only [Obs, and_true, true_and]; generalize ((k1.getD i [0, 0, 0, 0]).getD 1 0).toNat = z1 at *; generalize ((k1.getD i [0, 0, 0, 0]).getD 2 0).toNat = z2 at *; generalize ((k1.getD i [0, 0, 0, 0]).getD 3 0).toNat = z3 at *; generalize ((k1.getD i [0, 0, 0, 0]).getD 0 0).toNat = z0 at *; omega)) (by kernel_rfl) ?_)
            refine (Tri.rgn (cfgD_ok.pins _) (by simp (maxSteps := 2000000) (disch := first | decide | omega | (simp only [List.length_append, List.length_cons, List.length_nil, List.length_take, List.length_drop]; omega)) only [Tryd.f107, kNew, kBoxes, kTwice, cfgD, tyTabS, hm1, hm4, go_sem]; rfl) (by first | exact True.intro | (simp only [Obs, and_true, true_and]; omega) | (simp [Obs, AV.sizeL, AV.size, Kd.sz]; done) | (simp [Obs, AV.sizeL, AV.size, Kd.sz]; omega)) ?_)
            try simp only [InBlock, Then]
            refine ⟨(twice (keyI box0 key i).1, k1.set i [box0.getD ((k1.getD i [0, 0, 0, 0]).getD 1 0).toNat 0 ^^^ (keyI box0 key i).1, box0.getD ((k1.getD i [0, 0, 0, 0]).getD 2 0).toNat 0, box0.getD ((k1.getD i [0, 0, 0, 0]).getD 3 0).toNat 0, box0.getD ((k1.getD i [0, 0, 0, 0]).getD 0 0).toNat 0]), ?_, Wk.of ?_ ?_ rfl rfl⟩
            rotate_left
            · simp only [lessTs, List.reduceReplicate, List.cons_append, List.nil_append] <;> ((repeat' apply And.intro) <;> first | rfl | trivial)
            · simp only [lessHs] <;> ((repeat' apply And.intro) <;> first | rfl | trivial)
            · simp only [keyI, keyStep, if_neg hd', if_pos he', ← hn1, hk1]
          · have he' : ¬ i % 4 = 0 := by
              have : ¬ ((i % 4 : Nat) : Int) = 0 := by simpa using he
              omega
            refine Tri.skp ?_
            refine ⟨((keyI box0 key i).1, k1), ?_, Wk.of ?_ ?_ rfl rfl⟩
            rotate_left
            · simp only [lessTs, List.reduceReplicate, List.cons_append, List.nil_append] <;> ((repeat' apply And.intro) <;> first | rfl | trivial)
            · simp only [lessHs] <;> ((repeat' apply And.intro) <;> first | rfl | trivial)
            · simp only [keyI, keyStep, if_neg hd', if_neg he', ← hn1, hk1]
        · rintro ⟨rd, ks⟩ hq
          refine Tri.seq (Tri.reg (cfgD_ok.pins _) (by simp (maxSteps := 2000000) (disch := first | decide | omega | (simp only [List.length_append, List.length_cons, List.length_nil, List.length_take, List.length_drop]; omega)) only [Tryd.f107, kNew, kBoxes, kTwice, cfgD, tyTabS, hm1, hm4, go_sem]; rfl) (by first | exact True.intro | (simp only [Obs, and_true, true_and]; omega) | (simp [Obs, AV.sizeL, AV.size, Kd.sz]; done) | (simp [Obs, AV.sizeL, AV.size, Kd.sz]; omega)) ?_)
          refine Tri.block ?_
          refine Tri.loop (fun j : Nat => (⟨[none, some (.ptr 0 [] 0), none, some (.ptr 1 [] 0), some (.int .u8 rd), some (.int .i64 (i : Int)), some (.ptr 1 [1, i] (256 + i * 4)), none, none, none, none, none, some (.int .i64 (i : Int))] ++ List.replicate 71 none ++ [some (.int .i64 (j : Int))] ++ List.replicate 22 none, [.live (.pure a16 key), .live (.pure cipK (box0, kxI ks i j, ()))]⟩ : AS)) (· ≤ 4) (fun k => 4 - k) 0 ?_ (Nat.zero_le _) ?_
          · refine Wk.of ?_ ?_ rfl rfl
            · simp only [lessTs, List.reduceReplicate, List.cons_append, List.nil_append] <;> ((repeat' apply And.intro) <;> first | rfl | trivial)
            · simp only [lessHs, kxI] <;> ((repeat' apply And.intro) <;> first | rfl | trivial)
          · intro j hj
            refine Tri.seq (Tri.reg (cfgD_ok.pins _) (by simp (maxSteps := 2000000) (disch := first | decide | omega | (simp only [List.length_append, List.length_cons, List.length_nil, List.length_take, List.length_drop]; omega)) only [Tryd.f107, kNew, kBoxes, kTwice, cfgD, tyTabS, hm1, hm4, go_sem]; rfl) (by first | exact True.intro | (simp only [Obs, and_true, true_and]; omega) | (simp [Obs, AV.sizeL, AV.size, Kd.sz]; done) | (simp [Obs, AV.sizeL, AV.size, Kd.sz]; omega)) ?_)
            refine Tri.seq ?_
            refine Tri.split (by simp only [AS.ev, go_sem]; rfl) (fun hf => ?_) (fun hf => ?_)
            · have hf' : j < 4 := by
                have : (j : Int) < 4 := by simpa using hf
                omega
              refine Tri.skp ?_
              refine Tri.seq (Tri.block ?_)
              refine Tri.seq (Tri.reg (cfgD_ok.pins _) (by simp (maxSteps := 2000000) (disch := first | decide | omega | (simp only [List.length_append, List.length_cons, List.length_nil, List.length_take, List.length_drop]; omega)) only [Tryd.f107, kNew, kBoxes, kTwice, cfgD, tyTabS, hm1, hm4, go_sem]; rfl) (by first | exact True.intro | (simp only [Obs, and_true, true_and]; omega) | (simp [Obs, AV.sizeL, AV.size, Kd.sz]; done) | (simp [Obs, AV.sizeL, AV.size, Kd.sz]; omega)) ?_)
              refine (Tri.drn (mixed) (cfgD_ok.pins _) (by simp (maxSteps := 2000000) (disch := first | decide | omega | (simp only [List.length_append, List.length_cons, List.length_nil, List.length_take, List.length_drop]; omega)) only [Tryd.f107, kNew, kBoxes, kTwice, cfgD, tyTabS, hm1, hm4, go_sem]; rfl) (by first | exact True.intro | (simp only [Obs, and_true, true_and]; omega) | (simp [Obs, AV.sizeL, AV.size, Kd.sz]; done) | (simp [Obs, AV.sizeL, AV.size, Kd.sz]; omega)) (by kernel_rfl) ?_)
              try simp only [InBlock, Then]
              refine (Tri.rgn (cfgD_ok.pins _) (by simp (maxSteps := 2000000) (disch := first | decide | omega | (simp only [List.length_append, List.length_cons, List.length_nil, List.length_take, List.length_drop]; omega)) only [Tryd.f107, kNew, kBoxes, kTwice, cfgD, tyTabS, hm1, hm4, go_sem]; rfl) (by first | exact True.intro | (simp only [Obs, and_true, true_and]; omega) | (simp [Obs, AV.sizeL, AV.size, Kd.sz]; done) | (simp [Obs, AV.sizeL, AV.size, Kd.sz]; omega)) ?_)
              try simp only [InBlock, Then]
              refine ⟨j + 1, (by omega), (by omega), Wk.of ?_ ?_ rfl rfl⟩
              · simp only [lessTs, List.reduceReplicate, List.cons_append, List.nil_append] <;> ((repeat' apply And.intro) <;> first | rfl | trivial)
              · simp only [lessHs, kxI, ← hn4] <;> ((repeat' apply And.intro) <;> first | rfl | trivial)
            · refine Tri.exit ?_
              have hf' : j = 4 := by
                have : ¬ (j : Int) < 4 := by simpa using hf
                omega
              subst hf'
              simp only [Then, InBlock, if_true]
              refine (Tri.rgn (cfgD_ok.pins _) (by simp (maxSteps := 2000000) (disch := first | decide | omega | (simp only [List.length_append, List.length_cons, List.length_nil, List.length_take, List.length_drop]; omega)) only [Tryd.f107, kNew, kBoxes, kTwice, cfgD, tyTabS, hm1, hm4, go_sem]; rfl) (by first | exact True.intro | (simp only [Obs, and_true, true_and]; omega) | (simp [Obs, AV.sizeL, AV.size, Kd.sz]; done) | (simp [Obs, AV.sizeL, AV.size, Kd.sz]; omega)) ?_)
              try simp only [InBlock, Then]
              refine ⟨i + 1, (by omega), (by omega), Wk.of ?_ ?_ rfl rfl⟩
              · simp only [lessTs, List.reduceReplicate, List.cons_append, List.nil_append, hq] <;> ((repeat' apply And.intro) <;> first | rfl | trivial)
              · simp only [lessHs, hq] <;> ((repeat' apply And.intro) <;> first | rfl | trivial)
    · have hc' : i = 44 := by
        have : ¬ (i : Int) < 44 := by simpa using hc
        omega
      subst hc'
      refine Tri.exit ?_
      simp only [Then, InBlock, if_true]
      refine Tri.seq (Tri.reg (cfgD_ok.pins _) (by simp (maxSteps := 2000000) (disch := first | decide | omega | (simp only [List.length_append, List.length_cons, List.length_nil, List.length_take, List.length_drop]; omega)) only [Tryd.f107, kNew, kBoxes, kTwice, cfgD, tyTabS, go_sem]; rfl) (by first | exact True.intro | (simp only [Obs, and_true, true_and]; omega) | (simp [Obs, AV.sizeL, AV.size, Kd.sz]; done) | (simp [Obs, AV.sizeL, AV.size, Kd.sz]; omega)) ?_)
      refine Tri.ret ?_
      refine Con.fin (.inl rfl) (by simp only [Tryd.f107, cfgD, tyTabS, resA, resA1, go_sem]; rfl) (by simp only [Obs, and_true, true_and]) rfl ?_ rfl rfl
      simp only [lessHs, kNew, Con.of, List.map] <;> ((repeat' apply And.intro) <;> first | rfl | trivial)
theorem new_sum : FSumOK Tryd.prog cfgD.G 107 kNew.sum := Con.sumOK cfgD_ok kNew Tryd.func107 rfl rfl (Con.of_inv _ _ _) new_body
end Go.Proofs.YtlnkfdblkdhdgaaDoor.Ae

namespace Go.Proofs.YtlnkfdblkdhdgaaDoor.Ae
open Go.Vc Go.Proofs
set_option maxRecDepth 10000
set_option maxHeartbeats 4000000
def strI (box : List UInt8) (keys : List (List UInt8)) (nonce : UInt64) (data : List UInt8) : Nat → List UInt8 × List UInt8
  | 0 => (List.replicate data.length 0, List.replicate 16 0)
  | i + 1 =>
    let s := strI box keys nonce data i
    let b := if i % 16 = 0 then rndI box keys (ctI nonce (UInt64.ofInt ((i / 16 : Nat) : Int)) 8).2.2 10 else s.2
    (s.1.set i (data.getD i 0 ^^^ b.getD (i % 16) 0), b)
def kStream : Con := Con.of [.p cipK, .v (.int .u64), .v (.slice false (.int .u8))] (fun x => [List.length (α := UInt8) x.2.2.1 ≤ 1048576])
  (fun x => ⟨.tsl 1 [] 0 0 1 (List.length (α := UInt8) x.2.2.1), [.pure cipK x.1, .pure (.arr (List.length (α := UInt8) x.2.2.1) (.int .u8)) (strI x.1.1 x.1.2.1 x.2.1 x.2.2.1 (List.length (α := UInt8) x.2.2.1)).1, .pure a16 (strI x.1.1 x.1.2.1 x.2.1 x.2.2.1 (List.length (α := UInt8) x.2.2.1)).2]⟩)
theorem stream_body (p : kStream.Par) (hp : ∀ q ∈ kStream.pre p, q) : BodyOK Tryd.prog cfgD Tryd.f109 (Tryd.f109.body.get rfl) kStream p := by
  obtain ⟨⟨(box : List UInt8), (keys : List (List UInt8)), u1⟩, (nonce : UInt64), (data : List UInt8), u⟩ := p
  obtain ⟨hlen, _⟩ := Obs.of hp
  replace hlen : data.length ≤ 1048576 := hlen
  refine ⟨?_, by simp [kStream, Con.of, AK.cnt], rfl, rfl⟩
  show Tri _ _ _ (Code.seq _ (Code.seq _ (Code.seq _ (Code.seq (Code.seq _ (Code.block _ (Code.loop (Code.seq _ (Code.seq (Code.cond _ _ _) (Code.seq (Code.block _ (Code.seq _ (Code.seq (Code.seq _ (Code.cond _ _ _)) _))) _)))))) (Code.seq _ _))))) _
  refine Tri.seq (Tri.reg (cfgD_ok.pins _) (by simp (maxSteps := 2000000) (disch := first | decide | omega | (simp only [List.length_append, List.length_cons, List.length_nil, List.length_take, List.length_drop]; omega)) only [Tryd.f109, kStream, kCounter, kBlock, cfgD, tyTabS, go_sem]; rfl) (by first | exact True.intro | (simp only [Obs, and_true, true_and]; omega) | (simp [Obs, AV.sizeL, AV.size, Kd.sz]; done) | (simp [Obs, AV.sizeL, AV.size, Kd.sz]; omega)) ?_)
  refine Tri.seq (Tri.reg (cfgD_ok.pins _) (by simp (maxSteps := 2000000) (disch := first | decide | omega | (simp only [List.length_append, List.length_cons, List.length_nil, List.length_take, List.length_drop]; omega)) only [Tryd.f109, kStream, kCounter, kBlock, cfgD, tyTabS, go_sem]; rfl) (by first | exact True.intro | (simp only [Obs, and_true, true_and]; omega) | (simp [Obs, AV.sizeL, AV.size, Kd.sz]; done) | (simp [Obs, AV.sizeL, AV.size, Kd.sz]; omega)) ?_)
  refine Tri.seq (Tri.reg (cfgD_ok.pins _) (by simp (maxSteps := 2000000) (disch := first | decide | omega | (simp only [List.length_append, List.length_cons, List.length_nil, List.length_take, List.length_drop]; omega)) only [Tryd.f109, kStream, kCounter, kBlock, cfgD, tyTabS, go_sem]; rfl) (by first | exact True.intro | (simp only [Obs, and_true, true_and]; omega) | (simp [Obs, AV.sizeL, AV.size, Kd.sz]; done) | (simp [Obs, AV.sizeL, AV.size, Kd.sz]; omega)) ?_)
  refine Tri.seq ?_
  refine Tri.seq (Tri.reg (cfgD_ok.pins _) (by simp (maxSteps := 2000000) (disch := first | decide | omega | (simp only [List.length_append, List.length_cons, List.length_nil, List.length_take, List.length_drop]; omega)) only [Tryd.f109, kStream, kCounter, kBlock, cfgD, tyTabS, go_sem]; rfl) (by first | exact True.intro | (simp only [Obs, and_true, true_and]; omega) | (simp [Obs, AV.sizeL, AV.size, Kd.sz]; done) | (simp [Obs, AV.sizeL, AV.size, Kd.sz]; omega)) ?_)
  refine Tri.block ?_
  refine Tri.loop (fun i : Nat => (⟨[some (.ptr 0 [] 0), some (.int .u64 nonce), none, none, none, none, none, some (.tsl 1 [] 0 0 1 data.length), some (.ptr 2 [] 0), none, none, none, none, none, some (.pure (.slice false (.int .u8)) data), some (.int .i64 (data.length : Int)), some (.int .i64 (i : Int))] ++ List.replicate 25 none,
    [.live (.pure cipK (box, keys, u1)), .live (.pure (.arr data.length (.int .u8)) (strI box keys nonce data i).1), .live (.pure a16 (strI box keys nonce data i).2)]⟩ : AS)) (· ≤ data.length) (fun k => data.length - k) 0 ?_ (Nat.zero_le _) ?_
  · refine Wk.of ?_ ?_ rfl rfl
    · simp only [lessTs, List.reduceReplicate, List.cons_append, List.nil_append] <;> ((repeat' apply And.intro) <;> first | rfl | trivial)
    · simp only [lessHs, strI] <;> ((repeat' apply And.intro) <;> first | rfl | trivial)
  · intro i hi
    refine Tri.seq (Tri.reg (cfgD_ok.pins _) (by simp (maxSteps := 2000000) (disch := first | decide | omega | (simp only [List.length_append, List.length_cons, List.length_nil, List.length_take, List.length_drop]; omega)) only [Tryd.f109, kStream, kCounter, kBlock, cfgD, tyTabS, go_sem]; rfl) (by first | exact True.intro | (simp only [Obs, and_true, true_and]; omega) | (simp [Obs, AV.sizeL, AV.size, Kd.sz]; done) | (simp [Obs, AV.sizeL, AV.size, Kd.sz]; omega)) ?_)
    refine Tri.seq ?_
    refine Tri.split (by simp only [AS.ev, go_sem]; rfl) (fun hc => ?_) (fun hc => ?_)
    · have hc' : i < data.length := by
        have : (i : Int) < data.length := by simpa using hc
        omega
      refine Tri.skp ?_
      refine Tri.seq (Tri.block ?_)
      refine Tri.seq (Tri.reg (cfgD_ok.pins _) (by simp (maxSteps := 2000000) (disch := first | decide | omega | (simp only [List.length_append, List.length_cons, List.length_nil, List.length_take, List.length_drop]; omega)) only [Tryd.f109, kStream, kCounter, kBlock, cfgD, tyTabS, go_sem]; rfl) (by first | exact True.intro | (simp only [Obs, and_true, true_and]; omega) | (simp [Obs, AV.sizeL, AV.size, Kd.sz]; done) | (simp [Obs, AV.sizeL, AV.size, Kd.sz]; omega)) ?_)
      refine Tri.seq (Tri.seq ?_)
      refine (Tri.rgn (cfgD_ok.pins _) (by simp (maxSteps := 2000000) (disch := first | decide | omega | (simp only [List.length_append, List.length_cons, List.length_nil, List.length_take, List.length_drop]; omega)) only [Tryd.f109, kStream, kCounter, kBlock, cfgD, tyTabS, go_sem]; rfl) (by first | exact True.intro | (simp only [Obs, and_true, true_and]; omega) | (simp [Obs, AV.sizeL, AV.size, Kd.sz]; done) | (simp [Obs, AV.sizeL, AV.size, Kd.sz]; omega)) ?_)
      try simp only [InBlock, Then]
      refine Tri.split (by simp only [AS.ev, go_sem]; rfl) (fun hd => ?_) (fun hd => ?_)
      · have hd' : i % 16 = 0 := by
          have : ((i % 16 : Nat) : Int) = 0 := by simpa using hd
          omega
        refine (Tri.rgn (cfgD_ok.pins _) (by simp (maxSteps := 2000000) (disch := first | decide | omega | (simp only [List.length_append, List.length_cons, List.length_nil, List.length_take, List.length_drop]; omega)) only [Tryd.f109, kStream, kCounter, kBlock, cfgD, tyTabS, go_sem]; rfl) (by first | exact True.intro | (simp only [Obs, and_true, true_and]; omega) | (simp [Obs, AV.sizeL, AV.size, Kd.sz]; done) | (simp [Obs, AV.sizeL, AV.size, Kd.sz]; omega)) ?_)
        try simp only [InBlock, Then]
        refine (Tri.rgn (cfgD_ok.pins _) (by simp (maxSteps := 2000000) (disch := first | decide | omega | (simp only [List.length_append, List.length_cons, List.length_nil, List.length_take, List.length_drop]; omega)) only [Tryd.f109, kStream, kCounter, kBlock, cfgD, tyTabS, go_sem]; rfl) (by first | exact True.intro | (simp only [Obs, and_true, true_and]; omega) | (simp [Obs, AV.sizeL, AV.size, Kd.sz]; done) | (simp [Obs, AV.sizeL, AV.size, Kd.sz]; omega)) ?_)
        try simp only [InBlock, Then]
        refine (Tri.rgn (cfgD_ok.pins _) (by simp (maxSteps := 2000000) (disch := first | decide | omega | (simp only [List.length_append, List.length_cons, List.length_nil, List.length_take, List.length_drop]; omega)) only [Tryd.f109, kStream, kCounter, kBlock, cfgD, tyTabS, go_sem]; rfl) (by first | exact True.intro | (simp only [Obs, and_true, true_and]; omega) | (simp [Obs, AV.sizeL, AV.size, Kd.sz]; done) | (simp [Obs, AV.sizeL, AV.size, Kd.sz]; omega)) ?_)
        try simp only [InBlock, Then]
        refine ⟨i + 1, (by omega), (by omega), Wk.of ?_ ?_ rfl rfl⟩
        · simp only [lessTs, List.reduceReplicate, List.cons_append, List.nil_append] <;> ((repeat' apply And.intro) <;> first | rfl | trivial)
        · simp only [lessHs, strI, if_pos hd'] <;> ((repeat' apply And.intro) <;> first | rfl | trivial)
      · have hd' : ¬ i % 16 = 0 := by
          have : ¬ ((i % 16 : Nat) : Int) = 0 := by simpa using hd
          omega
        refine Tri.skp ?_
        refine (Tri.rgn (cfgD_ok.pins _) (by simp (maxSteps := 2000000) (disch := first | decide | omega | (simp only [List.length_append, List.length_cons, List.length_nil, List.length_take, List.length_drop]; omega)) only [Tryd.f109, kStream, kCounter, kBlock, cfgD, tyTabS, go_sem]; rfl) (by first | exact True.intro | (simp only [Obs, and_true, true_and]; omega) | (simp [Obs, AV.sizeL, AV.size, Kd.sz]; done) | (simp [Obs, AV.sizeL, AV.size, Kd.sz]; omega)) ?_)
        try simp only [InBlock, Then]
        refine (Tri.rgn (cfgD_ok.pins _) (by simp (maxSteps := 2000000) (disch := first | decide | omega | (simp only [List.length_append, List.length_cons, List.length_nil, List.length_take, List.length_drop]; omega)) only [Tryd.f109, kStream, kCounter, kBlock, cfgD, tyTabS, go_sem]; rfl) (by first | exact True.intro | (simp only [Obs, and_true, true_and]; omega) | (simp [Obs, AV.sizeL, AV.size, Kd.sz]; done) | (simp [Obs, AV.sizeL, AV.size, Kd.sz]; omega)) ?_)
        try simp only [InBlock, Then]
        refine ⟨i + 1, (by omega), (by omega), Wk.of ?_ ?_ rfl rfl⟩
        · simp only [lessTs, List.reduceReplicate, List.cons_append, List.nil_append] <;> ((repeat' apply And.intro) <;> first | rfl | trivial)
        · simp only [lessHs, strI, if_neg hd'] <;> ((repeat' apply And.intro) <;> first | rfl | trivial)
    · refine Tri.exit ?_
      have hc' : i = data.length := by
        have : ¬ (i : Int) < data.length := by simpa using hc
        omega
      subst hc'
      simp only [Then, InBlock, if_true]
      refine Tri.seq (Tri.reg (cfgD_ok.pins _) (by simp (maxSteps := 2000000) (disch := first | decide | omega | (simp only [List.length_append, List.length_cons, List.length_nil, List.length_take, List.length_drop]; omega)) only [Tryd.f109, kStream, kCounter, kBlock, cfgD, tyTabS, go_sem]; rfl) (by first | exact True.intro | (simp only [Obs, and_true, true_and]; omega) | (simp [Obs, AV.sizeL, AV.size, Kd.sz]; done) | (simp [Obs, AV.sizeL, AV.size, Kd.sz]; omega)) ?_)
      refine Tri.ret ?_
      refine Con.fin (.inl rfl) (by simp only [Tryd.f109, cfgD, tyTabS, resA, resA1, go_sem]; rfl) (by simp only [Obs, and_true, true_and]) rfl ?_ rfl rfl
      simp only [lessHs, kStream, Con.of, List.map] <;> ((repeat' apply And.intro) <;> first | rfl | trivial)
theorem stream_sum : FSumOK Tryd.prog cfgD.G 109 kStream.sum := Con.sumOK cfgD_ok kStream Tryd.func109 rfl rfl (Con.of_inv _ _ _) stream_body
end Go.Proofs.YtlnkfdblkdhdgaaDoor.Ae

namespace Go.Proofs.YtlnkfdblkdhdgaaDoor.Ae
open Go.Vc Go.Proofs
def ksb (box : List UInt8) (keys : List (List UInt8)) (nonce : UInt64) (j : Nat) : List UInt8 := rndI box keys (ctI nonce (UInt64.ofInt ((j / 16 : Nat) : Int)) 8).2.2 10
def stm (box : List UInt8) (keys : List (List UInt8)) (nonce : UInt64) (data : List UInt8) : List UInt8 := data.mapIdx fun j x => x ^^^ (ksb box keys nonce j).getD (j % 16) 0
section
variable {box : List UInt8} {keys : List (List UInt8)} {nonce : UInt64} {data : List UInt8}
theorem stm_len : (stm box keys nonce data).length = data.length := by simp [stm]
theorem stm_take : List.take data.length (stm box keys nonce data) = stm box keys nonce data := List.take_of_length_le (by simp [stm])
theorem stm_stm : stm box keys nonce (stm box keys nonce data) = data := by
  simp only [stm, List.mapIdx_mapIdx]
  apply List.ext_getElem?
  intro i
  simp only [List.getElem?_mapIdx]
  cases data[i]? with
  | none => rfl
  | some x => simp only [Option.map_some, Function.comp, UInt8.xor_assoc, UInt8.xor_self, UInt8.xor_zero]
theorem take_stm (k : Nat) : List.take k (stm box keys nonce data) = stm box keys nonce (List.take k data) := by
  symm
  apply List.ext_getElem?
  intro i
  simp only [stm, List.getElem?_mapIdx, List.getElem?_take]
  split <;> simp
theorem strEq_self (l : List UInt8) : strEq l l = true := decide_eq_true rfl
theorem strI_blk : ∀ i, 0 < i → (strI box keys nonce data i).2 = ksb box keys nonce (i - 1)
  | 0, h => absurd h (by omega)
  | i + 1, _ => by
    show (if i % 16 = 0 then _ else _) = _
    split
    · rfl
    · rename_i h
      have h0 : 0 < i := by omega
      rw [strI_blk i h0]
      have : (i - 1) / 16 = i / 16 := by omega
      simp only [ksb, Nat.add_sub_cancel, this]
theorem strI_len : ∀ i, (strI box keys nonce data i).1.length = data.length
  | 0 => by simp [strI]
  | i + 1 => by simp only [strI, List.length_set]; exact strI_len i
theorem strI_get : ∀ i, i ≤ data.length → ∀ j, (strI box keys nonce data i).1[j]? = if j < i then some (data.getD j 0 ^^^ (ksb box keys nonce j).getD (j % 16) 0) else if j < data.length then some 0 else none
  | 0, _, j => by simp [strI, List.getElem?_replicate]
  | i + 1, hi, j => by
    have hb : (if i % 16 = 0 then rndI box keys (ctI nonce (UInt64.ofInt ((i / 16 : Nat) : Int)) 8).2.2 10 else (strI box keys nonce data i).2) = ksb box keys nonce i := by
      have := strI_blk (box := box) (keys := keys) (nonce := nonce) (data := data) (i + 1) (by omega)
      exact this
    simp only [strI, hb]
    rw [List.getElem?_set]
    rw [strI_get i (by omega) j, strI_len]
    by_cases h1 : i = j
    · subst h1
      rw [if_pos rfl, if_pos (by omega), if_pos (by omega)]
    · rw [if_neg h1]
      by_cases h2 : j < i
      · rw [if_pos h2, if_pos (by omega)]
      · rw [if_neg h2]
        have : ¬ j < i + 1 := by omega
        simp only [if_neg this]
theorem strI_fst : (strI box keys nonce data data.length).1 = stm box keys nonce data := by
  apply List.ext_getElem?
  intro j
  rw [strI_get _ (Nat.le_refl _)]
  simp only [stm, List.getElem?_mapIdx]
  by_cases h : j < data.length
  · rw [if_pos h]
    simp [h, List.getD_eq_getElem?_getD]
  · rw [if_neg h]
    simp [h]
end
end Go.Proofs.YtlnkfdblkdhdgaaDoor.Ae

namespace Go.Proofs
open Go.Shelf
def Tryd.laysSlK4_ren : Go.Shelf.Ren := ⟨fun | 4 => 39 | n => n, fun | 22 => 37 | 4 => 4 | 5 => 5 | n => n, fun | n => n⟩
theorem Tryd.laysSlK4 : Go.Proofs.SlLaysK.n4 Tryd.prog Tryd.laysSlK4_ren := {
  mixed := by kernel_rfl
  f4 := Tryd.func39.trans (congrArg some (by kernel_rfl))
  t4 := Tryd.underlying4
  a4 := Tryd.isAgg4
  z4 := Tryd.sizeOf4
  v4 := Tryd.zeroValue4
  t22 := Tryd.underlying37
  a22 := Tryd.isAgg37
  z22 := Tryd.sizeOf37
  v22 := Tryd.zeroValue37
  t5 := Tryd.underlying5
  i5 := by kernel_rfl }
end Go.Proofs
namespace Go.Proofs.YtlnkfdblkdhdgaaDoor
open Go.Vc Go.Proofs
set_option maxRecDepth 10000
set_option maxHeartbeats 4000000
def kClo : Con := Con.ofO [.a (.v (.slice false (.int .u8)))] [] (fun x => [List.length (α := UInt8) x.1 ≤ 140737488355328]) (fun x => ⟨.pure (.slice true (.int .u8)) x.1, []⟩)
theorem clo_sum : FSumOK Tryd.prog shaG 39 kClo.sum := by
  refine Con.sumOKg kClo Tryd.func39 rfl rfl (Con.ofO_inv _ _ _ _) rfl ?_
  rintro ⟨(xs : List UInt8), u⟩ hp
  obtain ⟨h0, _⟩ := Obs.of hp
  replace h0 : xs.length ≤ 140737488355328 := h0
  refine ⟨rfl, rfl, fun x w V hx hV => ?_⟩
  have hV' : RVs x [.pure (.slice false (.int .u8)) xs] V := hV
  clear hV
  cases hV' with
  | cons _ _ X1 _ h2 hr =>
    cases hr
    obtain ⟨A, cap, e1, h4, h5⟩ := h2.slice_inv
    injection e1 with e1 _
    subst e1
    have hlast : ∀ (e : Ending) (w' : World) (v' : Value), e = .returned v' → w'.ownsRow w.heap.size 5 1 v' xs.length (xs.map fun b => Value.int .u8 (UInt8.toNat b : Int)) → RowKit.Below w.heap.size w w' →
        ∃ X, e = .returned X ∧ RowKit.Below w.heap.size w w' ∧ ∀ x' : Ctx, x'.hp = (fun b => w'.heap[b]?) → (∀ own b, w.heap.size ≤ b → x'.ok own b) → RV x' (.pure (.slice true (.int .u8)) xs) X := by
      intro e w' v' he hown hb
      refine ⟨v', he, hb, fun x' hx' hok => ?_⟩
      obtain ⟨_, h | ⟨g, cp, cur, hv, hg, hh, hn, _, hsz, htk⟩⟩ := hown
      · have hx0 : xs = [] := List.eq_nil_of_length_eq_zero h.2
        subst hx0
        rw [h.1]
        exact .one _ _ rfl (.pure _ _ _ ⟨none, 0, rfl, Nat.le_refl _, .inl rfl⟩)
      · rw [hv]
        refine .one _ _ rfl (.pure _ _ _ ⟨_, cp, rfl, hn, .inr ⟨g, 0, cur, 5, (0, 0), _, rfl, hok true g hg, by rw [hx']; exact hh, RL.u8s xs, ?_⟩⟩)
        rw [List.drop_zero, List.length_map]
        rw [Nat.mul_one] at htk
        exact htk
    cases A with
    | none =>
      have hx0 : xs = [] := by
        rcases h5 with h5 | ⟨b, o, rc, el, fr, flat, h6, _⟩
        · exact h5
        · cases h6
      subst hx0
      exact (Any.bytes_Clone_nil (P := Tryd.prog) Tryd.laysSlK4 0 cap w).mono fun e w' ⟨h, hw⟩ => hlast e w' _ h ⟨rfl, .inl ⟨rfl, rfl⟩⟩ (hw ▸ RowKit.Below.refl _ _)
    | some a =>
      have hcl := Any.bytes_Clone_at (P := Tryd.prog) Tryd.laysSlK4 a xs.length cap (xs.map fun b => (UInt8.toNat b : Int)) w (by rw [List.length_map]) h0 (fun i hi => by
        rcases h5 with h5 | ⟨b, o, rc, el, fr, flat, h6, _, h7, h8, h9⟩
        · have : xs = [] := h5
          subst this
          simp at hi
        · injection h6 with h6
          subst h6
          have hfl := Reads.u8s h8
          rw [hx] at h7
          have h7' : w.heap[b]? = some (.cells rc el fr) := h7
          have hj1 : flat[i]? = some (.int .u8 (UInt8.toNat (xs[i]) : Int)) := by rw [hfl, List.getElem?_map, List.getElem?_eq_getElem hi]; rfl
          have hjl : i < flat.length := (List.getElem?_eq_some_iff.1 hj1).1
          rw [← h9, List.getElem?_take, if_pos hjl, List.getElem?_drop, Array.getElem?_toList] at hj1
          have hadd : (⟨b, o, none⟩ : Addr).add i = ⟨b, o + i, none⟩ := by
            by_cases hi0 : i = 0
            · subst hi0; rfl
            · simp [Addr.add, hi0]
          rw [hadd]
          simp only [World.cell?, h7', Option.isSome_none, Bool.false_eq_true, if_false]
          rw [hj1, List.getD_eq_getElem?_getD, List.getElem?_map, List.getElem?_eq_getElem hi]
          rfl)
      refine hcl.mono fun e w' ⟨v', he, hown, _, hb⟩ => hlast e w' v' he ?_ hb
      rw [List.map_map] at hown
      exact hown
def wdI (n : UInt64) : Nat → UInt64 × List UInt8
  | 0 => (n, [0, 0, 0, 0, 0, 0, 0, 0])
  | j + 1 => ((wdI n j).1 >>> 8, (wdI n j).2.set (7 - j) (wdI n j).1.toUInt8)
def wd (n : UInt64) : List UInt8 := (wdI n 8).2
theorem wdI_len (n : UInt64) : ∀ j, (wdI n j).2.length = 8
  | 0 => rfl
  | j + 1 => by simp only [wdI, List.length_set]; exact wdI_len n j
theorem wd_len (n : UInt64) : (wd n).length = 8 := wdI_len n 8
def kWide : Con := Con.of [.v (.int .u64)] (fun _ => []) (fun x => ⟨.tsl 0 [] 0 0 1 8, [.pure (.arr 8 (.int .u8)) (wd x.1)]⟩)
def cfgSA : Cfg2 := { ty := tyTabS, fn := fun | 108 => some kDer.sum | 110 => some kMac.sum | 107 => some Ae.kNew.sum | 109 => some Ae.kStream.sum | _ => none, G := shaG, pin := [], eq := fun _ => none }
theorem cfgSA_ok : CfgOK Tryd.prog cfgSA := ⟨tyTabS_ok, (fun f s h => by
  simp only [cfgSA] at h
  split at h
  · injection h with h; subst h; exact .inl der_sum
  · injection h with h; subst h; exact .inl mac_sum
  · injection h with h; subst h; exact .inl Ae.new_sum
  · injection h with h; subst h; exact .inl Ae.stream_sum
  · cases h), (fun t d h => by cases h)⟩
section
attribute [local go_sem] Tryd.f71 kWide cfgSA tyTabS
theorem wide_body (p : kWide.Par) (hp : ∀ q ∈ kWide.pre p, q) : BodyOK Tryd.prog cfgSA Tryd.f71 (Tryd.f71.body.get rfl) kWide p := by
  obtain ⟨(n : UInt64), u⟩ := p
  refine ⟨?_, Nat.zero_le _, rfl, rfl⟩
  show Tri _ _ _ (Code.seq _ (Code.seq _ (Code.seq (Code.seq _ (Code.block _ (Code.loop (Code.seq (Code.seq _ (Code.cond _ _ _)) (Code.seq (Code.block _ (Code.seq _ _)) _))))) (Code.seq _ _)))) _
  refine Tri.at (by first | (simp only [go_sem, Con.start, go_sem]; rfl) | rfl) ?_
  repeat (first | ((first | refine Tri.seq (Tri.regT (cfgSA_ok.pins _) ?_) | refine Tri.rgnT (cfgSA_ok.pins _) ?_); (repeat (first | refine RunT.oneA (hp := by simp (maxSteps := 2000000) (disch := first | decide | omega | (simp only [List.length_append, List.length_cons, List.length_nil, List.length_take, List.length_drop]; omega)) only [go_sem, go_sem]; rfl) (h := ?_) | refine RunT.notA (h := ?_))); refine RunT.nil ?_; try simp only [InBlock, Then]) | refine Tri.cF (by first | (simp only [go_sem, go_sem]; done) | fail) ?_ | refine Tri.cT (by first | (simp only [go_sem, go_sem]; done) | fail) ?_ | (refine Tri.skip ?_; try simp only [InBlock, Then]) | (refine Tri.exit ?_; simp only [Then, InBlock, if_true, if_false, ↓reduceIte, Nat.reduceEqDiff]) | refine Tri.seq (Tri.block ?_) | refine Tri.block ?_ | refine Tri.seq ?_ | (refine Tri.ret ?_; refine Con.fin (.inl rfl) (by simp only [Tryd.f71, cfgSA, resA, resA1, go_sem]; rfl) (by simp only [Obs, and_true, true_and]) (by first | (simp only [kWide, Con.of, Con.ofO, resV, go_sem, go_sem]; done) | fail) trivial rfl rfl))
  refine Tri.loop (fun j : Nat => (⟨[some (.int .u64 (wdI n j).1), none, none, some (.tsl 0 [] 0 0 1 8), some (.int .i64 (7 - (j : Int)))] ++ List.replicate 13 none, [.live (.pure (.arr 8 (.int .u8)) (wdI n j).2)]⟩ : AS)) (fun j => j ≤ 8) (fun j => 8 - j) 0 ?_ (Nat.zero_le _) ?_
  · refine Wk.of ?_ ?_ rfl rfl
    · simp only [lessTs, List.reduceReplicate, List.cons_append, List.nil_append, wdI] <;> ((repeat' apply And.intro) <;> first | with_reducible rfl | exact True.intro | exact congrArg (fun z : Int => some (AV.int IntKind.i64 z)) (show (_ : Int) = _ by omega) | exact congrArg (fun z : Nat => some (AV.tsl _ _ _ _ _ z)) (show (_ : Nat) = _ by omega) | exact arrEq (by omega) (by with_reducible rfl))
    · simp only [lessHs, wdI] <;> ((repeat' apply And.intro) <;> first | with_reducible rfl | exact True.intro | exact congrArg (fun z : Int => some (AV.int IntKind.i64 z)) (show (_ : Int) = _ by omega) | exact congrArg (fun z : Nat => some (AV.tsl _ _ _ _ _ z)) (show (_ : Nat) = _ by omega) | exact arrEq (by omega) (by with_reducible rfl))
  · intro j hj
    by_cases h1 : j < 8
    · have h1' : decide (7 - (j : Int) < 0) = false := decide_eq_false (by omega)
      obtain ⟨m, hm⟩ : ∃ m : Nat, 7 - (j : Int) = (m : Int) := ⟨7 - j, by omega⟩
      have hm' : 7 - j = m := by omega
      rw [hm] at h1'
      refine Tri.at (by first | (simp only [h1', hm, Con.start, go_sem]; rfl) | rfl) ?_
      repeat (first | ((first | refine Tri.seq (Tri.regT (cfgSA_ok.pins _) ?_) | refine Tri.rgnT (cfgSA_ok.pins _) ?_); (repeat (first | refine RunT.oneA (hp := by simp (maxSteps := 2000000) (disch := first | decide | omega | (simp only [List.length_append, List.length_cons, List.length_nil, List.length_take, List.length_drop]; omega)) only [h1', hm, go_sem]; rfl) (h := ?_) | refine RunT.notA (h := ?_))); refine RunT.nil ?_; try simp only [InBlock, Then]) | refine Tri.cF (by first | (simp only [h1', hm, go_sem]; done) | fail) ?_ | refine Tri.cT (by first | (simp only [h1', hm, go_sem]; done) | fail) ?_ | (refine Tri.skip ?_; try simp only [InBlock, Then]) | (refine Tri.exit ?_; simp only [Then, InBlock, if_true, if_false, ↓reduceIte, Nat.reduceEqDiff]) | refine Tri.seq (Tri.block ?_) | refine Tri.block ?_ | refine Tri.seq ?_ | (refine Tri.ret ?_; refine Con.fin (.inl rfl) (by simp only [Tryd.f71, cfgSA, resA, resA1, go_sem]; rfl) (by simp only [Obs, and_true, true_and]) (by first | (simp only [kWide, Con.of, Con.ofO, resV, h1', hm, go_sem]; done) | fail) trivial rfl rfl))
      refine ⟨j + 1, (by omega), (by omega), Wk.of ?_ ?_ rfl rfl⟩
      · simp only [lessTs, wdI, show (m : Int) - 1 = 7 - ((j + 1 : Nat) : Int) by omega, go_sem] <;> ((repeat' apply And.intro) <;> first | with_reducible rfl | exact True.intro | exact congrArg (fun z : Int => some (AV.int IntKind.i64 z)) (show (_ : Int) = _ by omega) | exact congrArg (fun z : Nat => some (AV.tsl _ _ _ _ _ z)) (show (_ : Nat) = _ by omega) | exact arrEq (by omega) (by with_reducible rfl))
      · simp only [lessHs, wdI, hm'] <;> ((repeat' apply And.intro) <;> first | with_reducible rfl | exact True.intro | exact congrArg (fun z : Int => some (AV.int IntKind.i64 z)) (show (_ : Int) = _ by omega) | exact congrArg (fun z : Nat => some (AV.tsl _ _ _ _ _ z)) (show (_ : Nat) = _ by omega) | exact arrEq (by omega) (by with_reducible rfl))
    · have h1' : decide (7 - (j : Int) < 0) = true := decide_eq_true (by omega)
      have hj8 : j = 8 := by omega
      subst hj8
      refine Tri.at (by first | (simp only [h1', Con.start, go_sem]; rfl) | rfl) ?_
      repeat (first | ((first | refine Tri.seq (Tri.regT (cfgSA_ok.pins _) ?_) | refine Tri.rgnT (cfgSA_ok.pins _) ?_); (repeat (first | refine RunT.oneA (hp := by simp (maxSteps := 2000000) (disch := first | decide | omega | (simp only [List.length_append, List.length_cons, List.length_nil, List.length_take, List.length_drop]; omega)) only [h1', go_sem]; rfl) (h := ?_) | refine RunT.notA (h := ?_))); refine RunT.nil ?_; try simp only [InBlock, Then]) | refine Tri.cF (by first | (simp only [h1', go_sem]; done) | fail) ?_ | refine Tri.cT (by first | (simp only [h1', go_sem]; done) | fail) ?_ | (refine Tri.skip ?_; try simp only [InBlock, Then]) | (refine Tri.exit ?_; simp only [Then, InBlock, if_true, if_false, ↓reduceIte, Nat.reduceEqDiff]) | refine Tri.seq (Tri.block ?_) | refine Tri.block ?_ | refine Tri.seq ?_ | (refine Tri.ret ?_; refine Con.fin (.inl rfl) (by simp only [Tryd.f71, cfgSA, resA, resA1, go_sem]; rfl) (by simp only [Obs, and_true, true_and]) (by first | (simp only [kWide, Con.of, Con.ofO, resV, h1', go_sem]; done) | fail) trivial rfl rfl))
      refine Tri.ret ?_
      refine Con.fin (.inl rfl) (by simp only [Tryd.f71, cfgSA, resA, resA1, go_sem]; rfl) (by simp only [Obs, and_true, true_and]) ?_ ?_ rfl rfl
      · rfl
      · exact ⟨rfl, trivial⟩
theorem wide_sum : FSumOK Tryd.prog cfgSA.G 71 kWide.sum := Con.sumOK cfgSA_ok kWide Tryd.func71 rfl rfl (Con.of_inv _ _ _) wide_body
end
def nbI (b : List UInt8) : Nat → UInt64
  | 0 => 0
  | i + 1 => (nbI b i <<< 8) ||| (b.getD i 0).toUInt64
def nb (b : List UInt8) : UInt64 := nbI b b.length
def kNb : Con := Con.of [.v (.slice false (.int .u8))] (fun x => [List.length (α := UInt8) x.1 ≤ 100000]) (fun x => ⟨.int .u64 (nb x.1), []⟩)
section
attribute [local go_sem] Tryd.f84 kNb cfgSA tyTabS
theorem number_body (p : kNb.Par) (hp : ∀ q ∈ kNb.pre p, q) : BodyOK Tryd.prog cfgSA Tryd.f84 (Tryd.f84.body.get rfl) kNb p := by
  obtain ⟨(b : List UInt8), u⟩ := p
  obtain ⟨h0, _⟩ := Obs.of hp
  replace h0 : b.length ≤ 100000 := h0
  refine ⟨?_, Nat.zero_le _, rfl, rfl⟩
  show Tri _ _ _ (Code.seq _ (Code.seq (Code.seq _ (Code.block _ (Code.loop (Code.seq _ (Code.seq (Code.cond _ _ _) (Code.seq (Code.block _ (Code.seq _ _)) _)))))) (Code.seq _ _))) _
  refine Tri.at (by first | (simp only [go_sem, Con.start, go_sem]; rfl) | rfl) ?_
  repeat (first | ((first | refine Tri.seq (Tri.regT (cfgSA_ok.pins _) ?_) | refine Tri.rgnT (cfgSA_ok.pins _) ?_); (repeat (first | refine RunT.oneA (hp := by simp (maxSteps := 2000000) (disch := first | decide | omega | (simp only [List.length_append, List.length_cons, List.length_nil, List.length_take, List.length_drop]; omega)) only [go_sem, go_sem]; rfl) (h := ?_) | refine RunT.notA (h := ?_))); refine RunT.nil ?_; try simp only [InBlock, Then]) | refine Tri.cF (by first | (simp only [go_sem, go_sem]; done) | fail) ?_ | refine Tri.cT (by first | (simp only [go_sem, go_sem]; done) | fail) ?_ | (refine Tri.skip ?_; try simp only [InBlock, Then]) | (refine Tri.exit ?_; simp only [Then, InBlock, if_true, if_false, ↓reduceIte, Nat.reduceEqDiff]) | refine Tri.seq (Tri.block ?_) | refine Tri.block ?_ | refine Tri.seq ?_ | (refine Tri.ret ?_; refine Con.fin (.inl rfl) (by simp only [Tryd.f84, cfgSA, resA, resA1, go_sem]; rfl) (by simp only [Obs, and_true, true_and]) (by first | (simp only [kNb, Con.of, Con.ofO, resV, go_sem, go_sem]; done) | fail) trivial rfl rfl))
  refine Tri.loop (fun i : Nat => (⟨[none, none, some (.int .u64 (nbI b i)), none, none, some (.pure (.slice false (.int .u8)) b), some (.int .i64 (b.length : Int)), some (.int .i64 (i : Int))] ++ List.replicate 10 none, []⟩ : AS)) (fun i => i ≤ b.length) (fun i => b.length - i) 0 ?_ (Nat.zero_le _) ?_
  · refine Wk.of ?_ ?_ rfl rfl
    · simp only [lessTs, List.reduceReplicate, List.cons_append, List.nil_append, nbI] <;> ((repeat' apply And.intro) <;> first | with_reducible rfl | exact True.intro | exact congrArg (fun z : Int => some (AV.int IntKind.i64 z)) (show (_ : Int) = _ by omega) | exact congrArg (fun z : Nat => some (AV.tsl _ _ _ _ _ z)) (show (_ : Nat) = _ by omega) | exact arrEq (by omega) (by with_reducible rfl))
    · simp only [lessHs, nbI] <;> ((repeat' apply And.intro) <;> first | with_reducible rfl | exact True.intro | exact congrArg (fun z : Int => some (AV.int IntKind.i64 z)) (show (_ : Int) = _ by omega) | exact congrArg (fun z : Nat => some (AV.tsl _ _ _ _ _ z)) (show (_ : Nat) = _ by omega) | exact arrEq (by omega) (by with_reducible rfl))
  · intro i hi
    by_cases h1 : i < b.length
    · have h1' : decide ((i : Int) < (b.length : Int)) = true := decide_eq_true (by omega)
      refine Tri.at (by first | (simp only [h1', Con.start, go_sem]; rfl) | rfl) ?_
      repeat (first | ((first | refine Tri.seq (Tri.regT (cfgSA_ok.pins _) ?_) | refine Tri.rgnT (cfgSA_ok.pins _) ?_); (repeat (first | refine RunT.oneA (hp := by simp (maxSteps := 2000000) (disch := first | decide | omega | (simp only [List.length_append, List.length_cons, List.length_nil, List.length_take, List.length_drop]; omega)) only [h1', go_sem]; rfl) (h := ?_) | refine RunT.notA (h := ?_))); refine RunT.nil ?_; try simp only [InBlock, Then]) | refine Tri.cF (by first | (simp only [h1', go_sem]; done) | fail) ?_ | refine Tri.cT (by first | (simp only [h1', go_sem]; done) | fail) ?_ | (refine Tri.skip ?_; try simp only [InBlock, Then]) | (refine Tri.exit ?_; simp only [Then, InBlock, if_true, if_false, ↓reduceIte, Nat.reduceEqDiff]) | refine Tri.seq (Tri.block ?_) | refine Tri.block ?_ | refine Tri.seq ?_ | (refine Tri.ret ?_; refine Con.fin (.inl rfl) (by simp only [Tryd.f84, cfgSA, resA, resA1, go_sem]; rfl) (by simp only [Obs, and_true, true_and]) (by first | (simp only [kNb, Con.of, Con.ofO, resV, h1', go_sem]; done) | fail) trivial rfl rfl))
      refine ⟨i+1, (by omega), (by omega), Wk.of ?_ ?_ rfl rfl⟩
      · simp only [lessTs, List.reduceReplicate, List.cons_append, List.nil_append, nbI] <;> ((repeat' apply And.intro) <;> first | with_reducible rfl | exact True.intro | exact congrArg (fun z : Int => some (AV.int IntKind.i64 z)) (show (_ : Int) = _ by omega) | exact congrArg (fun z : Nat => some (AV.tsl _ _ _ _ _ z)) (show (_ : Nat) = _ by omega) | exact arrEq (by omega) (by with_reducible rfl))
      · simp only [lessHs, nbI] <;> ((repeat' apply And.intro) <;> first | with_reducible rfl | exact True.intro | exact congrArg (fun z : Int => some (AV.int IntKind.i64 z)) (show (_ : Int) = _ by omega) | exact congrArg (fun z : Nat => some (AV.tsl _ _ _ _ _ z)) (show (_ : Nat) = _ by omega) | exact arrEq (by omega) (by with_reducible rfl))
    · have h1' : decide ((i : Int) < (b.length : Int)) = false := decide_eq_false (by omega)
      have hi8 : i = b.length := by omega
      subst hi8
      refine Tri.at (by first | (simp only [h1', Con.start, go_sem]; rfl) | rfl) ?_
      repeat (first | ((first | refine Tri.seq (Tri.regT (cfgSA_ok.pins _) ?_) | refine Tri.rgnT (cfgSA_ok.pins _) ?_); (repeat (first | refine RunT.oneA (hp := by simp (maxSteps := 2000000) (disch := first | decide | omega | (simp only [List.length_append, List.length_cons, List.length_nil, List.length_take, List.length_drop]; omega)) only [h1', go_sem]; rfl) (h := ?_) | refine RunT.notA (h := ?_))); refine RunT.nil ?_; try simp only [InBlock, Then]) | refine Tri.cF (by first | (simp only [h1', go_sem]; done) | fail) ?_ | refine Tri.cT (by first | (simp only [h1', go_sem]; done) | fail) ?_ | (refine Tri.skip ?_; try simp only [InBlock, Then]) | (refine Tri.exit ?_; simp only [Then, InBlock, if_true, if_false, ↓reduceIte, Nat.reduceEqDiff]) | refine Tri.seq (Tri.block ?_) | refine Tri.block ?_ | refine Tri.seq ?_ | (refine Tri.ret ?_; refine Con.fin (.inl rfl) (by simp only [Tryd.f84, cfgSA, resA, resA1, go_sem]; rfl) (by simp only [Obs, and_true, true_and]) (by first | (simp only [kNb, Con.of, Con.ofO, resV, h1', go_sem]; done) | fail) trivial rfl rfl))
      refine Tri.ret ?_
      refine Con.fin (.inl rfl) (by simp only [Tryd.f84, cfgSA, resA, resA1, go_sem]; rfl) (by simp only [Obs, and_true, true_and]) ?_ ?_ rfl rfl
      · rfl
      · trivial
theorem number_sum : FSumOK Tryd.prog cfgSA.G 84 kNb.sum := Con.sumOK cfgSA_ok kNb Tryd.func84 rfl rfl (Con.of_inv _ _ _) number_body
end
def strS (key : List UInt8) (us : Int) (n : UInt64) (d : List UInt8) : List UInt8 := Ae.stm (Ae.newC (derS key [115, 101, 97, 108] (UInt64.ofInt us))).1 (Ae.newC (derS key [115, 101, 97, 108] (UInt64.ofInt us))).2.1 n d
theorem strS_len {key : List UInt8} {us : Int} {n : UInt64} {d : List UInt8} : (strS key us n d).length = d.length := Ae.stm_len
theorem strS_twice (key : List UInt8) (us : Int) (n : UInt64) (d : List UInt8) : strS key us n (strS key us n d) = d := Ae.stm_stm
def kStr : Con := Con.of [.v k16, .v (.int .i64), .v (.int .u64), .v (.slice false (.int .u8))] (fun x => [List.length (α := UInt8) x.1 = 16, List.length (α := UInt8) x.2.2.2.1 ≤ 100000])
  (fun x => ⟨.pure (.slice true (.int .u8)) (strS x.1 x.2.1 x.2.2.1 x.2.2.2.1), []⟩)
section
attribute [local go_sem] Tryd.f72 kStr kDer Ae.kNew Ae.kStream cfgSA tyTabS
theorem str_body (p : kStr.Par) (hp : ∀ q ∈ kStr.pre p, q) : BodyOK Tryd.prog cfgSA Tryd.f72 (Tryd.f72.body.get rfl) kStr p := by
  obtain ⟨(key : List UInt8), (us : Int), (n : UInt64), (d : List UInt8), u⟩ := p
  obtain ⟨h0, h1, _⟩ := Obs.of hp
  replace h0 : key.length = 16 := h0
  replace h1 : d.length ≤ 100000 := h1
  refine ⟨?_, Nat.zero_le _, rfl, rfl⟩
  show Tri _ _ _ (Code.seq _ (Code.seq _ _)) _
  refine Tri.at (by first | (simp only [go_sem, Con.start, go_sem]; rfl) | rfl) ?_
  repeat (first | ((first | refine Tri.seq (Tri.regT (cfgSA_ok.pins _) ?_) | refine Tri.rgnT (cfgSA_ok.pins _) ?_); (repeat (first | refine RunT.oneA (hp := by simp (maxSteps := 2000000) (disch := first | decide | omega | (simp only [List.length_append, List.length_cons, List.length_nil, List.length_take, List.length_drop]; omega)) only [go_sem, go_sem]; rfl) (h := ?_) | refine RunT.notA (h := ?_))); refine RunT.nil ?_; try simp only [InBlock, Then]) | refine Tri.cF (by first | (simp only [go_sem, go_sem]; done) | fail) ?_ | refine Tri.cT (by first | (simp only [go_sem, go_sem]; done) | fail) ?_ | (refine Tri.skip ?_; try simp only [InBlock, Then]) | (refine Tri.exit ?_; simp only [Then, InBlock, if_true, if_false, ↓reduceIte, Nat.reduceEqDiff]) | refine Tri.seq (Tri.block ?_) | refine Tri.block ?_ | refine Tri.seq ?_ | (refine Tri.ret ?_; refine Con.fin (.inl rfl) (by simp only [Tryd.f72, cfgSA, resA, resA1, go_sem]; rfl) (by simp only [Obs, and_true, true_and]) (by first | (simp only [kStr, Con.of, Con.ofO, resV, go_sem, go_sem]; done) | fail) trivial rfl rfl))
  refine Tri.rel true 3 rfl ?_ rfl rfl ?_
  · simp only [AS.blk, go_sem]
    repeat' constructor
  have e1 : (Ae.strI (Ae.newC (derS key [115, 101, 97, 108] (UInt64.ofInt us))).1 (Ae.newC (derS key [115, 101, 97, 108] (UInt64.ofInt us))).2.1 n d d.length).1 = strS key us n d := Ae.strI_fst
  have e2 : List.take d.length (strS key us n d) = strS key us n d := List.take_of_length_le (by rw [strS_len]; exact Nat.le_refl _)
  refine Tri.at (by first | (simp only [e1, e2, Con.start, go_sem]; rfl) | rfl) ?_
  refine Tri.ret ?_
  refine Con.fin (.inl rfl) (by simp only [Tryd.f72, cfgSA, resA, resA1, go_sem]; rfl) (by simp only [Obs, and_true, true_and]) ?_ ?_ rfl rfl
  · rfl
  · exact True.intro
theorem str_sum : FSumOK Tryd.prog cfgSA.G 72 kStr.sum := Con.sumOK cfgSA_ok kStr Tryd.func72 rfl rfl (Con.of_inv _ _ _) str_body
end
def tagS (key : List UInt8) (us : Int) (d : List UInt8) : List UInt8 := List.take 16 (macS (derS key [115, 117, 109] (UInt64.ofInt us)) d)
theorem tagS_len (key : List UInt8) (us : Int) (d : List UInt8) : (tagS key us d).length = 16 := by rw [tagS, List.length_take, macS_len]; rfl
def kTag : Con := Con.of [.v k16, .v (.int .i64), .v (.slice false (.int .u8))] (fun x => [List.length (α := UInt8) x.1 = 16, List.length (α := UInt8) x.2.2.1 ≤ 100000])
  (fun x => ⟨.pure (.slice true (.int .u8)) (tagS x.1 x.2.1 x.2.2.1), []⟩)
section
attribute [local go_sem] Tryd.f73 kTag kDer kMac cfgSA tyTabS
theorem tag_body (p : kTag.Par) (hp : ∀ q ∈ kTag.pre p, q) : BodyOK Tryd.prog cfgSA Tryd.f73 (Tryd.f73.body.get rfl) kTag p := by
  obtain ⟨(key : List UInt8), (us : Int), (d : List UInt8), u⟩ := p
  obtain ⟨h0, h1, _⟩ := Obs.of hp
  replace h0 : key.length = 16 := h0
  replace h1 : d.length ≤ 100000 := h1
  refine ⟨?_, Nat.zero_le _, rfl, rfl⟩
  show Tri _ _ _ (Code.seq _ (Code.seq _ (Code.seq _ (Code.seq _ _)))) _
  have e0 : List.take 16 (derS key [115, 117, 109] (UInt64.ofInt us)) = derS key [115, 117, 109] (UInt64.ofInt us) := List.take_of_length_le (by rw [derS_len]; exact Nat.le_refl _)
  have e1 : List.take 16 (macS (derS key [115, 117, 109] (UInt64.ofInt us)) d) = tagS key us d := rfl
  have e2 := derS_len key [115, 117, 109] (UInt64.ofInt us)
  have e3 := macS_len (derS key [115, 117, 109] (UInt64.ofInt us)) d
  refine Tri.at (by first | (simp only [e0, e1, e2, e3, Con.start, go_sem]; rfl) | rfl) ?_
  repeat (first | ((first | refine Tri.seq (Tri.regT (cfgSA_ok.pins _) ?_) | refine Tri.rgnT (cfgSA_ok.pins _) ?_); (repeat (first | refine RunT.oneA (hp := by simp (maxSteps := 2000000) (disch := first | decide | omega | (simp only [List.length_append, List.length_cons, List.length_nil, List.length_take, List.length_drop]; omega)) only [e0, e1, e2, e3, go_sem]; rfl) (h := ?_) | refine RunT.notA (h := ?_))); refine RunT.nil ?_; try simp only [InBlock, Then]) | refine Tri.cF (by first | (simp only [e0, e1, e2, e3, go_sem]; done) | fail) ?_ | refine Tri.cT (by first | (simp only [e0, e1, e2, e3, go_sem]; done) | fail) ?_ | (refine Tri.skip ?_; try simp only [InBlock, Then]) | (refine Tri.exit ?_; simp only [Then, InBlock, if_true, if_false, ↓reduceIte, Nat.reduceEqDiff]) | refine Tri.seq (Tri.block ?_) | refine Tri.block ?_ | refine Tri.seq ?_ | (refine Tri.ret ?_; refine Con.fin (.inl rfl) (by simp only [Tryd.f73, cfgSA, resA, resA1, go_sem]; rfl) (by simp only [Obs, and_true, true_and]) (by first | (simp only [kTag, Con.of, Con.ofO, resV, e0, e1, e2, e3, go_sem]; done) | fail) trivial rfl rfl))
  refine Tri.rel true 2 rfl ?_ rfl rfl ?_
  · simp only [AS.blk, go_sem]
    repeat' constructor
  refine Tri.at (by first | (simp only [e0, e1, e2, e3, Con.start, go_sem]; rfl) | rfl) ?_
  refine Tri.ret ?_
  refine Con.fin (.inl rfl) (by simp only [Tryd.f73, cfgSA, resA, resA1, go_sem]; rfl) (by simp only [Obs, and_true, true_and]) ?_ ?_ rfl rfl
  · rfl
  · exact True.intro
theorem tag_sum : FSumOK Tryd.prog cfgSA.G 73 kTag.sum := Con.sumOK cfgSA_ok kTag Tryd.func73 rfl rfl (Con.of_inv _ _ _) tag_body
end
end Go.Proofs.YtlnkfdblkdhdgaaDoor

namespace Go.Proofs.YtlnkfdblkdhdgaaDoor
open Go.Vc Go.Proofs
set_option maxRecDepth 10000
set_option maxHeartbeats 4000000
abbrev flL : Kd := .st (.pair (.int .i64) (.pair (.slice false (.int .u8)) .unit))
abbrev flK : Kd := .st (.pair (.int .i64) (.pair (.slice true (.int .u8)) .unit))
def tyTabJ : TypeId → Option TyI := fun t => if t = 156 then some (.slice1 158) else if t = 158 then some (.kd1 (.st [(3, 0, 1), (37, 1, 1)]) flL 32) else if t = 33 then some (.slice1 37) else tyTabS t
theorem tyTabJ_ok : TysOK Tryd.prog tyTabJ := by
  intro t i h
  unfold tyTabJ at h
  split at h
  · rename_i e
    injection h with h
    subst h e
    exact TyOK.slice1 Tryd.underlying156 (by kernel_rfl)
  · split at h
    · rename_i e
      injection h with h
      subst h e
      exact TyOK.kd1 (td := .st [(3, 0, 1), (37, 1, 1)]) ⟨_, Tryd.underlying158, by kernel_rfl, by kernel_rfl⟩ (by kernel_rfl)
    · split at h
      · rename_i e
        injection h with h
        subst h e
        exact TyOK.slice1 Tryd.underlying33 (by kernel_rfl)
      · exact tysSOK t i h
def tyTabM : TypeId → Option TyI := fun t => if t = 156 then some (.slice1 158) else if t = 158 then some (.kd1 (.st [(3, 0, 1), (37, 1, 1)]) flK 32) else if t = 49 then some (.slice1 3) else tyTabS t
theorem tyTabM_ok : TysOK Tryd.prog tyTabM := by
  intro t i h
  unfold tyTabM at h
  split at h
  · rename_i e
    injection h with h
    subst h e
    exact TyOK.slice1 Tryd.underlying156 (by kernel_rfl)
  · split at h
    · rename_i e
      injection h with h
      subst h e
      exact TyOK.kd1 (td := .st [(3, 0, 1), (37, 1, 1)]) ⟨_, Tryd.underlying158, by kernel_rfl, by kernel_rfl⟩ (by kernel_rfl)
    · split at h
      · rename_i e
        injection h with h
        subst h e
        exact TyOK.slice1 Tryd.underlying49 (by kernel_rfl)
      · exact tysSOK t i h
def tyTabV : TypeId → Option TyI := fun t => if t = 37 then some (.kd1 (.slice 5) (.slice true (.int .u8)) 24) else if t = 33 then some (.slice1 37) else tyTabM t
theorem tyTabV_ok : TysOK Tryd.prog tyTabV := by
  intro t i h
  unfold tyTabV at h
  split at h
  · rename_i e
    injection h with h
    subst h e
    exact TyOK.kd1 (td := .slice 5) Tryd.underlying37 (by kernel_rfl)
  · split at h
    · rename_i e
      injection h with h
      subst h e
      exact TyOK.slice1 Tryd.underlying33 (by kernel_rfl)
    · exact tyTabM_ok t i h
def kNumP : Con := Con.of [.v (.int .u64)] (fun _ => []) (fun x => ⟨.pure (.slice true (.int .u8)) (numS x.1), []⟩)
section
attribute [local go_sem] Tryd.f66 kNumP kRev cfgR2 tyTabS tyTab
theorem numP_body (p : kNumP.Par) (hp : ∀ q ∈ kNumP.pre p, q) : BodyOK Tryd.prog cfgR2 Tryd.f66 (Tryd.f66.body.get rfl) kNumP p := by
  obtain ⟨(n0 : UInt64), u⟩ := p
  refine ⟨?_, Nat.zero_le _, rfl, rfl⟩
  show Tri _ _ _ (Code.seq _ (Code.seq (Code.block _ (Code.loop (Code.seq (Code.seq _ (Code.cond _ _ _)) (Code.seq (Code.block _ _) _)))) (Code.seq _ (Code.seq _ _)))) _
  refine Tri.at (by first | (simp only [List.take_of_length_le, Con.start, go_sem]; rfl) | rfl) ?_
  repeat (first | ((first | refine Tri.seq (Tri.regT (cfgR2_ok.pins _) ?_) | refine Tri.rgnT (cfgR2_ok.pins _) ?_); (repeat (first | refine RunT.oneA (hp := by simp (maxSteps := 2000000) (disch := first | decide | omega | (simp only [List.length_append, List.length_cons, List.length_nil, List.length_take, List.length_drop]; omega)) only [List.take_of_length_le, go_sem]; rfl) (h := ?_) | refine RunT.notA (h := ?_))); refine RunT.nil ?_; try simp only [InBlock, Then]) | ((first | refine Tri.seq (Tri.drwT (mixed) (cfgR2_ok.pins _) ?_) | refine Tri.drnT (mixed) (cfgR2_ok.pins _) ?_); (repeat (first | refine RunD.oneA (hp := by simp (maxSteps := 2000000) (disch := first | decide | omega | (simp only [List.length_append, List.length_cons, List.length_nil, List.length_take, List.length_drop]; omega)) only [List.take_of_length_le, go_sem]; rfl) (h := ?_) | refine RunD.notA (h := ?_))); refine RunD.nil ?_; refine ⟨by kernel_rfl, ?_⟩; try simp only [InBlock, Then]) | refine Tri.cF (by first | (simp only [List.take_of_length_le, go_sem]; done) | fail) ?_ | refine Tri.cT (by first | (simp only [List.take_of_length_le, go_sem]; done) | fail) ?_ | (refine Tri.skip ?_; try simp only [InBlock, Then]) | (refine Tri.exit ?_; simp only [Then, InBlock, if_true, if_false, ↓reduceIte, Nat.reduceEqDiff]) | refine Tri.seq (Tri.block ?_) | refine Tri.block ?_ | refine Tri.seq ?_ | (refine Tri.ret ?_; refine Con.fin (.inl rfl) (by simp only [Tryd.f66, cfgR2, resA, resA1, go_sem]; rfl) (by simp only [Obs, and_true, true_and]) (by first | (simp only [kNumP, Con.of, Con.ofO, resV, List.take_of_length_le, go_sem]; done) | fail) trivial rfl rfl))
  refine Tri.phT 2 (.int .u8) 1 rfl rfl ?_
  refine Tri.loop (fun s : UInt64 × List UInt8 => (⟨[some (.int .u64 s.1), none, some (.tsl 0 [] 0 0 1 s.2.length)] ++ List.replicate 12 none, [.live (.pure (.arr s.2.length (.int .u8)) s.2)]⟩ : AS)) (fun s => s.2.length ≤ 8 ∧ s.1.toNat < 256 ^ (8 - s.2.length) ∧ s.2 ++ leN (8 - s.2.length) s.1 = leN 8 n0) (fun s => 8 - s.2.length) (n0, []) ?_ ⟨Nat.zero_le _, UInt64.toNat_lt n0, rfl⟩ ?_
  · refine Wk.of ?_ ?_ rfl rfl
    · simp only [lessTs, List.reduceReplicate, List.cons_append, List.nil_append, List.length_nil] <;> ((repeat' apply And.intro) <;> first | with_reducible rfl | exact True.intro | exact congrArg (fun z : Int => some (AV.int IntKind.i64 z)) (show (_ : Int) = _ by omega) | exact congrArg (fun z : Nat => some (AV.tsl _ _ _ _ _ z)) (show (_ : Nat) = _ by omega) | exact arrEq (by omega) (by with_reducible rfl))
    · simp only [lessHs, List.length_nil] <;> ((repeat' apply And.intro) <;> first | with_reducible rfl | exact True.intro | exact congrArg (fun z : Int => some (AV.int IntKind.i64 z)) (show (_ : Int) = _ by omega) | exact congrArg (fun z : Nat => some (AV.tsl _ _ _ _ _ z)) (show (_ : Nat) = _ by omega) | exact arrEq (by omega) (by with_reducible rfl))
  · intro ⟨n, acc⟩ ⟨ha, hn, he⟩
    replace ha : acc.length ≤ 8 := ha
    replace hn : n.toNat < 256 ^ (8 - acc.length) := hn
    replace he : acc ++ leN (8 - acc.length) n = leN 8 n0 := he
    have htk : List.take acc.length acc = acc := List.take_length
    by_cases hz : n = 0
    · have hz' : decide ((0 : UInt64) < n) = false := by rw [hz]; rfl
      have hl : leN (8 - acc.length) n = [] := by
        subst hz
        cases 8 - acc.length <;> rfl
      rw [hl, List.append_nil] at he
      subst he
      refine Tri.at (by first | (simp only [hz', htk, Con.start, go_sem]; rfl) | rfl) ?_
      repeat (first | ((first | refine Tri.seq (Tri.regT (cfgR2_ok.pins _) ?_) | refine Tri.rgnT (cfgR2_ok.pins _) ?_); (repeat (first | refine RunT.oneA (hp := by simp (maxSteps := 2000000) (disch := first | decide | omega | (simp only [List.length_append, List.length_cons, List.length_nil, List.length_take, List.length_drop]; omega)) only [hz', htk, go_sem]; rfl) (h := ?_) | refine RunT.notA (h := ?_))); refine RunT.nil ?_; try simp only [InBlock, Then]) | ((first | refine Tri.seq (Tri.drwT (mixed) (cfgR2_ok.pins _) ?_) | refine Tri.drnT (mixed) (cfgR2_ok.pins _) ?_); (repeat (first | refine RunD.oneA (hp := by simp (maxSteps := 2000000) (disch := first | decide | omega | (simp only [List.length_append, List.length_cons, List.length_nil, List.length_take, List.length_drop]; omega)) only [hz', htk, go_sem]; rfl) (h := ?_) | refine RunD.notA (h := ?_))); refine RunD.nil ?_; refine ⟨by kernel_rfl, ?_⟩; try simp only [InBlock, Then]) | refine Tri.cF (by first | (simp only [hz', htk, go_sem]; done) | fail) ?_ | refine Tri.cT (by first | (simp only [hz', htk, go_sem]; done) | fail) ?_ | (refine Tri.skip ?_; try simp only [InBlock, Then]) | (refine Tri.exit ?_; simp only [Then, InBlock, if_true, if_false, ↓reduceIte, Nat.reduceEqDiff]) | refine Tri.seq (Tri.block ?_) | refine Tri.block ?_ | refine Tri.seq ?_ | (refine Tri.ret ?_; refine Con.fin (.inl rfl) (by simp only [Tryd.f66, cfgR2, resA, resA1, go_sem]; rfl) (by simp only [Obs, and_true, true_and]) (by first | (simp only [kNumP, Con.of, Con.ofO, resV, hz', htk, go_sem]; done) | fail) trivial rfl rfl))
      have hrl : List.take (leN 8 n0).length (leN 8 n0).reverse = (leN 8 n0).reverse := List.take_of_length_le (by rw [List.length_reverse]; exact Nat.le_refl _)
      refine Tri.rel true 0 rfl ?_ rfl rfl ?_
      · simp only [AS.blk, go_sem]
        repeat' constructor
      refine Tri.at (by first | (simp only [hrl, Con.start, go_sem]; rfl) | rfl) ?_
      refine Tri.ret ?_
      refine Con.fin (.inl rfl) (by simp only [Tryd.f66, cfgR2, resA, resA1, go_sem]; rfl) (by simp only [Obs, and_true, true_and]) ?_ ?_ rfl rfl
      · rfl
      · exact True.intro
    · have hz' : decide ((0 : UInt64) < n) = true := by
        refine decide_eq_true ?_
        rw [UInt64.lt_iff_toNat_lt]
        have : n.toNat ≠ 0 := fun e => hz (UInt64.toNat_inj.1 e)
        show 0 < n.toNat
        omega
      obtain ⟨k, hk⟩ : ∃ k, 8 - acc.length = k + 1 := by
        cases h8 : 8 - acc.length with
        | zero => rw [h8] at hn; have : n.toNat = 0 := by simpa using hn
                  exact absurd (UInt64.toNat_inj.1 this) hz
        | succ k => exact ⟨k, rfl⟩
      refine Tri.at (by first | (simp only [hz', htk, Con.start, go_sem]; rfl) | rfl) ?_
      repeat (first | ((first | refine Tri.seq (Tri.regT (cfgR2_ok.pins _) ?_) | refine Tri.rgnT (cfgR2_ok.pins _) ?_); (repeat (first | refine RunT.oneA (hp := by simp (maxSteps := 2000000) (disch := first | decide | omega | (simp only [List.length_append, List.length_cons, List.length_nil, List.length_take, List.length_drop]; omega)) only [hz', htk, go_sem]; rfl) (h := ?_) | refine RunT.notA (h := ?_))); refine RunT.nil ?_; try simp only [InBlock, Then]) | ((first | refine Tri.seq (Tri.drwT (mixed) (cfgR2_ok.pins _) ?_) | refine Tri.drnT (mixed) (cfgR2_ok.pins _) ?_); (repeat (first | refine RunD.oneA (hp := by simp (maxSteps := 2000000) (disch := first | decide | omega | (simp only [List.length_append, List.length_cons, List.length_nil, List.length_take, List.length_drop]; omega)) only [hz', htk, go_sem]; rfl) (h := ?_) | refine RunD.notA (h := ?_))); refine RunD.nil ?_; refine ⟨by kernel_rfl, ?_⟩; try simp only [InBlock, Then]) | refine Tri.cF (by first | (simp only [hz', htk, go_sem]; done) | fail) ?_ | refine Tri.cT (by first | (simp only [hz', htk, go_sem]; done) | fail) ?_ | (refine Tri.skip ?_; try simp only [InBlock, Then]) | (refine Tri.exit ?_; simp only [Then, InBlock, if_true, if_false, ↓reduceIte, Nat.reduceEqDiff]) | refine Tri.seq (Tri.block ?_) | refine Tri.block ?_ | refine Tri.seq ?_ | (refine Tri.ret ?_; refine Con.fin (.inl rfl) (by simp only [Tryd.f66, cfgR2, resA, resA1, go_sem]; rfl) (by simp only [Obs, and_true, true_and]) (by first | (simp only [kNumP, Con.of, Con.ofO, resV, hz', htk, go_sem]; done) | fail) trivial rfl rfl))
      have h8 : 8 - (acc ++ [n.toUInt8]).length = k := by rw [List.length_append]; simp; omega
      refine ⟨(n >>> 8, acc ++ [n.toUInt8]), ⟨?_, ?_, ?_⟩, ?_, Wk.of ?_ ?_ rfl rfl⟩
      · rw [List.length_append]; simp; omega
      · show (n >>> 8).toNat < 256 ^ (8 - (acc ++ [n.toUInt8]).length)
        rw [h8]
        rw [hk] at hn
        exact shr8_lt hn
      · show (acc ++ [n.toUInt8]) ++ leN (8 - (acc ++ [n.toUInt8]).length) (n >>> 8) = _
        rw [h8, ← he, hk]
        conv => rhs; unfold leN
        rw [if_neg hz]
        simp
      · show 8 - (acc ++ [n.toUInt8]).length < 8 - acc.length
        omega
      · simp only [lessTs, List.reduceReplicate, List.cons_append, List.nil_append, List.length_append, List.length_cons, List.length_nil] <;> ((repeat' apply And.intro) <;> first | with_reducible rfl | exact True.intro | exact congrArg (fun z : Int => some (AV.int IntKind.i64 z)) (show (_ : Int) = _ by omega) | exact congrArg (fun z : Nat => some (AV.tsl _ _ _ _ _ z)) (show (_ : Nat) = _ by omega) | exact arrEq (by omega) (by with_reducible rfl))
      · exact ⟨arrEq (by simp) rfl, trivial⟩
theorem numP_sum : FSumOK Tryd.prog cfgR2.G 66 kNumP.sum := Con.sumOK cfgR2_ok kNumP Tryd.func66 rfl rfl (Con.of_inv _ _ _) numP_body
end
def rdI (b : List UInt8) : Nat → UInt64
  | 0 => 0
  | i + 1 => (rdI b i <<< 8) ||| (b.getD i 0).toUInt64
def rdB (b : List UInt8) : Bool := !(decide ((8 : Int) < (b.length : Int)) || (decide ((0 : Int) < (b.length : Int)) && decide (b.getD 0 0 = 0)))
def rdU (b : List UInt8) : UInt64 := if rdB b = true then rdI b b.length else 0
def kRd : Con := Con.of [.v (.slice false (.int .u8))] (fun x => [List.length (α := UInt8) x.1 ≤ 9223372036854775807]) (fun x => ⟨.tuple [.int .u64 (rdU x.1), .bool (rdB x.1)], []⟩)
def cfgKB0 : Cfg2 := { ty := tyTabS, fn := fun  | _ => none, G := shaG, pin := [], eq := fun _ => none }
theorem cfgKB0_ok : CfgOK Tryd.prog cfgKB0 := ⟨tyTabS_ok, (fun f s h => by cases h), (fun t d h => by cases h)⟩
section
attribute [local go_sem] Tryd.f67 kRd cfgKB0 tyTabS
theorem trd_body (p : kRd.Par) (hp : ∀ q ∈ kRd.pre p, q) : BodyOK Tryd.prog cfgKB0 Tryd.f67 (Tryd.f67.body.get rfl) kRd p := by
  obtain ⟨(b : List UInt8), u⟩ := p
  obtain ⟨h0, _⟩ := Obs.of hp
  replace h0 : b.length ≤ 9223372036854775807 := h0
  refine ⟨?_, Nat.zero_le _, rfl, rfl⟩
  show Tri _ _ _ (Code.seq _ (Code.seq (Code.seq _ (Code.cond _ (Code.seq _ _) _)) (Code.seq (Code.seq _ (Code.block _ (Code.loop (Code.seq _ (Code.seq (Code.cond _ _ _) (Code.seq (Code.block _ (Code.seq _ _)) _)))))) (Code.seq _ _)))) _
  cases b1 : decide ((8 : Int) < (b.length : Int)) with
  | true =>
    have e1 : rdB b = false := by rw [rdB, b1]; rfl
    have e2 : rdU b = 0 := by rw [rdU, e1]; rfl
    refine Tri.at (by first | (simp only [b1, e1, e2, Con.start, go_sem]; rfl) | rfl) ?_
    repeat (first | ((first | refine Tri.seq (Tri.regT (cfgKB0_ok.pins _) ?_) | refine Tri.rgnT (cfgKB0_ok.pins _) ?_); (repeat (first | refine RunT.oneA (hp := by simp (maxSteps := 2000000) (disch := first | decide | omega | (simp only [List.length_append, List.length_cons, List.length_nil, List.length_take, List.length_drop]; omega)) only [b1, e1, e2, go_sem]; rfl) (h := ?_) | refine RunT.notA (h := ?_))); refine RunT.nil ?_; try simp only [InBlock, Then]) | refine Tri.cF (by first | (simp only [b1, e1, e2, go_sem]; done) | fail) ?_ | refine Tri.cT (by first | (simp only [b1, e1, e2, go_sem]; done) | fail) ?_ | (refine Tri.skip ?_; try simp only [InBlock, Then]) | (refine Tri.exit ?_; simp only [Then, InBlock, if_true, if_false, ↓reduceIte, Nat.reduceEqDiff]) | refine Tri.seq (Tri.block ?_) | refine Tri.block ?_ | refine Tri.seq ?_ | (refine Tri.ret ?_; refine Con.fin (.inl rfl) (by simp only [Tryd.f67, cfgKB0, resA, resA1, go_sem]; rfl) (by simp only [Obs, and_true, true_and]) (by first | (simp only [kRd, Con.of, Con.ofO, resV, b1, e1, e2, go_sem]; done) | fail) trivial rfl rfl))
  | false =>
  cases b2 : decide ((0 : Int) < (b.length : Int)) && decide (b.getD 0 0 = 0) with
  | true =>
    have b2' := b2
    rw [Bool.and_eq_true] at b2'
    obtain ⟨b3, b4⟩ := b2'
    have hpos : 0 < b.length := by have := of_decide_eq_true b3; omega
    have e1 : rdB b = false := by rw [rdB, b1, b2]; rfl
    have e2 : rdU b = 0 := by rw [rdU, e1]; rfl
    refine Tri.at (by first | (simp only [b1, b3, b4, e1, e2, Con.start, go_sem]; rfl) | rfl) ?_
    repeat (first | ((first | refine Tri.seq (Tri.regT (cfgKB0_ok.pins _) ?_) | refine Tri.rgnT (cfgKB0_ok.pins _) ?_); (repeat (first | refine RunT.oneA (hp := by simp (maxSteps := 2000000) (disch := first | decide | omega | (simp only [List.length_append, List.length_cons, List.length_nil, List.length_take, List.length_drop]; omega)) only [b1, b3, b4, e1, e2, go_sem]; rfl) (h := ?_) | refine RunT.notA (h := ?_))); refine RunT.nil ?_; try simp only [InBlock, Then]) | refine Tri.cF (by first | (simp only [b1, b3, b4, e1, e2, go_sem]; done) | fail) ?_ | refine Tri.cT (by first | (simp only [b1, b3, b4, e1, e2, go_sem]; done) | fail) ?_ | (refine Tri.skip ?_; try simp only [InBlock, Then]) | (refine Tri.exit ?_; simp only [Then, InBlock, if_true, if_false, ↓reduceIte, Nat.reduceEqDiff]) | refine Tri.seq (Tri.block ?_) | refine Tri.block ?_ | refine Tri.seq ?_ | (refine Tri.ret ?_; refine Con.fin (.inl rfl) (by simp only [Tryd.f67, cfgKB0, resA, resA1, go_sem]; rfl) (by simp only [Obs, and_true, true_and]) (by first | (simp only [kRd, Con.of, Con.ofO, resV, b1, b3, b4, e1, e2, go_sem]; done) | fail) trivial rfl rfl))
  | false =>
    have e1 : rdB b = true := by rw [rdB, b1, b2]; rfl
    have e2 : rdU b = rdI b b.length := by rw [rdU, if_pos e1]
    cases b3 : decide ((0 : Int) < (b.length : Int))
    · have hz : b.length = 0 := by have := of_decide_eq_false b3; omega
      refine Tri.at (by first | (simp only [b1, b3, Con.start, go_sem]; rfl) | rfl) ?_
      repeat (first | ((first | refine Tri.seq (Tri.regT (cfgKB0_ok.pins _) ?_) | refine Tri.rgnT (cfgKB0_ok.pins _) ?_); (repeat (first | refine RunT.oneA (hp := by simp (maxSteps := 2000000) (disch := first | decide | omega | (simp only [List.length_append, List.length_cons, List.length_nil, List.length_take, List.length_drop]; omega)) only [b1, b3, go_sem]; rfl) (h := ?_) | refine RunT.notA (h := ?_))); refine RunT.nil ?_; try simp only [InBlock, Then]) | refine Tri.cF (by first | (simp only [b1, b3, go_sem]; done) | fail) ?_ | refine Tri.cT (by first | (simp only [b1, b3, go_sem]; done) | fail) ?_ | (refine Tri.skip ?_; try simp only [InBlock, Then]) | (refine Tri.exit ?_; simp only [Then, InBlock, if_true, if_false, ↓reduceIte, Nat.reduceEqDiff]) | refine Tri.seq (Tri.block ?_) | refine Tri.block ?_ | refine Tri.seq ?_ | (refine Tri.ret ?_; refine Con.fin (.inl rfl) (by simp only [Tryd.f67, cfgKB0, resA, resA1, go_sem]; rfl) (by simp only [Obs, and_true, true_and]) (by first | (simp only [kRd, Con.of, Con.ofO, resV, b1, b3, go_sem]; done) | fail) trivial rfl rfl))
      have hb0 : b = [] := List.eq_nil_of_length_eq_zero hz
      subst hb0
      refine Tri.loop (fun i : Nat => (⟨[some (.pure (.slice false (.int .u8)) []), none, some (.int .u64 (0 : UInt64)), none, none, none, none, none, none, none, none, none, none, none, none, none, none, none, none, none, some (.pure (.slice false (.int .u8)) []), some (.int .i64 (0 : Int)), some (.int .i64 (0 : Int))] ++ List.replicate 10 none, []⟩ : AS)) (fun i => True) (fun i => 0) 0 ?_ True.intro ?_
      · refine Wk.of ?_ ?_ rfl rfl
        · simp only [lessTs, List.reduceReplicate, List.cons_append, List.nil_append, List.length_nil] <;> ((repeat' apply And.intro) <;> first | with_reducible rfl | exact True.intro | exact congrArg (fun z : Int => some (AV.int IntKind.i64 z)) (show (_ : Int) = _ by omega) | exact congrArg (fun z : Nat => some (AV.tsl _ _ _ _ _ z)) (show (_ : Nat) = _ by omega) | exact arrEq (by omega) (by with_reducible rfl))
        · simp only [lessHs, List.length_nil] <;> ((repeat' apply And.intro) <;> first | with_reducible rfl | exact True.intro | exact congrArg (fun z : Int => some (AV.int IntKind.i64 z)) (show (_ : Int) = _ by omega) | exact congrArg (fun z : Nat => some (AV.tsl _ _ _ _ _ z)) (show (_ : Nat) = _ by omega) | exact arrEq (by omega) (by with_reducible rfl))
      · intro i _
        have z1 : decide ((0 : Int) < 0) = false := rfl
        refine Tri.at (by first | (simp only [z1, e1, e2, List.length_nil, rdI, Con.start, go_sem]; rfl) | rfl) ?_
        repeat (first | ((first | refine Tri.seq (Tri.regT (cfgKB0_ok.pins _) ?_) | refine Tri.rgnT (cfgKB0_ok.pins _) ?_); (repeat (first | refine RunT.oneA (hp := by simp (maxSteps := 2000000) (disch := first | decide | omega | (simp only [List.length_append, List.length_cons, List.length_nil, List.length_take, List.length_drop]; omega)) only [z1, e1, e2, List.length_nil, rdI, go_sem]; rfl) (h := ?_) | refine RunT.notA (h := ?_))); refine RunT.nil ?_; try simp only [InBlock, Then]) | refine Tri.cF (by first | (simp only [z1, e1, e2, List.length_nil, rdI, go_sem]; done) | fail) ?_ | refine Tri.cT (by first | (simp only [z1, e1, e2, List.length_nil, rdI, go_sem]; done) | fail) ?_ | (refine Tri.skip ?_; try simp only [InBlock, Then]) | (refine Tri.exit ?_; simp only [Then, InBlock, if_true, if_false, ↓reduceIte, Nat.reduceEqDiff]) | refine Tri.seq (Tri.block ?_) | refine Tri.block ?_ | refine Tri.seq ?_ | (refine Tri.ret ?_; refine Con.fin (.inl rfl) (by simp only [Tryd.f67, cfgKB0, resA, resA1, go_sem]; rfl) (by simp only [Obs, and_true, true_and]) (by first | (simp only [kRd, Con.of, Con.ofO, resV, z1, e1, e2, List.length_nil, rdI, go_sem]; done) | fail) trivial rfl rfl))
    · have hpos : 0 < b.length := by have := of_decide_eq_true b3; omega
      have b4 : decide (b.getD 0 0 = 0) = false := by rw [b3] at b2; simpa using b2
      refine Tri.at (by first | (simp only [b1, b3, b4, Con.start, go_sem]; rfl) | rfl) ?_
      repeat (first | ((first | refine Tri.seq (Tri.regT (cfgKB0_ok.pins _) ?_) | refine Tri.rgnT (cfgKB0_ok.pins _) ?_); (repeat (first | refine RunT.oneA (hp := by simp (maxSteps := 2000000) (disch := first | decide | omega | (simp only [List.length_append, List.length_cons, List.length_nil, List.length_take, List.length_drop]; omega)) only [b1, b3, b4, go_sem]; rfl) (h := ?_) | refine RunT.notA (h := ?_))); refine RunT.nil ?_; try simp only [InBlock, Then]) | refine Tri.cF (by first | (simp only [b1, b3, b4, go_sem]; done) | fail) ?_ | refine Tri.cT (by first | (simp only [b1, b3, b4, go_sem]; done) | fail) ?_ | (refine Tri.skip ?_; try simp only [InBlock, Then]) | (refine Tri.exit ?_; simp only [Then, InBlock, if_true, if_false, ↓reduceIte, Nat.reduceEqDiff]) | refine Tri.seq (Tri.block ?_) | refine Tri.block ?_ | refine Tri.seq ?_ | (refine Tri.ret ?_; refine Con.fin (.inl rfl) (by simp only [Tryd.f67, cfgKB0, resA, resA1, go_sem]; rfl) (by simp only [Obs, and_true, true_and]) (by first | (simp only [kRd, Con.of, Con.ofO, resV, b1, b3, b4, go_sem]; done) | fail) trivial rfl rfl))
      refine Tri.loop (fun i : Nat => (⟨[some (.pure (.slice false (.int .u8)) b), none, some (.int .u64 (rdI b i)), none, none, none, none, none, none, none, none, none, none, none, none, none, none, none, none, none, some (.pure (.slice false (.int .u8)) b), some (.int .i64 (b.length : Int)), some (.int .i64 (i : Int))] ++ List.replicate 10 none, []⟩ : AS)) (fun i => i ≤ b.length) (fun i => b.length - i) 0 ?_ (Nat.zero_le _) ?_
      · refine Wk.of ?_ ?_ rfl rfl
        · simp only [lessTs, List.reduceReplicate, List.cons_append, List.nil_append, rdI] <;> ((repeat' apply And.intro) <;> first | with_reducible rfl | exact True.intro | exact congrArg (fun z : Int => some (AV.int IntKind.i64 z)) (show (_ : Int) = _ by omega) | exact congrArg (fun z : Nat => some (AV.tsl _ _ _ _ _ z)) (show (_ : Nat) = _ by omega) | exact arrEq (by omega) (by with_reducible rfl))
        · simp only [lessHs, rdI] <;> ((repeat' apply And.intro) <;> first | with_reducible rfl | exact True.intro | exact congrArg (fun z : Int => some (AV.int IntKind.i64 z)) (show (_ : Int) = _ by omega) | exact congrArg (fun z : Nat => some (AV.tsl _ _ _ _ _ z)) (show (_ : Nat) = _ by omega) | exact arrEq (by omega) (by with_reducible rfl))
      · intro i hi
        by_cases h1 : i < b.length
        · have h1' : decide ((i : Int) < (b.length : Int)) = true := decide_eq_true (by omega)
          have hrd : rdI b (i + 1) = (rdI b i <<< 8) ||| (b.getD i 0).toUInt64 := rfl
          refine Tri.at (by first | (simp only [h1', Con.start, go_sem]; rfl) | rfl) ?_
          repeat (first | ((first | refine Tri.seq (Tri.regT (cfgKB0_ok.pins _) ?_) | refine Tri.rgnT (cfgKB0_ok.pins _) ?_); (repeat (first | refine RunT.oneA (hp := by simp (maxSteps := 2000000) (disch := first | decide | omega | (simp only [List.length_append, List.length_cons, List.length_nil, List.length_take, List.length_drop]; omega)) only [h1', go_sem]; rfl) (h := ?_) | refine RunT.notA (h := ?_))); refine RunT.nil ?_; try simp only [InBlock, Then]) | refine Tri.cF (by first | (simp only [h1', go_sem]; done) | fail) ?_ | refine Tri.cT (by first | (simp only [h1', go_sem]; done) | fail) ?_ | (refine Tri.skip ?_; try simp only [InBlock, Then]) | (refine Tri.exit ?_; simp only [Then, InBlock, if_true, if_false, ↓reduceIte, Nat.reduceEqDiff]) | refine Tri.seq (Tri.block ?_) | refine Tri.block ?_ | refine Tri.seq ?_ | (refine Tri.ret ?_; refine Con.fin (.inl rfl) (by simp only [Tryd.f67, cfgKB0, resA, resA1, go_sem]; rfl) (by simp only [Obs, and_true, true_and]) (by first | (simp only [kRd, Con.of, Con.ofO, resV, h1', go_sem]; done) | fail) trivial rfl rfl))
          refine ⟨i + 1, (by omega), (by omega), Wk.of ?_ ?_ rfl rfl⟩
          · simp only [lessTs, List.reduceReplicate, List.cons_append, List.nil_append, hrd] <;> ((repeat' apply And.intro) <;> first | with_reducible rfl | exact True.intro | exact congrArg (fun z : Int => some (AV.int IntKind.i64 z)) (show (_ : Int) = _ by omega) | exact congrArg (fun z : Nat => some (AV.tsl _ _ _ _ _ z)) (show (_ : Nat) = _ by omega) | exact arrEq (by omega) (by with_reducible rfl))
          · trivial
        · have h1' : decide ((i : Int) < (b.length : Int)) = false := decide_eq_false (by omega)
          have hib : i = b.length := by omega
          subst hib
          refine Tri.at (by first | (simp only [h1', e1, e2, Con.start, go_sem]; rfl) | rfl) ?_
          repeat (first | ((first | refine Tri.seq (Tri.regT (cfgKB0_ok.pins _) ?_) | refine Tri.rgnT (cfgKB0_ok.pins _) ?_); (repeat (first | refine RunT.oneA (hp := by simp (maxSteps := 2000000) (disch := first | decide | omega | (simp only [List.length_append, List.length_cons, List.length_nil, List.length_take, List.length_drop]; omega)) only [h1', e1, e2, go_sem]; rfl) (h := ?_) | refine RunT.notA (h := ?_))); refine RunT.nil ?_; try simp only [InBlock, Then]) | refine Tri.cF (by first | (simp only [h1', e1, e2, go_sem]; done) | fail) ?_ | refine Tri.cT (by first | (simp only [h1', e1, e2, go_sem]; done) | fail) ?_ | (refine Tri.skip ?_; try simp only [InBlock, Then]) | (refine Tri.exit ?_; simp only [Then, InBlock, if_true, if_false, ↓reduceIte, Nat.reduceEqDiff]) | refine Tri.seq (Tri.block ?_) | refine Tri.block ?_ | refine Tri.seq ?_ | (refine Tri.ret ?_; refine Con.fin (.inl rfl) (by simp only [Tryd.f67, cfgKB0, resA, resA1, go_sem]; rfl) (by simp only [Obs, and_true, true_and]) (by first | (simp only [kRd, Con.of, Con.ofO, resV, h1', e1, e2, go_sem]; done) | fail) trivial rfl rfl))
theorem trd_sum : FSumOK Tryd.prog cfgKB0.G 67 kRd.sum := Con.sumOK cfgKB0_ok kRd Tryd.func67 rfl rfl (Con.of_inv _ _ _) trd_body
end
end Go.Proofs.YtlnkfdblkdhdgaaDoor

namespace Go.Proofs.YtlnkfdblkdhdgaaDoor
open Go.Vc Go.Proofs
set_option maxRecDepth 10000
set_option maxHeartbeats 4000000
def spN (d : List UInt8) : Nat := (d.getD 1 0).toNat * 256 + (d.getD 2 0).toNat
def spF : Nat → List UInt8 → List flK.T → Option (List flK.T) × Int
  | 0, _, acc => (some acc, 0)
  | k + 1, d, acc =>
    if d.length = 0 then (some acc, 0)
    else if d.getD 0 0 = 0 then (none, 21)
    else if d.length < 3 then (none, 20)
    else if d.length - 3 < spN d then (none, 20)
    else spF k (List.drop (spN d) (List.drop 3 d)) (acc ++ [((((d.getD 0 0).toNat : Int), List.take (spN d) (List.drop 3 d), ()) : flK.T)])
def spV (d : List UInt8) : AV := match spF d.length d [] with
  | (none, e) => .tuple [.nilsl, .int .i64 e]
  | (some fs, _) => .tuple [.pure (.slice true flK) fs, .int .i64 (0 : Int)]
theorem sp_or (a b : UInt8) : orT .i64 (shlT .i64 ((a.toNat : Nat) : Int) 8) ((b.toNat : Nat) : Int) = ((a.toNat * 256 + b.toNat : Nat) : Int) := by
  have ha := UInt8.toNat_lt a
  have hb := UInt8.toNat_lt b
  have h1 : (shlT .i64 ((a.toNat : Nat) : Int) 8 : Int) = ((a.toNat * 256 : Nat) : Int) := by
    have h := toI_shlT .i64 ((a.toNat : Nat) : Int) 8
    have e : toI .i64 (shlT .i64 ((a.toNat : Nat) : Int) 8) = (shlT .i64 ((a.toNat : Nat) : Int) 8 : Int) := rfl
    rw [← e, h]
    show IntKind.i64.wrap (((a.toNat : Nat) : Int) * 2 ^ min 8 64) = _
    have e2 : ((2 : Int) ^ min 8 64) = 256 := by decide
    rw [e2, wrap_i64_id _ (by omega) (by omega)]
    omega
  rw [h1]
  show bits .or .i64 ((a.toNat * 256 : Nat) : Int) ((b.toNat : Nat) : Int) = _
  have e3 : bits .or .i64 ((a.toNat * 256 : Nat) : Int) ((b.toNat : Nat) : Int) = IntKind.wrap .i64 (((BitVec.ofInt 64 ((a.toNat * 256 : Nat) : Int)) ||| (BitVec.ofInt 64 ((b.toNat : Nat) : Int))).toNat : Int) := rfl
  have h2 : ((BitVec.ofInt 64 ((a.toNat * 256 : Nat) : Int)) ||| (BitVec.ofInt 64 ((b.toNat : Nat) : Int))).toNat = a.toNat * 256 + b.toNat := by
    rw [BitVec.toNat_or]
    have f1 : (BitVec.ofInt 64 ((a.toNat * 256 : Nat) : Int)).toNat = a.toNat * 256 := by simp <;> omega
    have f2 : (BitVec.ofInt 64 ((b.toNat : Nat) : Int)).toNat = b.toNat := by simp <;> omega
    rw [f1, f2]
    have h3 := Nat.two_pow_add_eq_or_of_lt (i := 8) (b := b.toNat) (by omega) a.toNat
    rw [Nat.mul_comm a.toNat 256]
    exact h3.symm
  rw [e3, h2, wrap_i64_id _ (by omega) (by omega)]
def kSpt : Con := Con.of [.v (.slice false (.int .u8))] (fun x => [List.length (α := UInt8) x.1 ≤ 1000000]) (fun x => ⟨spV x.1, []⟩)
def cfgKP1 : Cfg2 := { ty := tyTabM, fn := fun | 39 => some kClo.sum | _ => none, G := shaG, pin := [], eq := fun _ => none }
theorem cfgKP1_ok : CfgOK Tryd.prog cfgKP1 := ⟨tyTabM_ok, (fun f s h => by
  simp only [cfgKP1] at h
  split at h
  · injection h with h; subst h; exact .inl clo_sum
  · cases h), (fun t d h => by cases h)⟩
section
attribute [local go_sem] Tryd.f115 kSpt kClo cfgKP1 tyTabM tyTabS
theorem spt_body (p : kSpt.Par) (hp : ∀ q ∈ kSpt.pre p, q) : BodyOK Tryd.prog cfgKP1 Tryd.f115 (Tryd.f115.body.get rfl) kSpt p := by
  obtain ⟨(d0 : List UInt8), u⟩ := p
  obtain ⟨h0, _⟩ := Obs.of hp
  replace h0 : d0.length ≤ 1000000 := h0
  refine ⟨?_, Nat.zero_le _, (by show (spV d0).strict = true; unfold spV; split <;> rfl), rfl⟩
  show Tri _ _ _ (Code.seq _ (Code.seq (Code.block _ (Code.loop (Code.seq (Code.seq _ (Code.cond _ _ _)) (Code.block _ (Code.seq (Code.seq _ (Code.cond _ (Code.seq _ _) _)) (Code.seq (Code.seq _ (Code.cond _ (Code.seq _ _) _)) (Code.seq _ (Code.seq _ (Code.seq (Code.seq _ (Code.cond _ (Code.seq _ _) _)) (Code.seq _ _)))))))))) (Code.seq _ _))) _
  have hV : spV d0 = (match spF d0.length d0 [] with
    | (none, e) => .tuple [.nilsl, .int .i64 e]
    | (some fs, _) => .tuple [.pure (.slice true flK) fs, .int .i64 (0 : Int)]) := rfl
  refine Tri.at (by first | (simp only [go_sem, Con.start, go_sem]; rfl) | rfl) ?_
  repeat (first | ((first | refine Tri.seq (Tri.regT (cfgKP1_ok.pins _) ?_) | refine Tri.rgnT (cfgKP1_ok.pins _) ?_); (repeat (first | refine RunT.oneA (hp := by simp (maxSteps := 2000000) (disch := first | decide | omega | (simp only [List.length_append, List.length_cons, List.length_nil, List.length_take, List.length_drop]; omega)) only [go_sem, go_sem]; rfl) (h := ?_) | refine RunT.notA (h := ?_))); refine RunT.nil ?_; try simp only [InBlock, Then]) | refine Tri.cF (by first | (simp only [go_sem, go_sem]; done) | fail) ?_ | refine Tri.cT (by first | (simp only [go_sem, go_sem]; done) | fail) ?_ | (refine Tri.skip ?_; try simp only [InBlock, Then]) | (refine Tri.exit ?_; simp only [Then, InBlock, if_true, if_false, ↓reduceIte, Nat.reduceEqDiff]) | refine Tri.seq (Tri.block ?_) | refine Tri.block ?_ | refine Tri.seq ?_ | (refine Tri.ret ?_; refine Con.fin (.inl rfl) (by simp only [Tryd.f115, cfgKP1, resA, resA1, go_sem]; rfl) (by simp only [Obs, and_true, true_and]) (by first | (simp only [kSpt, Con.of, Con.ofO, resV, go_sem, go_sem]; done) | fail) trivial rfl rfl))
  refine Tri.phT 2 flK 2 rfl rfl ?_
  refine Tri.loop (fun v : Nat × List UInt8 × List flK.T => (⟨[some (.pure (.slice false (.int .u8)) v.2.1), none, some (.tsl 0 [] 0 0 2 v.2.2.length), some (.int .i64 (0 : Int))] ++ List.replicate 44 none, [.live (.pure (.arr v.2.2.length flK) v.2.2)]⟩ : AS)) (fun v => v.2.1.length ≤ v.1 ∧ v.1 ≤ d0.length ∧ v.2.2.length + v.1 ≤ d0.length ∧ spF d0.length d0 [] = spF v.1 v.2.1 v.2.2) (fun v => v.1) (d0.length, d0, []) ?_ ⟨Nat.le_refl _, Nat.le_refl _, (by show 0 + d0.length ≤ d0.length; omega), rfl⟩ ?_
  · refine Wk.of ?_ ?_ rfl rfl
    · simp only [lessTs, List.reduceReplicate, List.cons_append, List.nil_append, List.length_nil] <;> ((repeat' apply And.intro) <;> first | with_reducible rfl | exact True.intro | exact congrArg (fun z : Int => some (AV.int IntKind.i64 z)) (show (_ : Int) = _ by omega) | exact congrArg (fun z : Nat => some (AV.tsl _ _ _ _ _ z)) (show (_ : Nat) = _ by omega) | exact arrEq (by omega) (by with_reducible rfl))
    exact ⟨rfl, trivial⟩
  · intro ⟨k, d, acc⟩ ⟨hk, hk2, hal, hsp⟩
    replace hk : d.length ≤ k := hk
    replace hk2 : k ≤ d0.length := hk2
    replace hal : acc.length + k ≤ d0.length := hal
    replace hsp : spF d0.length d0 [] = spF k d acc := hsp
    have htk : List.take acc.length acc = acc := List.take_length
    by_cases hz : d.length = 0
    · have hz' : decide ((0 : Int) < (d.length : Int)) = false := decide_eq_false (by omega)
      have hend : spF k d acc = (some acc, 0) := by
        cases k with
        | zero => rfl
        | succ k => rw [spF, if_pos hz]
      rw [hsp, hend] at hV
      replace hV : spV d0 = .tuple [.pure (.slice true flK) acc, .int .i64 (0 : Int)] := hV
      refine Tri.at (by first | (simp only [hz', Con.start, go_sem]; rfl) | rfl) ?_
      repeat (first | ((first | refine Tri.seq (Tri.regT (cfgKP1_ok.pins _) ?_) | refine Tri.rgnT (cfgKP1_ok.pins _) ?_); (repeat (first | refine RunT.oneA (hp := by simp (maxSteps := 2000000) (disch := first | decide | omega | (simp only [List.length_append, List.length_cons, List.length_nil, List.length_take, List.length_drop]; omega)) only [hz', go_sem]; rfl) (h := ?_) | refine RunT.notA (h := ?_))); refine RunT.nil ?_; try simp only [InBlock, Then]) | refine Tri.cF (by first | (simp only [hz', go_sem]; done) | fail) ?_ | refine Tri.cT (by first | (simp only [hz', go_sem]; done) | fail) ?_ | (refine Tri.skip ?_; try simp only [InBlock, Then]) | (refine Tri.exit ?_; simp only [Then, InBlock, if_true, if_false, ↓reduceIte, Nat.reduceEqDiff]) | refine Tri.seq (Tri.block ?_) | refine Tri.block ?_ | refine Tri.seq ?_ | (refine Tri.ret ?_; refine Con.fin (.inl rfl) (by simp only [Tryd.f115, cfgKP1, resA, resA1, go_sem]; rfl) (by simp only [Obs, and_true, true_and]) (by first | (simp only [kSpt, Con.of, Con.ofO, resV, hz', go_sem]; done) | fail) trivial rfl rfl))
      refine Tri.rel true 0 rfl ?_ rfl rfl ?_
      · simp only [AS.blk, go_sem]
        repeat' constructor
      refine Tri.at (by first | (simp only [htk, Con.start, go_sem]; rfl) | rfl) ?_
      refine Tri.ret ?_
      refine Con.fin (.inl rfl) (by simp only [Tryd.f115, cfgKP1, resA, resA1, go_sem]; rfl) (by simp only [Obs, and_true, true_and]) ?_ ?_ ?_ rfl
      · exact hV.symm
      · exact True.intro
      · show (AS.mk [some (spV d0)] []).closed = true
        rw [hV]; rfl
    · have hz' : decide ((0 : Int) < (d.length : Int)) = true := decide_eq_true (by omega)
      obtain ⟨k', rfl⟩ : ∃ k', k = k' + 1 := ⟨k - 1, by omega⟩
      rw [spF, if_neg hz] at hsp
      by_cases h1 : d.getD 0 0 = 0
      · have h1' : decide (d.getD 0 0 = 0) = true := decide_eq_true h1
        rw [if_pos h1] at hsp
        rw [hsp] at hV
        replace hV : spV d0 = .tuple [.nilsl, .int .i64 (21 : Int)] := hV
        refine Tri.at (by first | (simp only [hz', h1', Con.start, go_sem]; rfl) | rfl) ?_
        repeat (first | ((first | refine Tri.seq (Tri.regT (cfgKP1_ok.pins _) ?_) | refine Tri.rgnT (cfgKP1_ok.pins _) ?_); (repeat (first | refine RunT.oneA (hp := by simp (maxSteps := 2000000) (disch := first | decide | omega | (simp only [List.length_append, List.length_cons, List.length_nil, List.length_take, List.length_drop]; omega)) only [hz', h1', go_sem]; rfl) (h := ?_) | refine RunT.notA (h := ?_))); refine RunT.nil ?_; try simp only [InBlock, Then]) | refine Tri.cF (by first | (simp only [hz', h1', go_sem]; done) | fail) ?_ | refine Tri.cT (by first | (simp only [hz', h1', go_sem]; done) | fail) ?_ | (refine Tri.skip ?_; try simp only [InBlock, Then]) | (refine Tri.exit ?_; simp only [Then, InBlock, if_true, if_false, ↓reduceIte, Nat.reduceEqDiff]) | refine Tri.seq (Tri.block ?_) | refine Tri.block ?_ | refine Tri.seq ?_ | (refine Tri.ret ?_; refine Con.fin (.inl rfl) (by simp only [Tryd.f115, cfgKP1, resA, resA1, go_sem]; rfl) (by simp only [Obs, and_true, true_and]) (by first | (simp only [kSpt, Con.of, Con.ofO, resV, hz', h1', go_sem]; done) | fail) trivial rfl rfl))
        refine Tri.ret ?_
        refine Con.fin (.inl rfl) (by simp only [Tryd.f115, cfgKP1, resA, resA1, go_sem]; rfl) (by simp only [Obs, and_true, true_and]) ?_ ?_ ?_ rfl
        · exact hV.symm
        · exact True.intro
        · show (AS.mk [some (spV d0)] []).closed = true
          rw [hV]; rfl
      · have h1' : decide (d.getD 0 0 = 0) = false := decide_eq_false h1
        rw [if_neg h1] at hsp
        by_cases h2 : d.length < 3
        · have h2' : decide ((d.length : Int) < 3) = true := decide_eq_true (by omega)
          rw [if_pos h2] at hsp
          rw [hsp] at hV
          replace hV : spV d0 = .tuple [.nilsl, .int .i64 (20 : Int)] := hV
          refine Tri.at (by first | (simp only [hz', h1', h2', Con.start, go_sem]; rfl) | rfl) ?_
          repeat (first | ((first | refine Tri.seq (Tri.regT (cfgKP1_ok.pins _) ?_) | refine Tri.rgnT (cfgKP1_ok.pins _) ?_); (repeat (first | refine RunT.oneA (hp := by simp (maxSteps := 2000000) (disch := first | decide | omega | (simp only [List.length_append, List.length_cons, List.length_nil, List.length_take, List.length_drop]; omega)) only [hz', h1', h2', go_sem]; rfl) (h := ?_) | refine RunT.notA (h := ?_))); refine RunT.nil ?_; try simp only [InBlock, Then]) | refine Tri.cF (by first | (simp only [hz', h1', h2', go_sem]; done) | fail) ?_ | refine Tri.cT (by first | (simp only [hz', h1', h2', go_sem]; done) | fail) ?_ | (refine Tri.skip ?_; try simp only [InBlock, Then]) | (refine Tri.exit ?_; simp only [Then, InBlock, if_true, if_false, ↓reduceIte, Nat.reduceEqDiff]) | refine Tri.seq (Tri.block ?_) | refine Tri.block ?_ | refine Tri.seq ?_ | (refine Tri.ret ?_; refine Con.fin (.inl rfl) (by simp only [Tryd.f115, cfgKP1, resA, resA1, go_sem]; rfl) (by simp only [Obs, and_true, true_and]) (by first | (simp only [kSpt, Con.of, Con.ofO, resV, hz', h1', h2', go_sem]; done) | fail) trivial rfl rfl))
          refine Tri.ret ?_
          refine Con.fin (.inl rfl) (by simp only [Tryd.f115, cfgKP1, resA, resA1, go_sem]; rfl) (by simp only [Obs, and_true, true_and]) ?_ ?_ ?_ rfl
          · exact hV.symm
          · exact True.intro
          · show (AS.mk [some (spV d0)] []).closed = true
            rw [hV]; rfl
        · have h2' : decide ((d.length : Int) < 3) = false := decide_eq_false (by omega)
          rw [if_neg h2] at hsp
          have hor := sp_or (d.getD 1 0) (d.getD 2 0)
          have hn : (d.getD 1 0).toNat * 256 + (d.getD 2 0).toNat = spN d := rfl
          rw [hn] at hor
          have hr : List.take (d.length - 3) (List.drop 3 d) = List.drop 3 d := List.take_of_length_le (by rw [List.length_drop]; exact Nat.le_refl _)
          have hrl : (List.drop 3 d).length = d.length - 3 := List.length_drop ..
          by_cases h3 : d.length - 3 < spN d
          · have h3' : decide (((d.length - 3 : Nat) : Int) < (spN d : Int)) = true := decide_eq_true (by omega)
            rw [if_pos h3] at hsp
            rw [hsp] at hV
            replace hV : spV d0 = .tuple [.nilsl, .int .i64 (20 : Int)] := hV
            refine Tri.at (by first | (simp only [hz', h1', h2', hor, hr, hrl, h3', Con.start, go_sem]; rfl) | rfl) ?_
            repeat (first | ((first | refine Tri.seq (Tri.regT (cfgKP1_ok.pins _) ?_) | refine Tri.rgnT (cfgKP1_ok.pins _) ?_); (repeat (first | refine RunT.oneA (hp := by simp (maxSteps := 2000000) (disch := first | decide | omega | (simp only [List.length_append, List.length_cons, List.length_nil, List.length_take, List.length_drop]; omega)) only [hz', h1', h2', hor, hr, hrl, h3', go_sem]; rfl) (h := ?_) | refine RunT.notA (h := ?_))); refine RunT.nil ?_; try simp only [InBlock, Then]) | ((first | refine Tri.seq (Tri.drwT (mixed) (cfgKP1_ok.pins _) ?_) | refine Tri.drnT (mixed) (cfgKP1_ok.pins _) ?_); (repeat (first | refine RunD.oneA (hp := by simp (maxSteps := 2000000) (disch := first | decide | omega | (simp only [List.length_append, List.length_cons, List.length_nil, List.length_take, List.length_drop]; omega)) only [hz', h1', h2', hor, hr, hrl, h3', go_sem]; rfl) (h := ?_) | refine RunD.notA (h := ?_))); refine RunD.nil ?_; refine ⟨by kernel_rfl, ?_⟩; try simp only [InBlock, Then]) | refine Tri.cF (by first | (simp only [hz', h1', h2', hor, hr, hrl, h3', go_sem]; done) | fail) ?_ | refine Tri.cT (by first | (simp only [hz', h1', h2', hor, hr, hrl, h3', go_sem]; done) | fail) ?_ | (refine Tri.skip ?_; try simp only [InBlock, Then]) | (refine Tri.exit ?_; simp only [Then, InBlock, if_true, if_false, ↓reduceIte, Nat.reduceEqDiff]) | refine Tri.seq (Tri.block ?_) | refine Tri.block ?_ | refine Tri.seq ?_ | (refine Tri.ret ?_; refine Con.fin (.inl rfl) (by simp only [Tryd.f115, cfgKP1, resA, resA1, go_sem]; rfl) (by simp only [Obs, and_true, true_and]) (by first | (simp only [kSpt, Con.of, Con.ofO, resV, hz', h1', h2', hor, hr, hrl, h3', go_sem]; done) | fail) trivial rfl rfl))
            refine Tri.ret ?_
            refine Con.fin (.inl rfl) (by simp only [Tryd.f115, cfgKP1, resA, resA1, go_sem]; rfl) (by simp only [Obs, and_true, true_and]) ?_ ?_ ?_ rfl
            · exact hV.symm
            · exact True.intro
            · show (AS.mk [some (spV d0)] []).closed = true
              rw [hV]; rfl
          · have h3' : decide (((d.length - 3 : Nat) : Int) < (spN d : Int)) = false := decide_eq_false (by omega)
            rw [if_neg h3] at hsp
            have hcl : (List.take (spN d) (List.drop 3 d)).length ≤ 140737488355328 := by rw [List.length_take, hrl]; omega
            have hr2 : List.take (d.length - 3 - spN d) (List.drop (spN d) (List.drop 3 d)) = List.drop (spN d) (List.drop 3 d) := List.take_of_length_le (by rw [List.length_drop, hrl]; exact Nat.le_refl _)
            refine Tri.at (by first | (simp only [hz', h1', h2', hor, hr, hrl, h3', htk, hr2, Nat.sub_zero, Con.start, go_sem]; rfl) | rfl) ?_
            repeat (first | ((first | refine Tri.seq (Tri.regT (cfgKP1_ok.pins _) ?_) | refine Tri.rgnT (cfgKP1_ok.pins _) ?_); (repeat (first | refine RunT.oneA (hp := by simp (maxSteps := 2000000) (disch := first | decide | omega | (simp only [List.length_append, List.length_cons, List.length_nil, List.length_take, List.length_drop]; omega)) only [hz', h1', h2', hor, hr, hrl, h3', htk, hr2, Nat.sub_zero, go_sem]; rfl) (h := ?_) | refine RunT.notA (h := ?_))); refine RunT.nil ?_; try simp only [InBlock, Then]) | ((first | refine Tri.seq (Tri.drwT (mixed) (cfgKP1_ok.pins _) ?_) | refine Tri.drnT (mixed) (cfgKP1_ok.pins _) ?_); (repeat (first | refine RunD.oneA (hp := by simp (maxSteps := 2000000) (disch := first | decide | omega | (simp only [List.length_append, List.length_cons, List.length_nil, List.length_take, List.length_drop]; omega)) only [hz', h1', h2', hor, hr, hrl, h3', htk, hr2, Nat.sub_zero, go_sem]; rfl) (h := ?_) | refine RunD.notA (h := ?_))); refine RunD.nil ?_; refine ⟨by kernel_rfl, ?_⟩; try simp only [InBlock, Then]) | refine Tri.cF (by first | (simp only [hz', h1', h2', hor, hr, hrl, h3', htk, hr2, Nat.sub_zero, go_sem]; done) | fail) ?_ | refine Tri.cT (by first | (simp only [hz', h1', h2', hor, hr, hrl, h3', htk, hr2, Nat.sub_zero, go_sem]; done) | fail) ?_ | (refine Tri.skip ?_; try simp only [InBlock, Then]) | (refine Tri.exit ?_; simp only [Then, InBlock, if_true, if_false, ↓reduceIte, Nat.reduceEqDiff]) | refine Tri.seq (Tri.block ?_) | refine Tri.block ?_ | refine Tri.seq ?_ | (refine Tri.ret ?_; refine Con.fin (.inl rfl) (by simp only [Tryd.f115, cfgKP1, resA, resA1, go_sem]; rfl) (by simp only [Obs, and_true, true_and]) (by first | (simp only [kSpt, Con.of, Con.ofO, resV, hz', h1', h2', hor, hr, hrl, h3', htk, hr2, Nat.sub_zero, go_sem]; done) | fail) trivial rfl rfl))
            refine ⟨(k', List.drop (spN d) (List.drop 3 d), acc ++ [((((d.getD 0 0).toNat : Int), List.take (spN d) (List.drop 3 d), ()) : flK.T)]), ⟨(by show (List.drop (spN d) (List.drop 3 d)).length ≤ k'; rw [List.length_drop, hrl]; omega), (by show k' ≤ d0.length; omega), (by show (acc ++ [((((d.getD 0 0).toNat : Int), List.take (spN d) (List.drop 3 d), ()) : flK.T)]).length + k' ≤ d0.length; rw [List.length_append]; show acc.length + 1 + k' ≤ d0.length; omega), hsp⟩, (by show k' < k' + 1; omega), Wk.of ?_ ?_ rfl rfl⟩
            · simp only [lessTs, List.reduceReplicate, List.cons_append, List.nil_append, List.length_append, List.length_cons, List.length_nil] <;> ((repeat' apply And.intro) <;> first | with_reducible rfl | exact True.intro | exact congrArg (fun z : Int => some (AV.int IntKind.i64 z)) (show (_ : Int) = _ by omega) | exact congrArg (fun z : Nat => some (AV.tsl _ _ _ _ _ z)) (show (_ : Nat) = _ by omega) | exact arrEq (by omega) (by with_reducible rfl))
            · exact ⟨arrEq (by show acc.length + 1 = (acc ++ [((((d.getD 0 0).toNat : Int), List.take (spN d) (List.drop 3 d), ()) : flK.T)]).length; rw [List.length_append]; rfl) rfl, trivial⟩
theorem spt_sum : FSumOK Tryd.prog cfgKP1.G 115 kSpt.sum := Con.sumOK cfgKP1_ok kSpt Tryd.func115 rfl rfl (Con.of_inv _ _ _) spt_body
end
end Go.Proofs.YtlnkfdblkdhdgaaDoor

namespace Go.Proofs.YtlnkfdblkdhdgaaDoor
open Go.Vc Go.Proofs
set_option maxRecDepth 10000
set_option maxHeartbeats 4000000
def teS (f : flK.T) (t : Int) : Bool := decide ((f.1 : Int) = t)
def kTe : Con := Con.of [.v flK, .v (.int .i64)] (fun _ => []) (fun x => ⟨.bool (teS x.1 (toI .i64 x.2.1)), []⟩)
def cfgTC2 : Cfg2 := { ty := tyTabM, fn := fun  | _ => none, G := shaG, pin := [], eq := fun _ => none }
theorem cfgTC2_ok : CfgOK Tryd.prog cfgTC2 := ⟨tyTabM_ok, (fun f s h => by cases h), (fun t d h => by cases h)⟩
section
attribute [local go_sem] Tryd.f117 kTe cfgTC2 tyTabM tyTabS
theorem tge_body (p : kTe.Par) (hp : ∀ q ∈ kTe.pre p, q) : BodyOK Tryd.prog cfgTC2 Tryd.f117 (Tryd.f117.body.get rfl) kTe p := by
  obtain ⟨⟨(t : Int), (v : List UInt8), u1⟩, (g : Int), u⟩ := p
  refine ⟨?_, Nat.zero_le _, rfl, rfl⟩
  show Tri _ _ _ (Code.seq _ (Code.seq _ _)) _
  refine Tri.at (by first | (simp only [go_sem, Con.start, go_sem]; rfl) | rfl) ?_
  repeat (first | ((first | refine Tri.seq (Tri.regT (cfgTC2_ok.pins _) ?_) | refine Tri.rgnT (cfgTC2_ok.pins _) ?_); (repeat (first | refine RunT.oneA (hp := by simp (maxSteps := 2000000) (disch := first | decide | omega | (simp only [List.length_append, List.length_cons, List.length_nil, List.length_take, List.length_drop]; omega)) only [go_sem, go_sem]; rfl) (h := ?_) | refine RunT.notA (h := ?_))); refine RunT.nil ?_; try simp only [InBlock, Then]) | refine Tri.cF (by first | (simp only [go_sem, go_sem]; done) | fail) ?_ | refine Tri.cT (by first | (simp only [go_sem, go_sem]; done) | fail) ?_ | (refine Tri.skip ?_; try simp only [InBlock, Then]) | (refine Tri.exit ?_; simp only [Then, InBlock, if_true, if_false, ↓reduceIte, Nat.reduceEqDiff]) | refine Tri.seq (Tri.block ?_) | refine Tri.block ?_ | refine Tri.seq ?_ | (refine Tri.ret ?_; refine Con.fin (.inl rfl) (by simp only [Tryd.f117, cfgTC2, resA, resA1, go_sem]; rfl) (by simp only [Obs, and_true, true_and]) (by first | (simp only [kTe, Con.of, Con.ofO, resV, go_sem, go_sem]; done) | fail) trivial rfl rfl))
  refine Tri.ret ?_
  refine Con.fin (.inl rfl) (by simp only [Tryd.f117, cfgTC2, resA, resA1, go_sem]; rfl) (by simp only [Obs, and_true, true_and]) ?_ ?_ rfl rfl
  · rfl
  · exact True.intro
theorem tge_sum : FSumOK Tryd.prog cfgTC2.G 117 kTe.sum := Con.sumOK cfgTC2_ok kTe Tryd.func117 rfl rfl (Con.of_inv _ _ _) tge_body
end
def eqF : List flK.T → List Int → Bool
  | [], [] => true
  | f :: r, t :: s => teS f t && eqF r s
  | _, _ => false
theorem eqF_take (fs : List flK.T) (ts : List Int) (hl : fs.length = ts.length) (i : Nat) (h : i < fs.length) : eqF (fs.take (i + 1)) (ts.take (i + 1)) = (eqF (fs.take i) (ts.take i) && teS (fs.getD i (0, [], ())) (ts.getD i 0)) := by
  induction i generalizing fs ts with
  | zero =>
    cases fs with
    | nil => cases h
    | cons f r =>
      cases ts with
      | nil => cases hl
      | cons t s => simp [eqF]
  | succ i ih =>
    cases fs with
    | nil => cases h
    | cons f r =>
      cases ts with
      | nil => cases hl
      | cons t s =>
        have := ih r s (by simpa using hl) (by simpa using h)
        simp only [List.take_succ_cons, eqF, List.getD_cons_succ]
        rw [this, Bool.and_assoc]
theorem eqF_false {fs : List flK.T} {ts : List Int} (hl : fs.length = ts.length) : ∀ {i : Nat}, eqF (fs.take i) (ts.take i) = false → eqF fs ts = false := by
  intro i h
  induction i generalizing fs ts with
  | zero => cases h
  | succ i ih =>
    cases fs with
    | nil =>
      cases ts with
      | nil => cases h
      | cons t s => rfl
    | cons f r =>
      cases ts with
      | nil => rfl
      | cons t s =>
        simp only [List.take_succ_cons, eqF] at h ⊢
        rw [Bool.and_eq_false_iff] at h ⊢
        rcases h with h | h
        · exact .inl h
        · exact .inr (ih (by simpa using hl) h)
theorem eqF_len {fs : List flK.T} {ts : List Int} (hl : fs.length ≠ ts.length) : eqF fs ts = false := by
  induction fs generalizing ts with
  | nil =>
    cases ts with
    | nil => exact absurd rfl hl
    | cons t s => rfl
  | cons f r ih =>
    cases ts with
    | nil => rfl
    | cons t s =>
      rw [eqF, ih (by simpa using hl), Bool.and_false]
def kEqF : Con := Con.ofO [.a (.v (.slice false flK)), .a (.v (.slice false (.int .i64))), .fv 117] [] (fun x => [List.length (α := flK.T) x.1 ≤ 9223372036854775807, List.length (α := Int) x.2.1 ≤ 9223372036854775807]) (fun x => ⟨.bool (eqF x.1 x.2.1), []⟩)
def cfgTC3 : Cfg2 := { ty := tyTabM, fn := fun | 117 => some kTe.sum | _ => none, G := shaG, pin := [], eq := fun _ => none }
theorem cfgTC3_ok : CfgOK Tryd.prog cfgTC3 := ⟨tyTabM_ok, (fun f s h => by
  simp only [cfgTC3] at h
  split at h
  · injection h with h; subst h; exact .inl tge_sum
  · cases h), (fun t d h => by cases h)⟩
section
attribute [local go_sem] Tryd.f116 kEqF kTe cfgTC3 tyTabM tyTabS
theorem eqf_body (p : kEqF.Par) (hp : ∀ q ∈ kEqF.pre p, q) : BodyOK Tryd.prog cfgTC3 Tryd.f116 (Tryd.f116.body.get rfl) kEqF p := by
  obtain ⟨(fs : List flK.T), (ts : List Int), (u0 : Unit), u⟩ := p
  obtain ⟨h0, h1, _⟩ := Obs.of hp
  replace h0 : fs.length ≤ 9223372036854775807 := h0
  replace h1 : ts.length ≤ 9223372036854775807 := h1
  refine ⟨?_, Nat.zero_le _, rfl, rfl⟩
  show Tri _ _ _ (Code.seq _ (Code.seq (Code.seq _ (Code.cond _ (Code.seq _ _) _)) (Code.seq (Code.seq _ (Code.block _ (Code.loop (Code.seq _ (Code.seq (Code.cond _ _ _) (Code.seq (Code.block _ (Code.seq _ (Code.seq _ (Code.seq _ (Code.cond _ (Code.seq _ _) _))))) _)))))) (Code.seq _ _)))) _
  by_cases hl : fs.length = ts.length
  · have hl' : decide (((fs.length : Nat) : Int) = ((ts.length : Nat) : Int)) = true := decide_eq_true (by omega)
    refine Tri.at (by first | (simp only [hl', Con.start, go_sem]; rfl) | rfl) ?_
    repeat (first | ((first | refine Tri.seq (Tri.regT (cfgTC3_ok.pins _) ?_) | refine Tri.rgnT (cfgTC3_ok.pins _) ?_); (repeat (first | refine RunT.oneA (hp := by simp (maxSteps := 2000000) (disch := first | decide | omega | (simp only [List.length_append, List.length_cons, List.length_nil, List.length_take, List.length_drop]; omega)) only [hl', go_sem]; rfl) (h := ?_) | refine RunT.notA (h := ?_))); refine RunT.nil ?_; try simp only [InBlock, Then]) | refine Tri.cF (by first | (simp only [hl', go_sem]; done) | fail) ?_ | refine Tri.cT (by first | (simp only [hl', go_sem]; done) | fail) ?_ | (refine Tri.skip ?_; try simp only [InBlock, Then]) | (refine Tri.exit ?_; simp only [Then, InBlock, if_true, if_false, ↓reduceIte, Nat.reduceEqDiff]) | refine Tri.seq (Tri.block ?_) | refine Tri.block ?_ | refine Tri.seq ?_ | (refine Tri.ret ?_; refine Con.fin (.inl rfl) (by simp only [Tryd.f116, cfgTC3, resA, resA1, go_sem]; rfl) (by simp only [Obs, and_true, true_and]) (by first | (simp only [kEqF, Con.of, Con.ofO, resV, hl', go_sem]; done) | fail) trivial rfl rfl))
    refine Tri.loop (fun i : Nat => (⟨[some (.pure (.slice false flK) fs), some (.pure (.slice false (.int .i64)) ts), some (.func (.func 117) [] []), none, none, none, some (.bool false), none, none, none, none, none, none, none, none, some (.pure (.slice false flK) fs), some (.int .i64 (fs.length : Int)), some (.int .i64 (i : Int))] ++ List.replicate 14 none, []⟩ : AS)) (fun i => i ≤ fs.length ∧ eqF (fs.take i) (ts.take i) = true) (fun i => fs.length - i) 0 ?_ ⟨Nat.zero_le _, rfl⟩ ?_
    · refine Wk.of ?_ ?_ rfl rfl
      · simp only [lessTs, List.reduceReplicate, List.cons_append, List.nil_append] <;> ((repeat' apply And.intro) <;> first | with_reducible rfl | exact True.intro | exact congrArg (fun z : Int => some (AV.int IntKind.i64 z)) (show (_ : Int) = _ by omega) | exact congrArg (fun z : Nat => some (AV.tsl _ _ _ _ _ z)) (show (_ : Nat) = _ by omega) | exact arrEq (by omega) (by with_reducible rfl))
      · simp only [lessHs] <;> ((repeat' apply And.intro) <;> first | with_reducible rfl | exact True.intro | exact congrArg (fun z : Int => some (AV.int IntKind.i64 z)) (show (_ : Int) = _ by omega) | exact congrArg (fun z : Nat => some (AV.tsl _ _ _ _ _ z)) (show (_ : Nat) = _ by omega) | exact arrEq (by omega) (by with_reducible rfl))
    · intro i ⟨hi, ha⟩
      by_cases hc : i < fs.length
      · have hc' : decide ((i : Int) < (fs.length : Int)) = true := decide_eq_true (by omega)
        have hst := eqF_take fs ts hl i hc
        rw [ha, Bool.true_and] at hst
        have hfl := eqF_false (fs := fs) (ts := ts) hl (i := i + 1)
        generalize hfd : fs.getD i (0, [], ()) = f at *
        obtain ⟨(tg : Int), (vl : List UInt8), u1⟩ := f
        generalize htd : ts.getD i 0 = t at *
        cases hd : teS (tg, vl, u1) t with
        | true =>
          refine Tri.at (by first | (simp only [hc', hfd, htd, hd, Con.start, go_sem]; rfl) | rfl) ?_
          repeat (first | ((first | refine Tri.seq (Tri.regT (cfgTC3_ok.pins _) ?_) | refine Tri.rgnT (cfgTC3_ok.pins _) ?_); (repeat (first | refine RunT.oneA (hp := by simp (maxSteps := 2000000) (disch := first | decide | omega | (simp only [List.length_append, List.length_cons, List.length_nil, List.length_take, List.length_drop]; omega)) only [hc', hfd, htd, hd, go_sem]; rfl) (h := ?_) | refine RunT.notA (h := ?_))); refine RunT.nil ?_; try simp only [InBlock, Then]) | refine Tri.cF (by first | (simp only [hc', hfd, htd, hd, go_sem]; done) | fail) ?_ | refine Tri.cT (by first | (simp only [hc', hfd, htd, hd, go_sem]; done) | fail) ?_ | (refine Tri.skip ?_; try simp only [InBlock, Then]) | (refine Tri.exit ?_; simp only [Then, InBlock, if_true, if_false, ↓reduceIte, Nat.reduceEqDiff]) | refine Tri.seq (Tri.block ?_) | refine Tri.block ?_ | refine Tri.seq ?_ | (refine Tri.ret ?_; refine Con.fin (.inl rfl) (by simp only [Tryd.f116, cfgTC3, resA, resA1, go_sem]; rfl) (by simp only [Obs, and_true, true_and]) (by first | (simp only [kEqF, Con.of, Con.ofO, resV, hc', hfd, htd, hd, go_sem]; done) | fail) trivial rfl rfl))
          refine ⟨i + 1, ⟨(by omega), (by rw [hst, hd])⟩, (by omega), Wk.of ?_ ?_ rfl rfl⟩
          · simp only [lessTs, List.reduceReplicate, List.cons_append, List.nil_append] <;> ((repeat' apply And.intro) <;> first | with_reducible rfl | exact True.intro | exact congrArg (fun z : Int => some (AV.int IntKind.i64 z)) (show (_ : Int) = _ by omega) | exact congrArg (fun z : Nat => some (AV.tsl _ _ _ _ _ z)) (show (_ : Nat) = _ by omega) | exact arrEq (by omega) (by with_reducible rfl))
          · trivial
        | false =>
          have e : eqF fs ts = false := hfl (by rw [hst, hd])
          refine Tri.at (by first | (simp only [hc', hfd, htd, hd, e, Con.start, go_sem]; rfl) | rfl) ?_
          repeat (first | ((first | refine Tri.seq (Tri.regT (cfgTC3_ok.pins _) ?_) | refine Tri.rgnT (cfgTC3_ok.pins _) ?_); (repeat (first | refine RunT.oneA (hp := by simp (maxSteps := 2000000) (disch := first | decide | omega | (simp only [List.length_append, List.length_cons, List.length_nil, List.length_take, List.length_drop]; omega)) only [hc', hfd, htd, hd, e, go_sem]; rfl) (h := ?_) | refine RunT.notA (h := ?_))); refine RunT.nil ?_; try simp only [InBlock, Then]) | refine Tri.cF (by first | (simp only [hc', hfd, htd, hd, e, go_sem]; done) | fail) ?_ | refine Tri.cT (by first | (simp only [hc', hfd, htd, hd, e, go_sem]; done) | fail) ?_ | (refine Tri.skip ?_; try simp only [InBlock, Then]) | (refine Tri.exit ?_; simp only [Then, InBlock, if_true, if_false, ↓reduceIte, Nat.reduceEqDiff]) | refine Tri.seq (Tri.block ?_) | refine Tri.block ?_ | refine Tri.seq ?_ | (refine Tri.ret ?_; refine Con.fin (.inl rfl) (by simp only [Tryd.f116, cfgTC3, resA, resA1, go_sem]; rfl) (by simp only [Obs, and_true, true_and]) (by first | (simp only [kEqF, Con.of, Con.ofO, resV, hc', hfd, htd, hd, e, go_sem]; done) | fail) trivial rfl rfl))
      · have hc' : decide ((i : Int) < (fs.length : Int)) = false := decide_eq_false (by omega)
        rw [List.take_of_length_le (by omega), List.take_of_length_le (by omega)] at ha
        refine Tri.at (by first | (simp only [hc', ha, Con.start, go_sem]; rfl) | rfl) ?_
        repeat (first | ((first | refine Tri.seq (Tri.regT (cfgTC3_ok.pins _) ?_) | refine Tri.rgnT (cfgTC3_ok.pins _) ?_); (repeat (first | refine RunT.oneA (hp := by simp (maxSteps := 2000000) (disch := first | decide | omega | (simp only [List.length_append, List.length_cons, List.length_nil, List.length_take, List.length_drop]; omega)) only [hc', ha, go_sem]; rfl) (h := ?_) | refine RunT.notA (h := ?_))); refine RunT.nil ?_; try simp only [InBlock, Then]) | refine Tri.cF (by first | (simp only [hc', ha, go_sem]; done) | fail) ?_ | refine Tri.cT (by first | (simp only [hc', ha, go_sem]; done) | fail) ?_ | (refine Tri.skip ?_; try simp only [InBlock, Then]) | (refine Tri.exit ?_; simp only [Then, InBlock, if_true, if_false, ↓reduceIte, Nat.reduceEqDiff]) | refine Tri.seq (Tri.block ?_) | refine Tri.block ?_ | refine Tri.seq ?_ | (refine Tri.ret ?_; refine Con.fin (.inl rfl) (by simp only [Tryd.f116, cfgTC3, resA, resA1, go_sem]; rfl) (by simp only [Obs, and_true, true_and]) (by first | (simp only [kEqF, Con.of, Con.ofO, resV, hc', ha, go_sem]; done) | fail) trivial rfl rfl))
  · have hl' : decide (((fs.length : Nat) : Int) = ((ts.length : Nat) : Int)) = false := decide_eq_false (by omega)
    have e := eqF_len hl
    refine Tri.at (by first | (simp only [hl', e, Con.start, go_sem]; rfl) | rfl) ?_
    repeat (first | ((first | refine Tri.seq (Tri.regT (cfgTC3_ok.pins _) ?_) | refine Tri.rgnT (cfgTC3_ok.pins _) ?_); (repeat (first | refine RunT.oneA (hp := by simp (maxSteps := 2000000) (disch := first | decide | omega | (simp only [List.length_append, List.length_cons, List.length_nil, List.length_take, List.length_drop]; omega)) only [hl', e, go_sem]; rfl) (h := ?_) | refine RunT.notA (h := ?_))); refine RunT.nil ?_; try simp only [InBlock, Then]) | refine Tri.cF (by first | (simp only [hl', e, go_sem]; done) | fail) ?_ | refine Tri.cT (by first | (simp only [hl', e, go_sem]; done) | fail) ?_ | (refine Tri.skip ?_; try simp only [InBlock, Then]) | (refine Tri.exit ?_; simp only [Then, InBlock, if_true, if_false, ↓reduceIte, Nat.reduceEqDiff]) | refine Tri.seq (Tri.block ?_) | refine Tri.block ?_ | refine Tri.seq ?_ | (refine Tri.ret ?_; refine Con.fin (.inl rfl) (by simp only [Tryd.f116, cfgTC3, resA, resA1, go_sem]; rfl) (by simp only [Obs, and_true, true_and]) (by first | (simp only [kEqF, Con.of, Con.ofO, resV, hl', e, go_sem]; done) | fail) trivial rfl rfl))
theorem eqf_sum : FSumOK Tryd.prog cfgTC3.G 116 kEqF.sum := Con.sumOK cfgTC3_ok kEqF Tryd.func116 rfl rfl (Con.ofO_inv _ _ _ _) eqf_body
end
def vlL (fs : List flK.T) : List (List UInt8) := fs.map fun f => f.2.1
def vlV (d : List UInt8) (ts : List Int) : AV := match spF d.length d [] with
  | (none, e) => .tuple [.nilsl, .int .i64 e]
  | (some fs, _) => if eqF fs ts = true then .tuple [.pure (.slice true (.slice true (.int .u8))) (vlL fs), .int .i64 (0 : Int)] else .tuple [.nilsl, .int .i64 (21 : Int)]
def kVls : Con := Con.of [.v (.slice false (.int .u8)), .v (.slice false (.int .i64))] (fun x => [List.length (α := UInt8) x.1 ≤ 1000000, List.length (α := Int) x.2.1 ≤ 1000]) (fun x => ⟨vlV x.1 x.2.1, []⟩)
theorem spF_err : ∀ (k : Nat) (d : List UInt8) (acc : List flK.T) (e : Int), spF k d acc = (none, e) → e = 21 ∨ e = 20
  | 0, d, acc, e, h => by simp [spF] at h
  | k + 1, d, acc, e, h => by
    rw [spF] at h
    split at h
    · simp at h
    · split at h
      · injection h with _ h; exact .inl h.symm
      · split at h
        · injection h with _ h; exact .inr h.symm
        · split at h
          · injection h with _ h; exact .inr h.symm
          · exact spF_err k _ _ e h
theorem spF_many : ∀ (k : Nat) (d : List UInt8) (acc fs : List flK.T) (e : Int), spF k d acc = (some fs, e) → fs.length ≤ acc.length + k
  | 0, d, acc, fs, e, h => by
    simp only [spF, Prod.mk.injEq, Option.some.injEq] at h
    rw [← h.1]; exact Nat.le_refl _
  | k + 1, d, acc, fs, e, h => by
    rw [spF] at h
    split at h
    · simp only [Prod.mk.injEq, Option.some.injEq] at h
      rw [← h.1]; exact Nat.le_add_right _ _
    · split at h
      · cases h
      · split at h
        · cases h
        · split at h
          · cases h
          · have := spF_many k _ _ fs e h
            rw [List.length_append] at this
            simp only [List.length_cons, List.length_nil] at this
            omega
theorem vlL_take (fs : List flK.T) (i : Nat) (h : i < fs.length) : vlL (fs.take (i + 1)) = vlL (fs.take i) ++ [(fs.getD i (0, [], ())).2.1] := by
  rw [List.take_add_one, List.getElem?_eq_getElem h, Option.toList_some, vlL, List.map_append, List.getD_eq_getElem?_getD, List.getElem?_eq_getElem h]
  rfl
def cfgTC4 : Cfg2 := { ty := tyTabV, fn := fun | 115 => some kSpt.sum | 116 => some kEqF.sum | _ => none, G := shaG, pin := [], eq := fun _ => none }
theorem cfgTC4_ok : CfgOK Tryd.prog cfgTC4 := ⟨tyTabV_ok, (fun f s h => by
  simp only [cfgTC4] at h
  split at h
  · injection h with h; subst h; exact .inl spt_sum
  · injection h with h; subst h; exact .inl eqf_sum
  · cases h), (fun t d h => by cases h)⟩
section
attribute [local go_sem] Tryd.f81 kVls kSpt kEqF cfgTC4 tyTabV tyTabM tyTabS
theorem vls_body (p : kVls.Par) (hp : ∀ q ∈ kVls.pre p, q) : BodyOK Tryd.prog cfgTC4 Tryd.f81 (Tryd.f81.body.get rfl) kVls p := by
  obtain ⟨(d : List UInt8), (ts : List Int), u⟩ := p
  obtain ⟨h0, h1, _⟩ := Obs.of hp
  replace h0 : d.length ≤ 1000000 := h0
  replace h1 : ts.length ≤ 1000 := h1
  refine ⟨?_, Nat.zero_le _, (by show (vlV d ts).strict = true; unfold vlV; split; · rfl
                                 · split <;> rfl), rfl⟩
  show Tri _ _ _ (Code.seq _ (Code.seq _ (Code.seq (Code.seq _ (Code.cond _ (Code.seq _ _) _)) (Code.seq (Code.seq _ (Code.cond _ (Code.seq _ _) _)) (Code.seq (Code.seq _ (Code.block _ (Code.loop (Code.seq _ (Code.seq (Code.cond _ _ _) (Code.seq (Code.block _ (Code.seq _ _)) _)))))) (Code.seq _ _)))))) _
  have z0 : decide ((0 : Int) = 0) = true := rfl
  cases hq : spF d.length d [] with
  | mk q e =>
  cases q with
  | none =>
    have e1 : spV d = .tuple [.nilsl, .int .i64 e] := by rw [spV, hq]
    have v1 : vlV d ts = .tuple [.nilsl, .int .i64 e] := by rw [vlV, hq]
    have he : decide (e = 0) = false := by
      rcases spF_err _ _ _ _ hq with h | h <;> (rw [h]; rfl)
    refine Tri.at (by first | (simp only [e1, he, Con.start, go_sem]; rfl) | rfl) ?_
    repeat (first | ((first | refine Tri.seq (Tri.regT (cfgTC4_ok.pins _) ?_) | refine Tri.rgnT (cfgTC4_ok.pins _) ?_); (repeat (first | refine RunT.oneA (hp := by simp (maxSteps := 2000000) (disch := first | decide | omega | (simp only [List.length_append, List.length_cons, List.length_nil, List.length_take, List.length_drop]; omega)) only [e1, he, go_sem]; rfl) (h := ?_) | refine RunT.notA (h := ?_))); refine RunT.nil ?_; try simp only [InBlock, Then]) | refine Tri.cF (by first | (simp only [e1, he, go_sem]; done) | fail) ?_ | refine Tri.cT (by first | (simp only [e1, he, go_sem]; done) | fail) ?_ | (refine Tri.skip ?_; try simp only [InBlock, Then]) | (refine Tri.exit ?_; simp only [Then, InBlock, if_true, if_false, ↓reduceIte, Nat.reduceEqDiff]) | refine Tri.seq (Tri.block ?_) | refine Tri.block ?_ | refine Tri.seq ?_ | (refine Tri.ret ?_; refine Con.fin (.inl rfl) (by simp only [Tryd.f81, cfgTC4, resA, resA1, go_sem]; rfl) (by simp only [Obs, and_true, true_and]) (by first | (simp only [kVls, Con.of, Con.ofO, resV, e1, he, go_sem]; done) | fail) trivial rfl rfl))
    refine Tri.ret ?_
    refine Con.fin (.inl rfl) (by simp only [Tryd.f81, cfgTC4, resA, resA1, go_sem]; rfl) (by simp only [Obs, and_true, true_and]) ?_ ?_ ?_ rfl
    · exact v1.symm
    · exact True.intro
    · show (AS.mk [some (vlV d ts)] []).closed = true
      rw [v1]; rfl
  | some fs =>
    have e1 : spV d = .tuple [.pure (.slice true flK) fs, .int .i64 (0 : Int)] := by rw [spV, hq]
    have hfl : fs.length ≤ 1000000 := by
      have := spF_many _ _ _ _ _ hq
      rw [List.length_nil] at this
      omega
    cases hx : eqF fs ts with
    | false =>
      have v1 : vlV d ts = .tuple [.nilsl, .int .i64 (21 : Int)] := by rw [vlV, hq]; show (if eqF fs ts = true then _ else _) = _; rw [hx]; rfl
      refine Tri.at (by first | (simp only [e1, z0, hx, Con.start, go_sem]; rfl) | rfl) ?_
      repeat (first | ((first | refine Tri.seq (Tri.regT (cfgTC4_ok.pins _) ?_) | refine Tri.rgnT (cfgTC4_ok.pins _) ?_); (repeat (first | refine RunT.oneA (hp := by simp (maxSteps := 2000000) (disch := first | decide | omega | (simp only [List.length_append, List.length_cons, List.length_nil, List.length_take, List.length_drop]; omega)) only [e1, z0, hx, go_sem]; rfl) (h := ?_) | refine RunT.notA (h := ?_))); refine RunT.nil ?_; try simp only [InBlock, Then]) | refine Tri.cF (by first | (simp only [e1, z0, hx, go_sem]; done) | fail) ?_ | refine Tri.cT (by first | (simp only [e1, z0, hx, go_sem]; done) | fail) ?_ | (refine Tri.skip ?_; try simp only [InBlock, Then]) | (refine Tri.exit ?_; simp only [Then, InBlock, if_true, if_false, ↓reduceIte, Nat.reduceEqDiff]) | refine Tri.seq (Tri.block ?_) | refine Tri.block ?_ | refine Tri.seq ?_ | (refine Tri.ret ?_; refine Con.fin (.inl rfl) (by simp only [Tryd.f81, cfgTC4, resA, resA1, go_sem]; rfl) (by simp only [Obs, and_true, true_and]) (by first | (simp only [kVls, Con.of, Con.ofO, resV, e1, z0, hx, go_sem]; done) | fail) trivial rfl rfl))
      refine Tri.ret ?_
      refine Con.fin (.inl rfl) (by simp only [Tryd.f81, cfgTC4, resA, resA1, go_sem]; rfl) (by simp only [Obs, and_true, true_and]) ?_ ?_ ?_ rfl
      · exact v1.symm
      · exact True.intro
      · show (AS.mk [some (vlV d ts)] []).closed = true
        rw [v1]; rfl
    | true =>
      have v1 : vlV d ts = .tuple [.pure (.slice true (.slice true (.int .u8))) (vlL fs), .int .i64 (0 : Int)] := by rw [vlV, hq]; show (if eqF fs ts = true then _ else _) = _; rw [hx]; rfl
      refine Tri.at (by first | (simp only [e1, z0, hx, Con.start, go_sem]; rfl) | rfl) ?_
      repeat (first | ((first | refine Tri.seq (Tri.regT (cfgTC4_ok.pins _) ?_) | refine Tri.rgnT (cfgTC4_ok.pins _) ?_); (repeat (first | refine RunT.oneA (hp := by simp (maxSteps := 2000000) (disch := first | decide | omega | (simp only [List.length_append, List.length_cons, List.length_nil, List.length_take, List.length_drop]; omega)) only [e1, z0, hx, go_sem]; rfl) (h := ?_) | refine RunT.notA (h := ?_))); refine RunT.nil ?_; try simp only [InBlock, Then]) | refine Tri.cF (by first | (simp only [e1, z0, hx, go_sem]; done) | fail) ?_ | refine Tri.cT (by first | (simp only [e1, z0, hx, go_sem]; done) | fail) ?_ | (refine Tri.skip ?_; try simp only [InBlock, Then]) | (refine Tri.exit ?_; simp only [Then, InBlock, if_true, if_false, ↓reduceIte, Nat.reduceEqDiff]) | refine Tri.seq (Tri.block ?_) | refine Tri.block ?_ | refine Tri.seq ?_ | (refine Tri.ret ?_; refine Con.fin (.inl rfl) (by simp only [Tryd.f81, cfgTC4, resA, resA1, go_sem]; rfl) (by simp only [Obs, and_true, true_and]) (by first | (simp only [kVls, Con.of, Con.ofO, resV, e1, z0, hx, go_sem]; done) | fail) trivial rfl rfl))
      refine Tri.phT 4 (.slice true (.int .u8)) 1 rfl rfl ?_
      refine Tri.loop (fun i : Nat => (⟨[none, none, none, none, some (.tsl 0 [] 0 0 1 (vlL (fs.take i)).length), some (.int .i64 (0 : Int)), none, none, none, none, none, none, none, none, none, none, none, none, none, none, none, some (.pure (.slice true flK) fs), some (.int .i64 (fs.length : Int)), some (.int .i64 (i : Int))] ++ List.replicate 10 none, [.live (.pure (.arr (vlL (fs.take i)).length (.slice true (.int .u8))) (vlL (fs.take i)))]⟩ : AS)) (fun i => i ≤ fs.length) (fun i => fs.length - i) 0 ?_ (Nat.zero_le _) ?_
      · have hj0 : vlL (fs.take 0) = [] := rfl
        refine Wk.of ?_ ?_ rfl rfl
        · simp only [lessTs, List.reduceReplicate, List.cons_append, List.nil_append, hj0, List.length_nil] <;> ((repeat' apply And.intro) <;> first | with_reducible rfl | exact True.intro | exact congrArg (fun z : Int => some (AV.int IntKind.i64 z)) (show (_ : Int) = _ by omega) | exact congrArg (fun z : Nat => some (AV.tsl _ _ _ _ _ z)) (show (_ : Nat) = _ by omega) | exact arrEq (by omega) (by with_reducible rfl))
        exact ⟨arrEq (by rw [hj0]; rfl) hj0.symm, trivial⟩
      · intro i hi
        have htk : ∀ l : List (List UInt8), List.take l.length l = l := fun l => List.take_length
        by_cases hc : i < fs.length
        · have hc' : decide ((i : Int) < (fs.length : Int)) = true := decide_eq_true (by omega)
          have hn := vlL_take fs i hc
          have hJl : (vlL (fs.take i)).length = i := by rw [vlL, List.length_map, List.length_take]; omega
          generalize hfd : fs.getD i (0, [], ()) = f at *
          obtain ⟨(tg : Int), (vl : List UInt8), u1⟩ := f
          replace hn : vlL (fs.take (i + 1)) = vlL (fs.take i) ++ [vl] := hn
          generalize hJ : vlL (fs.take i) = J at *
          refine Tri.at (by first | (simp only [hc', hfd, htk, Con.start, go_sem]; rfl) | rfl) ?_
          repeat (first | ((first | refine Tri.seq (Tri.regT (cfgTC4_ok.pins _) ?_) | refine Tri.rgnT (cfgTC4_ok.pins _) ?_); (repeat (first | refine RunT.oneA (hp := by simp (maxSteps := 2000000) (disch := first | decide | omega | (simp only [List.length_append, List.length_cons, List.length_nil, List.length_take, List.length_drop]; omega)) only [hc', hfd, htk, go_sem]; rfl) (h := ?_) | refine RunT.notA (h := ?_))); refine RunT.nil ?_; try simp only [InBlock, Then]) | refine Tri.cF (by first | (simp only [hc', hfd, htk, go_sem]; done) | fail) ?_ | refine Tri.cT (by first | (simp only [hc', hfd, htk, go_sem]; done) | fail) ?_ | (refine Tri.skip ?_; try simp only [InBlock, Then]) | (refine Tri.exit ?_; simp only [Then, InBlock, if_true, if_false, ↓reduceIte, Nat.reduceEqDiff]) | refine Tri.seq (Tri.block ?_) | refine Tri.block ?_ | refine Tri.seq ?_ | (refine Tri.ret ?_; refine Con.fin (.inl rfl) (by simp only [Tryd.f81, cfgTC4, resA, resA1, go_sem]; rfl) (by simp only [Obs, and_true, true_and]) (by first | (simp only [kVls, Con.of, Con.ofO, resV, hc', hfd, htk, go_sem]; done) | fail) trivial rfl rfl))
          refine ⟨i + 1, (by omega), (by omega), Wk.of ?_ ?_ rfl rfl⟩
          · simp only [lessTs, List.reduceReplicate, List.cons_append, List.nil_append, hn, List.length_append, List.length_cons, List.length_nil] <;> ((repeat' apply And.intro) <;> first | with_reducible rfl | exact True.intro | exact congrArg (fun z : Int => some (AV.int IntKind.i64 z)) (show (_ : Int) = _ by omega) | exact congrArg (fun z : Nat => some (AV.tsl _ _ _ _ _ z)) (show (_ : Nat) = _ by omega) | exact arrEq (by omega) (by with_reducible rfl))
          · rw [hn]
            exact ⟨arrEq (by rw [List.length_append]; rfl) rfl, trivial⟩
        · have hc' : decide ((i : Int) < (fs.length : Int)) = false := decide_eq_false (by omega)
          rw [List.take_of_length_le (by omega)]
          generalize hJ : vlL fs = J at *
          refine Tri.at (by first | (simp only [hc', Con.start, go_sem]; rfl) | rfl) ?_
          repeat (first | ((first | refine Tri.seq (Tri.regT (cfgTC4_ok.pins _) ?_) | refine Tri.rgnT (cfgTC4_ok.pins _) ?_); (repeat (first | refine RunT.oneA (hp := by simp (maxSteps := 2000000) (disch := first | decide | omega | (simp only [List.length_append, List.length_cons, List.length_nil, List.length_take, List.length_drop]; omega)) only [hc', go_sem]; rfl) (h := ?_) | refine RunT.notA (h := ?_))); refine RunT.nil ?_; try simp only [InBlock, Then]) | refine Tri.cF (by first | (simp only [hc', go_sem]; done) | fail) ?_ | refine Tri.cT (by first | (simp only [hc', go_sem]; done) | fail) ?_ | (refine Tri.skip ?_; try simp only [InBlock, Then]) | (refine Tri.exit ?_; simp only [Then, InBlock, if_true, if_false, ↓reduceIte, Nat.reduceEqDiff]) | refine Tri.seq (Tri.block ?_) | refine Tri.block ?_ | refine Tri.seq ?_ | (refine Tri.ret ?_; refine Con.fin (.inl rfl) (by simp only [Tryd.f81, cfgTC4, resA, resA1, go_sem]; rfl) (by simp only [Obs, and_true, true_and]) (by first | (simp only [kVls, Con.of, Con.ofO, resV, hc', go_sem]; done) | fail) trivial rfl rfl))
          refine Tri.rel true 0 rfl ?_ rfl rfl ?_
          · simp only [AS.blk, go_sem]
            repeat' constructor
          refine Tri.at (by first | (simp only [htk, Con.start, go_sem]; rfl) | rfl) ?_
          refine Tri.ret ?_
          refine Con.fin (.inl rfl) (by simp only [Tryd.f81, cfgTC4, resA, resA1, go_sem]; rfl) (by simp only [Obs, and_true, true_and]) ?_ ?_ ?_ rfl
          · exact v1.symm
          · exact True.intro
          · show (AS.mk [some (vlV d ts)] []).closed = true
            rw [v1]; rfl
theorem vls_sum : FSumOK Tryd.prog cfgTC4.G 81 kVls.sum := Con.sumOK cfgTC4_ok kVls Tryd.func81 rfl rfl (Con.of_inv _ _ _) vls_body
end
end Go.Proofs.YtlnkfdblkdhdgaaDoor

namespace Go.Proofs.YtlnkfdblkdhdgaaDoor
open Go.Vc Go.Proofs
set_option maxRecDepth 10000
set_option maxHeartbeats 4000000
def flB (f : flL.T) : List UInt8 := [UInt8.ofInt (f.1 : Int), UInt8.ofInt (shrT .i64 ((List.length (α := UInt8) f.2.1 : Nat) : Int) 8), UInt8.ofInt ((List.length (α := UInt8) f.2.1 : Nat) : Int)] ++ f.2.1
def jnF (fs : List flL.T) : List UInt8 := (fs.map flB).flatten
def flOK (f : flL.T) : Prop := 1 ≤ (f.1 : Int) ∧ (f.1 : Int) ≤ 255 ∧ List.length (α := UInt8) f.2.1 ≤ 65535
theorem jnF_nil : jnF [] = [] := rfl
theorem flB_len (f : flL.T) : (flB f).length = List.length (α := UInt8) f.2.1 + 3 := by rw [flB, List.length_append]; show 3 + _ = _; omega
theorem jnF_len : ∀ fs : List flL.T, (∀ f ∈ fs, flOK f) → (jnF fs).length ≤ fs.length * 65538
  | [], _ => Nat.zero_le _
  | f :: r, h => by
    have h1 := jnF_len r fun x hx => h x (List.mem_cons_of_mem _ hx)
    have h2 := (h f (List.mem_cons_self ..)).2.2
    have h3 := flB_len f
    show (flB f ++ jnF r).length ≤ (r.length + 1) * 65538
    rw [List.length_append, Nat.add_mul]
    omega
theorem jnF_take (fs : List flL.T) (i : Nat) (d : flL.T) (h : i < fs.length) : jnF (fs.take (i + 1)) = jnF (fs.take i) ++ flB (fs.getD i d) := by
  rw [List.take_add_one, List.getElem?_eq_getElem h, Option.toList_some, jnF, List.map_append, List.flatten_append, List.getD_eq_getElem?_getD, List.getElem?_eq_getElem h]
  simp [jnF]
def kJn : Con := Con.of [.v (.slice false flL)] (fun x => [List.length (α := flL.T) x.1 ≤ 1000, ∀ f ∈ x.1, flOK f]) (fun x => ⟨.tuple [.pure (.slice true (.int .u8)) (jnF x.1), .int .i64 (0 : Int)], []⟩)
def cfgC1t : Cfg2 := { ty := tyTabJ, fn := fun  | _ => none, G := shaG, pin := [], eq := fun _ => none }
theorem cfgC1t_ok : CfgOK Tryd.prog cfgC1t := ⟨tyTabJ_ok, (fun f s h => by cases h), (fun t d h => by cases h)⟩
section
attribute [local go_sem] Tryd.f74 kJn cfgC1t tyTabJ tyTabS
theorem tjn_body (p : kJn.Par) (hp : ∀ q ∈ kJn.pre p, q) : BodyOK Tryd.prog cfgC1t Tryd.f74 (Tryd.f74.body.get rfl) kJn p := by
  obtain ⟨(fs : List flL.T), u⟩ := p
  obtain ⟨h0, h1, _⟩ := Obs.of hp
  replace h0 : fs.length ≤ 1000 := h0
  replace h1 : ∀ f ∈ fs, flOK f := h1
  refine ⟨?_, Nat.zero_le _, rfl, rfl⟩
  show Tri _ _ _ (Code.seq _ (Code.seq (Code.seq _ (Code.block _ (Code.loop (Code.seq _ (Code.seq (Code.cond _ _ _) (Code.seq (Code.block _ (Code.seq _ (Code.seq _ (Code.block _ (Code.seq _ (Code.cond _ (Code.seq _ _) (Code.seq _ (Code.cond _ (Code.seq _ _) _)))))))) _)))))) (Code.seq _ _))) _
  refine Tri.at (by first | (simp only [go_sem, Con.start, go_sem]; rfl) | rfl) ?_
  repeat (first | ((first | refine Tri.seq (Tri.regT (cfgC1t_ok.pins _) ?_) | refine Tri.rgnT (cfgC1t_ok.pins _) ?_); (repeat (first | refine RunT.oneA (hp := by simp (maxSteps := 2000000) (disch := first | decide | omega | (simp only [List.length_append, List.length_cons, List.length_nil, List.length_take, List.length_drop]; omega)) only [go_sem, go_sem]; rfl) (h := ?_) | refine RunT.notA (h := ?_))); refine RunT.nil ?_; try simp only [InBlock, Then]) | refine Tri.cF (by first | (simp only [go_sem, go_sem]; done) | fail) ?_ | refine Tri.cT (by first | (simp only [go_sem, go_sem]; done) | fail) ?_ | (refine Tri.skip ?_; try simp only [InBlock, Then]) | (refine Tri.exit ?_; simp only [Then, InBlock, if_true, if_false, ↓reduceIte, Nat.reduceEqDiff]) | refine Tri.seq (Tri.block ?_) | refine Tri.block ?_ | refine Tri.seq ?_ | (refine Tri.ret ?_; refine Con.fin (.inl rfl) (by simp only [Tryd.f74, cfgC1t, resA, resA1, go_sem]; rfl) (by simp only [Obs, and_true, true_and]) (by first | (simp only [kJn, Con.of, Con.ofO, resV, go_sem, go_sem]; done) | fail) trivial rfl rfl))
  have hj0 : jnF (fs.take 0) = [] := rfl
  refine Tri.phT 2 (.int .u8) 1 rfl rfl ?_
  refine Tri.loop (fun i : Nat => (⟨[some (.pure (.slice false flL) fs), none, some (.tsl 0 [] 0 0 1 (jnF (fs.take i)).length), some (.int .i64 (0 : Int)), none, none, none, some (.pure (.slice false flL) fs), some (.int .i64 (fs.length : Int)), some (.int .i64 (i : Int))] ++ List.replicate 34 none, [.live (.pure (.arr (jnF (fs.take i)).length (.int .u8)) (jnF (fs.take i)))]⟩ : AS)) (fun i => i ≤ fs.length) (fun i => fs.length - i) 0 ?_ (Nat.zero_le _) ?_
  · refine Wk.of ?_ ?_ rfl rfl
    · simp only [lessTs, List.reduceReplicate, List.cons_append, List.nil_append, hj0, List.length_nil] <;> ((repeat' apply And.intro) <;> first | with_reducible rfl | exact True.intro | exact congrArg (fun z : Int => some (AV.int IntKind.i64 z)) (show (_ : Int) = _ by omega) | exact congrArg (fun z : Nat => some (AV.tsl _ _ _ _ _ z)) (show (_ : Nat) = _ by omega) | exact arrEq (by omega) (by with_reducible rfl))
    exact ⟨arrEq (by rw [hj0]; rfl) hj0.symm, trivial⟩
  · intro i hi
    by_cases h3 : i < fs.length
    · have h3' : decide ((i : Int) < (fs.length : Int)) = true := decide_eq_true (by omega)
      have hf : fs.getD i (0, [], ()) ∈ fs := by
        rw [List.getD_eq_getElem?_getD, List.getElem?_eq_getElem h3]; exact List.getElem_mem h3
      obtain ⟨k1, k2, k3⟩ := h1 _ hf
      generalize hfd : fs.getD i (0, [], ()) = f at *
      obtain ⟨(tg : Int), (vl : List UInt8), u1⟩ := f
      replace k1 : 1 ≤ tg := k1
      replace k2 : tg ≤ 255 := k2
      replace k3 : vl.length ≤ 65535 := k3
      have k1' : decide (tg < 1) = false := decide_eq_false (by omega)
      have k2' : decide ((255 : Int) < tg) = false := decide_eq_false (by omega)
      have k3' : decide ((65535 : Int) < (vl.length : Int)) = false := decide_eq_false (by omega)
      have hjt := jnF_take fs i (0, [], ()) h3
      have hjl : (jnF (fs.take i)).length ≤ 65538000 := by
        have h4 := jnF_len (fs.take i) fun x hx => h1 x (List.mem_of_mem_take hx)
        have h5 : (fs.take i).length ≤ 1000 := by rw [List.length_take]; omega
        exact Nat.le_trans h4 (Nat.le_trans (Nat.mul_le_mul_right 65538 h5) (by decide))
      rw [hfd] at hjt
      generalize hJ : jnF (fs.take i) = J at *
      have htk : List.take J.length J = J := List.take_length
      have tk3 : List.take 3 [UInt8.ofInt tg, UInt8.ofInt (shrT .i64 ((vl.length : Nat) : Int) 8), UInt8.ofInt ((vl.length : Nat) : Int)] = [UInt8.ofInt tg, UInt8.ofInt (shrT .i64 ((vl.length : Nat) : Int) 8), UInt8.ofInt ((vl.length : Nat) : Int)] := rfl
      have tkJ : List.take (J.length + 3) (J ++ [UInt8.ofInt tg, UInt8.ofInt (shrT .i64 ((vl.length : Nat) : Int) 8), UInt8.ofInt ((vl.length : Nat) : Int)]) = J ++ [UInt8.ofInt tg, UInt8.ofInt (shrT .i64 ((vl.length : Nat) : Int) 8), UInt8.ofInt ((vl.length : Nat) : Int)] := List.take_of_length_le (by rw [List.length_append]; exact Nat.le_refl _)
      have hjt2 : jnF (fs.take (i + 1)) = J ++ [UInt8.ofInt tg, UInt8.ofInt (shrT .i64 ((vl.length : Nat) : Int) 8), UInt8.ofInt ((vl.length : Nat) : Int)] ++ vl := by rw [hjt, List.append_assoc]; rfl
      have hjl2 : (jnF (fs.take (i + 1))).length = J.length + 3 + vl.length := by rw [hjt2, List.length_append, List.length_append]; rfl
      refine Tri.at (by first | (simp only [h3', k1', k2', k3', hfd, htk, tk3, tkJ, Con.start, go_sem]; rfl) | rfl) ?_
      repeat (first | ((first | refine Tri.seq (Tri.regT (cfgC1t_ok.pins _) ?_) | refine Tri.rgnT (cfgC1t_ok.pins _) ?_); (repeat (first | refine RunT.oneA (hp := by simp (maxSteps := 2000000) (disch := first | decide | omega | (simp only [List.length_append, List.length_cons, List.length_nil, List.length_take, List.length_drop]; omega)) only [h3', k1', k2', k3', hfd, htk, tk3, tkJ, go_sem]; rfl) (h := ?_) | refine RunT.notA (h := ?_))); refine RunT.nil ?_; try simp only [InBlock, Then]) | ((first | refine Tri.seq (Tri.drwT (mixed) (cfgC1t_ok.pins _) ?_) | refine Tri.drnT (mixed) (cfgC1t_ok.pins _) ?_); (repeat (first | refine RunD.oneA (hp := by simp (maxSteps := 2000000) (disch := first | decide | omega | (simp only [List.length_append, List.length_cons, List.length_nil, List.length_take, List.length_drop]; omega)) only [h3', k1', k2', k3', hfd, htk, tk3, tkJ, go_sem]; rfl) (h := ?_) | refine RunD.notA (h := ?_))); refine RunD.nil ?_; refine ⟨by kernel_rfl, ?_⟩; try simp only [InBlock, Then]) | refine Tri.cF (by first | (simp only [h3', k1', k2', k3', hfd, htk, tk3, tkJ, go_sem]; done) | fail) ?_ | refine Tri.cT (by first | (simp only [h3', k1', k2', k3', hfd, htk, tk3, tkJ, go_sem]; done) | fail) ?_ | (refine Tri.skip ?_; try simp only [InBlock, Then]) | (refine Tri.exit ?_; simp only [Then, InBlock, if_true, if_false, ↓reduceIte, Nat.reduceEqDiff]) | refine Tri.seq (Tri.block ?_) | refine Tri.block ?_ | refine Tri.seq ?_ | (refine Tri.ret ?_; refine Con.fin (.inl rfl) (by simp only [Tryd.f74, cfgC1t, resA, resA1, go_sem]; rfl) (by simp only [Obs, and_true, true_and]) (by first | (simp only [kJn, Con.of, Con.ofO, resV, h3', k1', k2', k3', hfd, htk, tk3, tkJ, go_sem]; done) | fail) trivial rfl rfl))
      refine ⟨i + 1, (by omega), (by omega), Wk.of ?_ ?_ rfl rfl⟩
      · simp only [lessTs, List.reduceReplicate, List.cons_append, List.nil_append, hjl2] <;> ((repeat' apply And.intro) <;> first | with_reducible rfl | exact True.intro | exact congrArg (fun z : Int => some (AV.int IntKind.i64 z)) (show (_ : Int) = _ by omega) | exact congrArg (fun z : Nat => some (AV.tsl _ _ _ _ _ z)) (show (_ : Nat) = _ by omega) | exact arrEq (by omega) (by with_reducible rfl))
      · exact ⟨arrEq hjl2.symm hjt2.symm, trivial⟩
    · have h3' : decide ((i : Int) < (fs.length : Int)) = false := decide_eq_false (by omega)
      rw [List.take_of_length_le (by omega)]
      have htk : List.take (jnF fs).length (jnF fs) = jnF fs := List.take_length
      refine Tri.at (by first | (simp only [h3', htk, Con.start, go_sem]; rfl) | rfl) ?_
      repeat (first | ((first | refine Tri.seq (Tri.regT (cfgC1t_ok.pins _) ?_) | refine Tri.rgnT (cfgC1t_ok.pins _) ?_); (repeat (first | refine RunT.oneA (hp := by simp (maxSteps := 2000000) (disch := first | decide | omega | (simp only [List.length_append, List.length_cons, List.length_nil, List.length_take, List.length_drop]; omega)) only [h3', htk, go_sem]; rfl) (h := ?_) | refine RunT.notA (h := ?_))); refine RunT.nil ?_; try simp only [InBlock, Then]) | refine Tri.cF (by first | (simp only [h3', htk, go_sem]; done) | fail) ?_ | refine Tri.cT (by first | (simp only [h3', htk, go_sem]; done) | fail) ?_ | (refine Tri.skip ?_; try simp only [InBlock, Then]) | (refine Tri.exit ?_; simp only [Then, InBlock, if_true, if_false, ↓reduceIte, Nat.reduceEqDiff]) | refine Tri.seq (Tri.block ?_) | refine Tri.block ?_ | refine Tri.seq ?_ | (refine Tri.ret ?_; refine Con.fin (.inl rfl) (by simp only [Tryd.f74, cfgC1t, resA, resA1, go_sem]; rfl) (by simp only [Obs, and_true, true_and]) (by first | (simp only [kJn, Con.of, Con.ofO, resV, h3', htk, go_sem]; done) | fail) trivial rfl rfl))
      refine Tri.rel true 0 rfl ?_ rfl rfl ?_
      · simp only [AS.blk, go_sem]
        repeat' constructor
      refine Tri.at (by first | (simp only [h3', htk, Con.start, go_sem]; rfl) | rfl) ?_
      refine Tri.ret ?_
      refine Con.fin (.inl rfl) (by simp only [Tryd.f74, cfgC1t, resA, resA1, go_sem]; rfl) (by simp only [Obs, and_true, true_and]) ?_ ?_ rfl rfl
      · rfl
      · exact True.intro
theorem tjn_sum : FSumOK Tryd.prog cfgC1t.G 74 kJn.sum := Con.sumOK cfgC1t_ok kJn Tryd.func74 rfl rfl (Con.of_inv _ _ _) tjn_body
end
end Go.Proofs.YtlnkfdblkdhdgaaDoor

namespace Go.Proofs.YtlnkfdblkdhdgaaDoor
open Go.Vc Go.Proofs
set_option maxRecDepth 10000
set_option maxHeartbeats 4000000
structure SS where
  sy : Bool
  seed : List UInt8
  dr : UInt64
  cn : UInt64
  ts : List tmK.T
def ssM (sy : Bool) (seed : List UInt8) (dr cn : UInt64) (ts : List tmK.T) : SS := ⟨sy, seed, dr, cn, ts⟩
theorem ssM_eta (s : SS) : ssM s.sy s.seed s.dr s.cn s.ts = s := rfl
abbrev slF : List FK := [.f .bool, .f k16, .f (.int .u64), .f (.int .u64), .s tmK]
@[reducible] def slM (x : FT slF) : SS := ssM x.1 x.2.1 x.2.2.1 x.2.2.2.1 x.2.2.2.2.1.xs
def SS.fin (s : SS) : List Slot := [.live (.agg [.bool s.sy, .pure k16 s.seed, .int .u64 s.dr, .int .u64 s.cn, .tsl 1 [] 0 0 18 (List.length (α := tmK.T) s.ts)]), .live (.pure (.arr (List.length (α := tmK.T) s.ts) tmK) s.ts)]
def SS.box (s : SS) (key : List UInt8) (us : Int) (d : List UInt8) : List UInt8 :=
  if 2000 < d.length then [] else if s.sy = true then 83 :: wd s.cn else (wd s.cn ++ strS key us s.cn d) ++ tagS key us (wd s.cn ++ strS key us s.cn d)
def errS (d : List UInt8) : Int := if 2000 < d.length then 23 else 0
def SS.put (s : SS) (key : List UInt8) (us : Int) (d : List UInt8) : SS :=
  if 2000 < d.length then s else if s.sy = true then ⟨true, s.seed, s.dr, s.cn + 1, s.ts ++ [(key, us, d, ())]⟩ else ⟨false, s.seed, s.dr, s.cn + 1, s.ts⟩
def tmOK (t : tmK.T) : Prop := List.length (α := UInt8) t.2.2.1 ≤ 2000
def SS.fnd (s : SS) (key : List UInt8) (us : Int) (b : List UInt8) : Option (List UInt8) :=
  if b.length = 9 then if b.getD 0 0 = 83 then if (nb (b.drop 1)).toNat < s.ts.length then if (s.ts.getD (nb (b.drop 1)).toNat (Kd.dflt tmK)).1 = key then if (s.ts.getD (nb (b.drop 1)).toNat (Kd.dflt tmK)).2.1 = us then some (s.ts.getD (nb (b.drop 1)).toNat (Kd.dflt tmK)).2.2.1 else none else none else none else none else none
def SS.opn (s : SS) (key : List UInt8) (us : Int) (b : List UInt8) : Option (List UInt8) :=
  if s.sy = true then s.fnd key us b else
  if b.length < 24 then none else if 2024 < b.length then none else
  if b.drop (b.length - 16) = tagS key us (b.take (b.length - 16)) then some (strS key us (nb (b.take 8)) (List.take (b.length - 16 - 8) (List.drop 8 b))) else none
def opB (o : Option (List UInt8)) : List UInt8 := o.getD []
def opE (o : Option (List UInt8)) : Int := if o.isSome = true then 0 else 40
def kNewS : Con := Con.of [.v .bool, .v k16] (fun _ => []) (fun x => ⟨.ptr 0 [] 0, [.agg [.bool (ssM x.1 x.2.1 0 0 []).sy, .pure k16 (ssM x.1 x.2.1 0 0 []).seed, .int .u64 (ssM x.1 x.2.1 0 0 []).dr, .int .u64 (ssM x.1 x.2.1 0 0 []).cn, .tsl 1 [] 0 0 18 (List.length (α := tmK.T) (ssM x.1 x.2.1 0 0 []).ts)], .pure (.arr (List.length (α := tmK.T) (ssM x.1 x.2.1 0 0 []).ts) tmK) (ssM x.1 x.2.1 0 0 []).ts]⟩)
def kSeal : Con := Con.ofO [.o slF, .a (.v k16), .a (.v (.int .i64)), .a (.v (.slice false (.int .u8)))] [1]
  (fun x => [x.1.2.2.2.2.1.i = 0, x.1.2.2.2.2.1.len = x.1.2.2.2.2.1.N, List.length (α := tmK.T) x.1.2.2.2.2.1.xs = x.1.2.2.2.2.1.N, x.1.2.2.2.2.1.N ≤ 1000000, List.length (α := UInt8) x.2.1 = 16, List.length (α := UInt8) x.2.2.2.1 ≤ 100000])
  (fun x => ⟨.tuple [.pure (.slice true (.int .u8)) ((slM x.1).box x.2.1 x.2.2.1 x.2.2.2.1), .int .i64 (errS x.2.2.2.1)], [.agg [.bool ((slM x.1).put x.2.1 x.2.2.1 x.2.2.2.1).sy, .pure k16 ((slM x.1).put x.2.1 x.2.2.1 x.2.2.2.1).seed, .int .u64 ((slM x.1).put x.2.1 x.2.2.1 x.2.2.2.1).dr, .int .u64 ((slM x.1).put x.2.1 x.2.2.1 x.2.2.2.1).cn, .tsl 1 [] 0 0 18 (List.length (α := tmK.T) ((slM x.1).put x.2.1 x.2.2.1 x.2.2.2.1).ts)], .pure (.arr (List.length (α := tmK.T) ((slM x.1).put x.2.1 x.2.2.1 x.2.2.2.1).ts) tmK) ((slM x.1).put x.2.1 x.2.2.1 x.2.2.2.1).ts]⟩)
def eqS : TypeId → Option Kd
  | 28 => some k16
  | _ => none
theorem eqS_ok : ∀ t d, eqS t = some d → TyEq Tryd.prog d t ∧ Tryd.prog.eqGuardType Tryd.prog.depth t = false ∧ d.ht ≤ 10000 ∧ d.isAgg = true := fun t d h => by
  simp only [eqS] at h
  split at h
  · injection h with h
    subst h
    exact ⟨⟨5, Tryd.underlying28, Tryd.underlying5, _, rfl, by kernel_rfl⟩, by kernel_rfl, by decide, rfl⟩
  · cases h
def cfgSB : Cfg2 := { ty := tyTabS, fn := fun | 39 => some kClo.sum | 71 => some kWide.sum | 72 => some kStr.sum | 73 => some kTag.sum | 84 => some kNb.sum | 83 => some kEq.sum | _ => none, G := shaG, pin := [], eq := eqS }
theorem cfgSB_ok : CfgOK Tryd.prog cfgSB := ⟨tyTabS_ok, (fun f s h => by
  simp only [cfgSB] at h
  split at h
  · injection h with h; subst h; exact .inl clo_sum
  · injection h with h; subst h; exact .inl wide_sum
  · injection h with h; subst h; exact .inl str_sum
  · injection h with h; subst h; exact .inl tag_sum
  · injection h with h; subst h; exact .inl number_sum
  · injection h with h; subst h; exact .inl equal_sum
  · cases h), eqS_ok⟩
section
attribute [local go_sem] Tryd.f15 kNewS cfgSB tyTabS selT
theorem newS_body (p : kNewS.Par) (hp : ∀ q ∈ kNewS.pre p, q) : BodyOK Tryd.prog cfgSB Tryd.f15 (Tryd.f15.body.get rfl) kNewS p := by
  obtain ⟨(sy : Bool), (seed : List UInt8), u⟩ := p
  refine ⟨?_, Nat.zero_le _, rfl, rfl⟩
  show Tri _ _ _ (Code.seq _ (Code.seq _ _)) _
  refine Tri.at (by first | (simp only [go_sem, Con.start, go_sem]; rfl) | rfl) ?_
  repeat (first | ((first | refine Tri.seq (Tri.regT (cfgSB_ok.pins _) ?_) | refine Tri.rgnT (cfgSB_ok.pins _) ?_); (repeat (first | refine RunT.oneA (hp := by simp (maxSteps := 2000000) (disch := first | decide | omega | (simp only [List.length_append, List.length_cons, List.length_nil, List.length_take, List.length_drop]; omega)) only [go_sem, go_sem]; rfl) (h := ?_) | refine RunT.notA (h := ?_))); refine RunT.nil ?_; try simp only [InBlock, Then]) | refine Tri.cF (by first | (simp only [go_sem, go_sem]; done) | fail) ?_ | refine Tri.cT (by first | (simp only [go_sem, go_sem]; done) | fail) ?_ | (refine Tri.skip ?_; try simp only [InBlock, Then]) | (refine Tri.exit ?_; simp only [Then, InBlock, if_true, if_false, ↓reduceIte, Nat.reduceEqDiff]) | refine Tri.seq (Tri.block ?_) | refine Tri.block ?_ | refine Tri.seq ?_ | (refine Tri.ret ?_; refine Con.fin (.inl rfl) (by simp only [Tryd.f15, cfgSB, resA, resA1, go_sem]; rfl) (by simp only [Obs, and_true, true_and]) (by first | (simp only [kNewS, Con.of, Con.ofO, resV, go_sem, go_sem]; done) | fail) trivial rfl rfl))
  refine Tri.ph 1 4 tmK 18 (l := [.bool sy, .pure k16 seed, .int .u64 0, .int .u64 0, .nilsl]) rfl rfl rfl ?_
  refine Tri.at (by first | (simp only [phS, Con.start, go_sem]; rfl) | rfl) ?_
  refine Tri.mv 0 1 (by decide) (by simp only [AS.blk, go_sem]; intro e; cases e) rfl rfl ?_
  refine Tri.at (by first | (simp only [phS, Con.start, go_sem]; rfl) | rfl) ?_
  refine Tri.mv 1 2 (by decide) (by simp only [AS.blk, go_sem]; intro e; cases e) rfl rfl ?_
  refine Tri.at (by first | (simp only [phS, Con.start, go_sem]; rfl) | rfl) ?_
  refine Tri.ret ?_
  refine Con.fin (.inl rfl) (by simp only [Tryd.f15, cfgSB, resA, resA1, go_sem]; rfl) (by simp only [Obs, and_true, true_and]) ?_ ?_ rfl rfl
  · rfl
  · exact ⟨rfl, rfl, trivial⟩
theorem newS_sum : FSumOK Tryd.prog cfgSB.G 15 kNewS.sum := Con.sumOK cfgSB_ok kNewS Tryd.func15 rfl rfl (Con.of_inv _ _ _) newS_body
end
section
attribute [local go_sem] Tryd.f43 kSeal kClo kWide kStr kTag cfgSB tyTabS ssM_eta
theorem seal_body (p : kSeal.Par) (hp : ∀ q ∈ kSeal.pre p, q) : BodyOK Tryd.prog cfgSB Tryd.f43 (Tryd.f43.body.get rfl) kSeal p := by
  obtain ⟨⟨(sy : Bool), (seed : List UInt8), (dr : UInt64), (cn : UInt64), ⟨N, i0, len, (ts : List tmK.T)⟩, u1⟩, (key : List UInt8), (us : Int), (d : List UInt8), u⟩ := p
  obtain ⟨h0, h1, h2, h3, h4, h5, _⟩ := Obs.of hp
  replace h0 : i0 = 0 := h0
  replace h1 : len = N := h1
  replace h2 : ts.length = N := h2
  replace h3 : N ≤ 1000000 := h3
  replace h4 : key.length = 16 := h4
  replace h5 : d.length ≤ 100000 := h5
  subst h0 h1 h2
  refine ⟨?_, Nat.le_refl _, rfl, rfl⟩
  show Tri _ _ _ (Code.seq _ (Code.seq (Code.seq _ (Code.cond _ (Code.seq _ _) _)) (Code.seq _ (Code.seq _ (Code.seq (Code.seq _ (Code.cond _ (Code.seq _ (Code.seq _ _)) _)) (Code.seq _ (Code.seq _ _))))))) _
  by_cases k1 : 2000 < d.length
  · have k1' : decide ((2000 : Int) < (d.length : Int)) = true := decide_eq_true (by omega)
    have e1 : (ssM sy seed dr cn ts).box key us d = [] := if_pos k1
    have e2 : errS d = 23 := if_pos k1
    have e3 : (ssM sy seed dr cn ts).put key us d = ssM sy seed dr cn ts := if_pos k1
    refine Tri.at (by first | (simp only [k1', Con.start, go_sem]; rfl) | rfl) ?_
    repeat (first | ((first | refine Tri.seq (Tri.regT (cfgSB_ok.pins _) ?_) | refine Tri.rgnT (cfgSB_ok.pins _) ?_); (repeat (first | refine RunT.oneA (hp := by simp (maxSteps := 2000000) (disch := first | decide | omega | (simp only [List.length_append, List.length_cons, List.length_nil, List.length_take, List.length_drop]; omega)) only [k1', go_sem]; rfl) (h := ?_) | refine RunT.notA (h := ?_))); refine RunT.nil ?_; try simp only [InBlock, Then]) | refine Tri.cF (by first | (simp only [k1', go_sem]; done) | fail) ?_ | refine Tri.cT (by first | (simp only [k1', go_sem]; done) | fail) ?_ | (refine Tri.skip ?_; try simp only [InBlock, Then]) | (refine Tri.exit ?_; simp only [Then, InBlock, if_true, if_false, ↓reduceIte, Nat.reduceEqDiff]) | refine Tri.seq (Tri.block ?_) | refine Tri.block ?_ | refine Tri.seq ?_ | (refine Tri.ret ?_; refine Con.fin (.inl rfl) (by simp only [Tryd.f43, cfgSB, resA, resA1, go_sem]; rfl) (by simp only [Obs, and_true, true_and]) (by first | (simp only [kSeal, Con.of, Con.ofO, resV, k1', go_sem]; done) | fail) trivial rfl rfl))
    refine Tri.phT 8 (.int .u8) 1 rfl rfl ?_
    refine Tri.at (by first | (simp only [k1', Con.start, go_sem]; rfl) | rfl) ?_
    refine Tri.rel true 3 rfl ?_ rfl rfl ?_
    · simp only [AS.blk, go_sem]
      repeat' constructor
    refine Tri.at (by first | (simp only [k1', Con.start, go_sem]; rfl) | rfl) ?_
    refine Tri.ret ?_
    refine Con.fin (.inl rfl) (by simp only [Tryd.f43, cfgSB, resA, resA1, go_sem]; rfl) (by simp only [Obs, and_true, true_and]) ?_ ?_ rfl rfl
    · show AV.tuple [.pure (.slice true (.int .u8)) ([] : List UInt8), .int .i64 (23 : Int)] = AV.tuple [.pure (.slice true (.int .u8)) ((ssM sy seed dr cn ts).box key us d), .int .i64 (errS d)]
      rw [e1, e2]
    · show lessHs _ ((ssM sy seed dr cn ts).put key us d).fin
      rw [e3]
      exact ⟨rfl, rfl, trivial⟩
  have k1' : decide ((2000 : Int) < (d.length : Int)) = false := decide_eq_false (by omega)
  have e2 : errS d = 0 := if_neg k1
  have w1 := wd_len cn
  have w2 : List.take 8 (wd cn) = wd cn := List.take_of_length_le (by omega)
  have w3 : List.take ts.length ts = ts := List.take_length
  cases sy with
  | true =>
    have e1 : (ssM true seed dr cn ts).box key us d = 83 :: wd cn := (if_neg k1).trans (if_pos rfl)
    have e3 : (ssM true seed dr cn ts).put key us d = ssM true seed dr (cn + 1) (ts ++ [(key, us, d, ())]) := (if_neg k1).trans (if_pos rfl)
    have w4 : List.take 9 (83 :: wd cn) = 83 :: wd cn := List.take_of_length_le (by rw [List.length_cons]; omega)
    refine Tri.at (by first | (simp only [k1', w1, w2, w3, w4, Con.start, go_sem]; rfl) | rfl) ?_
    repeat (first | ((first | refine Tri.seq (Tri.regT (cfgSB_ok.pins _) ?_) | refine Tri.rgnT (cfgSB_ok.pins _) ?_); (repeat (first | refine RunT.oneA (hp := by simp (maxSteps := 2000000) (disch := first | decide | omega | (simp only [List.length_append, List.length_cons, List.length_nil, List.length_take, List.length_drop]; omega)) only [k1', w1, w2, w3, w4, go_sem]; rfl) (h := ?_) | refine RunT.notA (h := ?_))); refine RunT.nil ?_; try simp only [InBlock, Then]) | ((first | refine Tri.seq (Tri.drwT (mixed) (cfgSB_ok.pins _) ?_) | refine Tri.drnT (mixed) (cfgSB_ok.pins _) ?_); (repeat (first | refine RunD.oneA (hp := by simp (maxSteps := 2000000) (disch := first | decide | omega | (simp only [List.length_append, List.length_cons, List.length_nil, List.length_take, List.length_drop]; omega)) only [k1', w1, w2, w3, w4, go_sem]; rfl) (h := ?_) | refine RunD.notA (h := ?_))); refine RunD.nil ?_; refine ⟨by kernel_rfl, ?_⟩; try simp only [InBlock, Then]) | refine Tri.cF (by first | (simp only [k1', w1, w2, w3, w4, go_sem]; done) | fail) ?_ | refine Tri.cT (by first | (simp only [k1', w1, w2, w3, w4, go_sem]; done) | fail) ?_ | (refine Tri.skip ?_; try simp only [InBlock, Then]) | (refine Tri.exit ?_; simp only [Then, InBlock, if_true, if_false, ↓reduceIte, Nat.reduceEqDiff]) | refine Tri.seq (Tri.block ?_) | refine Tri.block ?_ | refine Tri.seq ?_ | (refine Tri.ret ?_; refine Con.fin (.inl rfl) (by simp only [Tryd.f43, cfgSB, resA, resA1, go_sem]; rfl) (by simp only [Obs, and_true, true_and]) (by first | (simp only [kSeal, Con.of, Con.ofO, resV, k1', w1, w2, w3, w4, go_sem]; done) | fail) trivial rfl rfl))
    refine Tri.rel true 4 rfl ?_ rfl rfl ?_
    · simp only [AS.blk, go_sem]
      repeat' constructor
    refine Tri.at (by first | (simp only [k1', w1, w2, w3, w4, Con.start, go_sem]; rfl) | rfl) ?_
    refine Tri.ret ?_
    refine Con.fin (.inl rfl) (by simp only [Tryd.f43, cfgSB, resA, resA1, go_sem]; rfl) (by simp only [Obs, and_true, true_and]) ?_ ?_ rfl rfl
    · show AV.tuple [.pure (.slice true (.int .u8)) (83 :: wd cn), .int .i64 (0 : Int)] = AV.tuple [.pure (.slice true (.int .u8)) ((ssM true seed dr cn ts).box key us d), .int .i64 (errS d)]
      rw [e1, e2]
    · show lessHs _ ((ssM true seed dr cn ts).put key us d).fin
      rw [e3]
      have w5 : (ts ++ [(key, us, d, ())]).length = ts.length + 1 := by rw [List.length_append]; rfl
      refine ⟨?_, arrEq w5.symm rfl, trivial⟩
      show _ = Slot.live (.agg [.bool true, .pure k16 seed, .int .u64 dr, .int .u64 (cn + 1), .tsl 1 [] 0 0 18 (List.length (α := tmK.T) (ts ++ [(key, us, d, ())]))])
      rw [show List.length (α := tmK.T) (ts ++ [(key, us, d, ())]) = ts.length + 1 from w5]
  | false =>
    have e1 : (ssM false seed dr cn ts).box key us d = (wd cn ++ strS key us cn d) ++ tagS key us (wd cn ++ strS key us cn d) := (if_neg k1).trans (if_neg (by intro e; cases e))
    have e3 : (ssM false seed dr cn ts).put key us d = ssM false seed dr (cn + 1) ts := (if_neg k1).trans (if_neg (by intro e; cases e))
    have w4 : (strS key us cn d).length = d.length := strS_len
    have w5 : List.take d.length (strS key us cn d) = strS key us cn d := List.take_of_length_le (by omega)
    have w6 := tagS_len key us (wd cn ++ strS key us cn d)
    have w7 : List.take (8 + d.length) (wd cn ++ strS key us cn d) = wd cn ++ strS key us cn d := List.take_of_length_le (by rw [List.length_append]; omega)
    have w8 : List.take (8 + d.length + 16) ((wd cn ++ strS key us cn d) ++ tagS key us (wd cn ++ strS key us cn d)) = (wd cn ++ strS key us cn d) ++ tagS key us (wd cn ++ strS key us cn d) := List.take_of_length_le (by rw [List.length_append, List.length_append]; omega)
    refine Tri.at (by first | (simp only [k1', w1, w2, w3, w4, w5, w6, w7, Con.start, go_sem]; rfl) | rfl) ?_
    repeat (first | ((first | refine Tri.seq (Tri.regT (cfgSB_ok.pins _) ?_) | refine Tri.rgnT (cfgSB_ok.pins _) ?_); (repeat (first | refine RunT.oneA (hp := by simp (maxSteps := 2000000) (disch := first | decide | omega | (simp only [List.length_append, List.length_cons, List.length_nil, List.length_take, List.length_drop]; omega)) only [k1', w1, w2, w3, w4, w5, w6, w7, go_sem]; rfl) (h := ?_) | refine RunT.notA (h := ?_))); refine RunT.nil ?_; try simp only [InBlock, Then]) | ((first | refine Tri.seq (Tri.drwT (mixed) (cfgSB_ok.pins _) ?_) | refine Tri.drnT (mixed) (cfgSB_ok.pins _) ?_); (repeat (first | refine RunD.oneA (hp := by simp (maxSteps := 2000000) (disch := first | decide | omega | (simp only [List.length_append, List.length_cons, List.length_nil, List.length_take, List.length_drop]; omega)) only [k1', w1, w2, w3, w4, w5, w6, w7, go_sem]; rfl) (h := ?_) | refine RunD.notA (h := ?_))); refine RunD.nil ?_; refine ⟨by kernel_rfl, ?_⟩; try simp only [InBlock, Then]) | refine Tri.cF (by first | (simp only [k1', w1, w2, w3, w4, w5, w6, w7, go_sem]; done) | fail) ?_ | refine Tri.cT (by first | (simp only [k1', w1, w2, w3, w4, w5, w6, w7, go_sem]; done) | fail) ?_ | (refine Tri.skip ?_; try simp only [InBlock, Then]) | (refine Tri.exit ?_; simp only [Then, InBlock, if_true, if_false, ↓reduceIte, Nat.reduceEqDiff]) | refine Tri.seq (Tri.block ?_) | refine Tri.block ?_ | refine Tri.seq ?_ | (refine Tri.ret ?_; refine Con.fin (.inl rfl) (by simp only [Tryd.f43, cfgSB, resA, resA1, go_sem]; rfl) (by simp only [Obs, and_true, true_and]) (by first | (simp only [kSeal, Con.of, Con.ofO, resV, k1', w1, w2, w3, w4, w5, w6, w7, go_sem]; done) | fail) trivial rfl rfl))
    refine Tri.rel true 3 rfl ?_ rfl rfl ?_
    · simp only [AS.blk, w6, Obs, and_true, true_and, go_sem]
      trace_state
      omega
    refine Tri.at (by first | (simp only [w8, Con.start, go_sem]; rfl) | rfl) ?_
    refine Tri.ret ?_
    refine Con.fin (.inl rfl) (by simp only [Tryd.f43, cfgSB, resA, resA1, go_sem]; rfl) (by simp only [Obs, and_true, true_and]) ?_ ?_ rfl rfl
    · show AV.tuple [.pure (.slice true (.int .u8)) ((wd cn ++ strS key us cn d) ++ tagS key us (wd cn ++ strS key us cn d)), .int .i64 (0 : Int)] = AV.tuple [.pure (.slice true (.int .u8)) ((ssM false seed dr cn ts).box key us d), .int .i64 (errS d)]
      rw [e1, e2]
    · show lessHs _ ((ssM false seed dr cn ts).put key us d).fin
      rw [e3]
      exact ⟨rfl, rfl, trivial⟩
theorem seal_sum : FSumOK Tryd.prog cfgSB.G 43 kSeal.sum := Con.sumOK cfgSB_ok kSeal Tryd.func43 rfl rfl (Con.ofO_inv _ _ _ _) seal_body
end
end Go.Proofs.YtlnkfdblkdhdgaaDoor

namespace Go.Proofs.YtlnkfdblkdhdgaaDoor
open Go.Vc Go.Proofs
theorem u64_nat {n : Nat} (h : n < 18446744073709551616) : (UInt64.ofInt (n : Int)).toNat = n := by
  show (UInt64.ofNat (Int.toNat ((n : Int) % 2 ^ 64))).toNat = n
  rw [show Int.toNat ((n : Int) % 2 ^ 64) = n by omega]
  exact UInt64.toNat_ofNat_of_lt' h
theorem shr8 (n : UInt64) : (n >>> 8).toNat = n.toNat / 256 := by rw [UInt64.toNat_shiftRight]; simp [Nat.shiftRight_eq_div_pow]
theorem app8 (x : UInt64) (b : UInt8) (h : x.toNat < 72057594037927936) : (x <<< 8 ||| b.toUInt64).toNat = x.toNat * 256 + b.toNat := by
  rw [UInt64.toNat_or, UInt64.toNat_shiftLeft]
  have hb : b.toUInt64.toNat = b.toNat := by simp
  have hb2 := UInt8.toNat_lt b
  rw [hb]
  have e : x.toNat <<< ((8 : UInt64).toNat % 64) % 2 ^ 64 = x.toNat <<< 8 := by
    show x.toNat <<< 8 % 2 ^ 64 = x.toNat <<< 8
    rw [Nat.shiftLeft_eq]
    omega
  rw [e, ← Nat.shiftLeft_add_eq_or_of_lt (by omega), Nat.shiftLeft_eq]
theorem app8_shr (m : UInt64) : (m >>> 8) <<< 8 ||| m.toUInt8.toUInt64 = m := by
  apply UInt64.toNat_inj.1
  have hm := UInt64.toNat_lt m
  rw [app8 _ _ (by rw [shr8]; omega), shr8, UInt64.toNat_toUInt8]
  omega
def shI8 (n : UInt64) : Nat → UInt64
  | 0 => n
  | j + 1 => shI8 n j >>> 8
theorem wdI_fst (n : UInt64) : ∀ j, (wdI n j).1 = shI8 n j
  | 0 => rfl
  | j + 1 => by show (wdI n j).1 >>> 8 = shI8 n j >>> 8; rw [wdI_fst n j]
theorem shI8_nat (n : UInt64) : ∀ j, (shI8 n j).toNat = n.toNat / 256 ^ j
  | 0 => by simp [shI8]
  | j + 1 => by rw [shI8, shr8, shI8_nat n j, Nat.pow_succ, Nat.div_div_eq_div_mul]
theorem getD_set8 (l : List UInt8) (i k : Nat) (x : UInt8) (hk : k < l.length) : (l.set i x).getD k 0 = if i = k then x else l.getD k 0 := getD_set' l i k x hk
theorem wdI_get (n : UInt64) : ∀ j, j ≤ 8 → ∀ i, i < j → (wdI n j).2.getD (7 - i) 0 = (shI8 n i).toUInt8
  | 0, _, i, h => absurd h (by omega)
  | j + 1, hj, i, hi => by
    show ((wdI n j).2.set (7 - j) (wdI n j).1.toUInt8).getD (7 - i) 0 = _
    rw [getD_set8 _ _ _ _ (by rw [wdI_len]; omega)]
    by_cases e : j = i
    · subst e; rw [if_pos rfl, wdI_fst]
    · rw [if_neg (by omega)]; exact wdI_get n j (by omega) i (by omega)
theorem wd_get (n : UInt64) (i : Nat) (hi : i < 8) : (wd n).getD i 0 = (shI8 n (7 - i)).toUInt8 := by
  have := wdI_get n 8 (Nat.le_refl _) (7 - i) (by omega)
  rwa [show 7 - (7 - i) = i by omega] at this
theorem nbI_wd (n : UInt64) : ∀ i, i ≤ 8 → nbI (wd n) i = shI8 n (8 - i)
  | 0, _ => by
    apply UInt64.toNat_inj.1
    rw [shI8_nat]
    have := UInt64.toNat_lt n
    show 0 = n.toNat / 256 ^ 8
    omega
  | i + 1, hi => by
    show (nbI (wd n) i <<< 8) ||| ((wd n).getD i 0).toUInt64 = _
    rw [nbI_wd n i (by omega), wd_get n i (by omega), show 8 - i = (7 - i) + 1 by omega, show 8 - (i + 1) = 7 - i by omega]
    exact app8_shr _
theorem nb_wd (n : UInt64) : nb (wd n) = n := by
  rw [nb, wd_len, nbI_wd n 8 (Nat.le_refl _)]
  rfl
theorem wd_inj {a b : UInt64} (h : wd a = wd b) : a = b := by rw [← nb_wd a, h, nb_wd]
theorem nbI_lt (l : List UInt8) : ∀ i, i ≤ 8 → (nbI l i).toNat < 256 ^ i
  | 0, _ => by show 0 < 1; omega
  | i + 1, hi => by
    have h := nbI_lt l i (by omega)
    have h2 : 256 ^ i ≤ 256 ^ 7 := Nat.pow_le_pow_right (by omega) (by omega)
    show ((nbI l i <<< 8) ||| (l.getD i 0).toUInt64).toNat < _
    rw [app8 _ _ (by have : (256 : Nat) ^ 7 = 72057594037927936 := rfl; omega), Nat.pow_succ]
    have := UInt8.toNat_lt (l.getD i 0)
    omega
theorem nbI_succ (l : List UInt8) (i : Nat) (hi : i < 8) : (nbI l (i + 1)).toNat = (nbI l i).toNat * 256 + (l.getD i 0).toNat := by
  have h := nbI_lt l i (by omega)
  have h2 : 256 ^ i ≤ 256 ^ 7 := Nat.pow_le_pow_right (by omega) (by omega)
  exact app8 _ _ (by have : (256 : Nat) ^ 7 = 72057594037927936 := rfl; omega)
theorem shI8_nb (l : List UInt8) : ∀ j, j ≤ 8 → (shI8 (nbI l 8) j).toNat = (nbI l (8 - j)).toNat
  | 0, _ => rfl
  | j + 1, hj => by
    rw [shI8, shr8, shI8_nb l j (by omega), show 8 - j = (8 - (j + 1)) + 1 by omega, nbI_succ l _ (by omega)]
    have := UInt8.toNat_lt (l.getD (8 - (j + 1)) 0)
    omega
theorem wd_nb {l : List UInt8} (hl : l.length = 8) : wd (nb l) = l := by
  apply List.ext_getElem
  · rw [wd_len, hl]
  · intro i h1 h2
    have hi : i < 8 := by omega
    have h := wd_get (nb l) i hi
    rw [List.getD_eq_getElem?_getD, List.getElem?_eq_getElem h1, Option.getD_some] at h
    rw [h]
    apply UInt8.toNat_inj.1
    have e : nb l = nbI l 8 := by rw [nb, hl]
    rw [UInt64.toNat_toUInt8, e, shI8_nb l (7 - i) (by omega), show 8 - (7 - i) = i + 1 by omega, nbI_succ l i hi, List.getD_eq_getElem?_getD, List.getElem?_eq_getElem h2, Option.getD_some]
    have := UInt8.toNat_lt l[i]
    omega
theorem fnd_box (s : SS) (key : List UInt8) (us : Int) (n : UInt64) : s.fnd key us (83 :: wd n) = if n.toNat < s.ts.length then if (s.ts.getD n.toNat (Kd.dflt tmK)).1 = key then if (s.ts.getD n.toNat (Kd.dflt tmK)).2.1 = us then some (s.ts.getD n.toNat (Kd.dflt tmK)).2.2.1 else none else none else none := by
  unfold SS.fnd
  rw [if_pos (by rw [List.length_cons, wd_len]), if_pos (by rfl), show List.drop 1 (83 :: wd n) = wd n from rfl, nb_wd]
structure SS.Sy (s : SS) : Prop where
  sy : s.sy = true
  cn : s.cn.toNat = s.ts.length
  ok : ∀ t ∈ s.ts, tmOK t
theorem put_long {s : SS} {key : List UInt8} {us : Int} {d : List UInt8} (h : 2000 < d.length) : s.put key us d = s := if_pos h
theorem box_long {s : SS} {key : List UInt8} {us : Int} {d : List UInt8} (h : 2000 < d.length) : s.box key us d = [] := if_pos h
theorem put_sy {s : SS} (hs : s.sy = true) {key : List UInt8} {us : Int} {d : List UInt8} (h : d.length ≤ 2000) : s.put key us d = ⟨true, s.seed, s.dr, s.cn + 1, s.ts ++ [(key, us, d, ())]⟩ := (if_neg (by omega)).trans (if_pos hs)
theorem box_sy {s : SS} (hs : s.sy = true) {key : List UInt8} {us : Int} {d : List UInt8} (h : d.length ≤ 2000) : s.box key us d = 83 :: wd s.cn := (if_neg (by omega)).trans (if_pos hs)
theorem put_ns {s : SS} (hs : s.sy = false) {key : List UInt8} {us : Int} {d : List UInt8} (h : d.length ≤ 2000) : s.put key us d = ⟨false, s.seed, s.dr, s.cn + 1, s.ts⟩ := (if_neg (by omega)).trans (if_neg (by rw [hs]; intro e; cases e))
theorem box_ns {s : SS} (hs : s.sy = false) {key : List UInt8} {us : Int} {d : List UInt8} (h : d.length ≤ 2000) : s.box key us d = (wd s.cn ++ strS key us s.cn d) ++ tagS key us (wd s.cn ++ strS key us s.cn d) := (if_neg (by omega)).trans (if_neg (by rw [hs]; intro e; cases e))
theorem SS.Sy.put {s : SS} (h : s.Sy) {key : List UInt8} {us : Int} {d : List UInt8} (hb : s.ts.length ≤ 1000000) : (s.put key us d).Sy := by
  by_cases hd : 2000 < d.length
  · rw [put_long hd]; exact h
  · rw [put_sy h.sy (by omega)]
    refine ⟨rfl, ?_, ?_⟩
    · show (s.cn + 1).toNat = (s.ts ++ [_]).length
      rw [UInt64.toNat_add, h.cn, List.length_append]
      show (s.ts.length + 1) % 2 ^ 64 = s.ts.length + 1
      omega
    · intro t ht
      rcases List.mem_append.1 ht with ht | ht
      · exact h.ok t ht
      · rw [List.mem_singleton] at ht
        subst ht
        show d.length ≤ 2000
        omega
theorem put_len {s : SS} {key : List UInt8} {us : Int} {d : List UInt8} : (s.put key us d).ts.length ≤ s.ts.length + 1 := by
  unfold SS.put
  split
  · exact Nat.le_succ _
  · split
    · rw [List.length_append]; exact Nat.le_refl _
    · exact Nat.le_succ _
theorem opn_sy_back {s : SS} (h : s.Sy) {key : List UInt8} {us : Int} {d : List UInt8} (hd : d.length ≤ 2000) : (s.put key us d).opn key us (s.box key us d) = some d := by
  rw [put_sy h.sy hd, box_sy h.sy hd]
  refine (if_pos rfl).trans ?_
  rw [fnd_box]
  have e : (s.ts ++ [(key, us, d, ())]).getD s.cn.toNat (Kd.dflt tmK) = (key, us, d, ()) := by
    rw [List.getD_eq_getElem?_getD, h.cn, List.getElem?_append_right (Nat.le_refl _), Nat.sub_self]
    rfl
  simp only [e]
  rw [if_pos (by rw [h.cn, List.length_append]; exact Nat.lt_succ_self _), if_pos trivial, if_pos trivial]
theorem fnd_put {s : SS} (hs : s.sy = true) {key k2 : List UInt8} {us u2 : Int} {d : List UInt8} {n : UInt64} (hn : n.toNat < s.ts.length) : (s.put key us d).fnd k2 u2 (83 :: wd n) = s.fnd k2 u2 (83 :: wd n) := by
  by_cases hd : 2000 < d.length
  · rw [put_long hd]
  · rw [put_sy hs (by omega), fnd_box, fnd_box]
    have e : (s.ts ++ [(key, us, d, ())]).getD n.toNat (Kd.dflt tmK) = s.ts.getD n.toNat (Kd.dflt tmK) := by
      rw [List.getD_eq_getElem?_getD, List.getElem?_append_left hn, ← List.getD_eq_getElem?_getD]
    simp only [e]
    rw [if_pos hn, if_pos (by rw [List.length_append]; exact Nat.lt_succ_of_lt hn)]
theorem opn_ns_back {s s2 : SS} (hs : s.sy = false) (h2 : s2.sy = false) {key : List UInt8} {us : Int} {d : List UInt8} (hd : d.length ≤ 2000) : s2.opn key us (s.box key us d) = some d := by
  rw [box_ns hs hd]
  have w1 := wd_len s.cn
  have w2 : (strS key us s.cn d).length = d.length := strS_len
  have w3 := tagS_len key us (wd s.cn ++ strS key us s.cn d)
  have w4 : (wd s.cn ++ strS key us s.cn d).length = 8 + d.length := by rw [List.length_append, w1, w2]
  have w5 : ((wd s.cn ++ strS key us s.cn d) ++ tagS key us (wd s.cn ++ strS key us s.cn d)).length = 8 + d.length + 16 := by rw [List.length_append, w4, w3]
  have w6 : List.take (8 + d.length) ((wd s.cn ++ strS key us s.cn d) ++ tagS key us (wd s.cn ++ strS key us s.cn d)) = wd s.cn ++ strS key us s.cn d := List.take_left' w4
  have w7 : List.drop (8 + d.length) ((wd s.cn ++ strS key us s.cn d) ++ tagS key us (wd s.cn ++ strS key us s.cn d)) = tagS key us (wd s.cn ++ strS key us s.cn d) := List.drop_left' w4
  have w8 : List.take 8 ((wd s.cn ++ strS key us s.cn d) ++ tagS key us (wd s.cn ++ strS key us s.cn d)) = wd s.cn := by rw [List.append_assoc]; exact List.take_left' w1
  have w9 : List.take d.length (List.drop 8 ((wd s.cn ++ strS key us s.cn d) ++ tagS key us (wd s.cn ++ strS key us s.cn d))) = strS key us s.cn d := by
    rw [List.append_assoc, List.drop_left' w1]; exact List.take_left' w2
  refine (if_neg (by rw [h2]; intro e; cases e)).trans ?_
  rw [w5, show 8 + d.length + 16 - 16 = 8 + d.length by omega, show 8 + d.length - 8 = d.length by omega, if_neg (by omega), if_neg (by omega), w6, w7, if_pos rfl, w8, w9, nb_wd, strS_twice]
theorem opn_cn {s : SS} (hs : s.sy = true) {key : List UInt8} {us : Int} {b : List UInt8} : s.opn key us b = s.fnd key us b := if_pos hs
end Go.Proofs.YtlnkfdblkdhdgaaDoor

namespace Go.Proofs.YtlnkfdblkdhdgaaDoor
open Go.Vc Go.Proofs
set_option maxRecDepth 10000
set_option maxHeartbeats 4000000
def kFnd : Con := Con.ofO [.o slF, .a (.v k16), .a (.v (.int .i64)), .a (.v (.slice false (.int .u8)))] [] (fun x => [x.1.2.2.2.2.1.i = 0, x.1.2.2.2.2.1.len = x.1.2.2.2.2.1.N, List.length (α := tmK.T) x.1.2.2.2.2.1.xs = x.1.2.2.2.2.1.N, x.1.2.2.2.2.1.N ≤ 1000000, List.length (α := UInt8) x.2.1 = 16, List.length (α := UInt8) x.2.2.2.1 ≤ 100000, ∀ t ∈ x.1.2.2.2.2.1.xs, tmOK t])
  (fun x => ⟨.tuple [.pure (.slice true (.int .u8)) (opB ((slM x.1).fnd x.2.1 x.2.2.1 x.2.2.2.1)), .int .i64 (opE ((slM x.1).fnd x.2.1 x.2.2.1 x.2.2.2.1))], [.agg [.bool (slM x.1).sy, .pure k16 (slM x.1).seed, .int .u64 (slM x.1).dr, .int .u64 (slM x.1).cn, .tsl 1 [] 0 0 18 (List.length (α := tmK.T) (slM x.1).ts)], .pure (.arr (List.length (α := tmK.T) (slM x.1).ts) tmK) (slM x.1).ts]⟩)
def cfgSC : Cfg2 := { ty := tyTabS, fn := fun | 39 => some kClo.sum | 84 => some kNb.sum | _ => none, G := shaG, pin := [], eq := eqS }
theorem cfgSC_ok : CfgOK Tryd.prog cfgSC := ⟨tyTabS_ok, (fun f s h => by
  simp only [cfgSC] at h
  split at h
  · injection h with h; subst h; exact .inl clo_sum
  · injection h with h; subst h; exact .inl number_sum
  · cases h), eqS_ok⟩
section
attribute [local go_sem] Tryd.f82 kFnd kClo kNb cfgSC tyTabS eqS ssM_eta
theorem find_body (p : kFnd.Par) (hp : ∀ q ∈ kFnd.pre p, q) : BodyOK Tryd.prog cfgSC Tryd.f82 (Tryd.f82.body.get rfl) kFnd p := by
  obtain ⟨⟨(sy : Bool), (seed : List UInt8), (dr : UInt64), (cn : UInt64), ⟨N, i0, len, (ts : List tmK.T)⟩, u1⟩, (key : List UInt8), (us : Int), (b : List UInt8), u⟩ := p
  obtain ⟨h0, h1, h2, h3, h4, h5, h6, _⟩ := Obs.of hp
  replace h0 : i0 = 0 := h0
  replace h1 : len = N := h1
  replace h2 : ts.length = N := h2
  replace h3 : N ≤ 1000000 := h3
  replace h4 : key.length = 16 := h4
  replace h5 : b.length ≤ 100000 := h5
  replace h6 : ∀ t ∈ ts, tmOK t := h6
  subst h0 h1 h2
  refine ⟨?_, Nat.le_refl _, rfl, rfl⟩
  show Tri _ _ _ (Code.seq _ (Code.seq (Code.seq _ (Code.cond _ (Code.seq _ _) _)) (Code.seq _ (Code.seq (Code.seq _ (Code.cond _ (Code.seq _ _) _)) (Code.seq _ _))))) _
  by_cases k1 : b.length = 9
  rotate_left
  · have k1' : decide ((b.length : Int) = 9) = false := decide_eq_false (by omega)
    have e1 : (ssM sy seed dr cn ts).fnd key us b = none := if_neg k1
    refine Tri.at (by first | (simp only [k1', Con.start, go_sem]; rfl) | rfl) ?_
    repeat (first | ((first | refine Tri.seq (Tri.regT (cfgSC_ok.pins _) ?_) | refine Tri.rgnT (cfgSC_ok.pins _) ?_); (repeat (first | refine RunT.oneA (hp := by simp (maxSteps := 2000000) (disch := first | decide | omega | (simp only [List.length_append, List.length_cons, List.length_nil, List.length_take, List.length_drop]; omega)) only [k1', go_sem]; rfl) (h := ?_) | refine RunT.notA (h := ?_))); refine RunT.nil ?_; try simp only [InBlock, Then]) | refine Tri.cF (by first | (simp only [k1', go_sem]; done) | fail) ?_ | refine Tri.cT (by first | (simp only [k1', go_sem]; done) | fail) ?_ | (refine Tri.skip ?_; try simp only [InBlock, Then]) | (refine Tri.exit ?_; simp only [Then, InBlock, if_true, if_false, ↓reduceIte, Nat.reduceEqDiff]) | refine Tri.seq (Tri.block ?_) | refine Tri.block ?_ | refine Tri.seq ?_ | (refine Tri.ret ?_; refine Con.fin (.inl rfl) (by simp only [Tryd.f82, cfgSC, resA, resA1, go_sem]; rfl) (by simp only [Obs, and_true, true_and]) (by first | (simp only [kFnd, Con.of, Con.ofO, resV, k1', go_sem]; done) | fail) trivial rfl rfl))
    refine Tri.phT 8 (.int .u8) 1 rfl rfl ?_
    refine Tri.at (by first | (simp only [k1', Con.start, go_sem]; rfl) | rfl) ?_
    refine Tri.rel true 3 rfl ?_ rfl rfl ?_
    · simp only [AS.blk, go_sem]
      repeat' constructor
    refine Tri.at (by first | (simp only [k1', Con.start, go_sem]; rfl) | rfl) ?_
    refine Tri.ret ?_
    refine Con.fin (.inl rfl) (by simp only [Tryd.f82, cfgSC, resA, resA1, go_sem]; rfl) (by simp only [Obs, and_true, true_and]) ?_ ?_ rfl rfl
    · show AV.tuple [.pure (.slice true (.int .u8)) ([] : List UInt8), .int .i64 (40 : Int)] = AV.tuple [.pure (.slice true (.int .u8)) (opB ((ssM sy seed dr cn ts).fnd key us b)), .int .i64 (opE ((ssM sy seed dr cn ts).fnd key us b))]
      rw [e1]
      rfl
    · exact ⟨rfl, rfl, trivial⟩
  have k1' : decide ((b.length : Int) = 9) = true := decide_eq_true (by omega)
  by_cases k2 : b.getD 0 0 = 83
  rotate_left
  · have k2' : decide (b.getD 0 0 = 83) = false := decide_eq_false k2
    have e1 : (ssM sy seed dr cn ts).fnd key us b = none := (if_pos k1).trans (if_neg k2)
    refine Tri.at (by first | (simp only [k1', k2', Con.start, go_sem]; rfl) | rfl) ?_
    repeat (first | ((first | refine Tri.seq (Tri.regT (cfgSC_ok.pins _) ?_) | refine Tri.rgnT (cfgSC_ok.pins _) ?_); (repeat (first | refine RunT.oneA (hp := by simp (maxSteps := 2000000) (disch := first | decide | omega | (simp only [List.length_append, List.length_cons, List.length_nil, List.length_take, List.length_drop]; omega)) only [k1', k2', go_sem]; rfl) (h := ?_) | refine RunT.notA (h := ?_))); refine RunT.nil ?_; try simp only [InBlock, Then]) | refine Tri.cF (by first | (simp only [k1', k2', go_sem]; done) | fail) ?_ | refine Tri.cT (by first | (simp only [k1', k2', go_sem]; done) | fail) ?_ | (refine Tri.skip ?_; try simp only [InBlock, Then]) | (refine Tri.exit ?_; simp only [Then, InBlock, if_true, if_false, ↓reduceIte, Nat.reduceEqDiff]) | refine Tri.seq (Tri.block ?_) | refine Tri.block ?_ | refine Tri.seq ?_ | (refine Tri.ret ?_; refine Con.fin (.inl rfl) (by simp only [Tryd.f82, cfgSC, resA, resA1, go_sem]; rfl) (by simp only [Obs, and_true, true_and]) (by first | (simp only [kFnd, Con.of, Con.ofO, resV, k1', k2', go_sem]; done) | fail) trivial rfl rfl))
    refine Tri.phT 8 (.int .u8) 1 rfl rfl ?_
    refine Tri.at (by first | (simp only [k1', k2', Con.start, go_sem]; rfl) | rfl) ?_
    refine Tri.rel true 3 rfl ?_ rfl rfl ?_
    · simp only [AS.blk, go_sem]
      repeat' constructor
    refine Tri.at (by first | (simp only [k1', k2', Con.start, go_sem]; rfl) | rfl) ?_
    refine Tri.ret ?_
    refine Con.fin (.inl rfl) (by simp only [Tryd.f82, cfgSC, resA, resA1, go_sem]; rfl) (by simp only [Obs, and_true, true_and]) ?_ ?_ rfl rfl
    · show AV.tuple [.pure (.slice true (.int .u8)) ([] : List UInt8), .int .i64 (40 : Int)] = AV.tuple [.pure (.slice true (.int .u8)) (opB ((ssM sy seed dr cn ts).fnd key us b)), .int .i64 (opE ((ssM sy seed dr cn ts).fnd key us b))]
      rw [e1]
      rfl
    · exact ⟨rfl, rfl, trivial⟩
  have k2' : decide (b.getD 0 0 = 83) = true := decide_eq_true k2
  have b1 : List.take (b.length - 1) (List.drop 1 b) = List.drop 1 b := List.take_of_length_le (by rw [List.length_drop]; exact Nat.le_refl _)
  generalize hn : nb (List.drop 1 b) = n
  have hd : (UInt64.ofInt (ts.length : Int)).toNat = ts.length := by
    exact u64_nat (by omega)
  have e0 : (ssM sy seed dr cn ts).fnd key us b = if n.toNat < ts.length then if (ts.getD n.toNat (Kd.dflt tmK)).1 = key then if (ts.getD n.toNat (Kd.dflt tmK)).2.1 = us then some (ts.getD n.toNat (Kd.dflt tmK)).2.2.1 else none else none else none := by
    rw [← hn]
    exact (if_pos k1).trans (if_pos k2)
  by_cases k3 : n.toNat < ts.length
  rotate_left
  · have k3' : decide (n < UInt64.ofInt (ts.length : Int)) = false := decide_eq_false (by rw [UInt64.lt_iff_toNat_lt, hd]; exact k3)
    have e1 : (ssM sy seed dr cn ts).fnd key us b = none := e0.trans (if_neg k3)
    refine Tri.at (by first | (simp only [k1', k2', k3', b1, hn, Con.start, go_sem]; rfl) | rfl) ?_
    repeat (first | ((first | refine Tri.seq (Tri.regT (cfgSC_ok.pins _) ?_) | refine Tri.rgnT (cfgSC_ok.pins _) ?_); (repeat (first | refine RunT.oneA (hp := by simp (maxSteps := 2000000) (disch := first | decide | omega | (simp only [List.length_append, List.length_cons, List.length_nil, List.length_take, List.length_drop]; omega)) only [k1', k2', k3', b1, hn, go_sem]; rfl) (h := ?_) | refine RunT.notA (h := ?_))); refine RunT.nil ?_; try simp only [InBlock, Then]) | ((first | refine Tri.seq (Tri.drwT (mixed) (cfgSC_ok.pins _) ?_) | refine Tri.drnT (mixed) (cfgSC_ok.pins _) ?_); (repeat (first | refine RunD.oneA (hp := by simp (maxSteps := 2000000) (disch := first | decide | omega | (simp only [List.length_append, List.length_cons, List.length_nil, List.length_take, List.length_drop]; omega)) only [k1', k2', k3', b1, hn, go_sem]; rfl) (h := ?_) | refine RunD.notA (h := ?_))); refine RunD.nil ?_; refine ⟨by kernel_rfl, ?_⟩; try simp only [InBlock, Then]) | refine Tri.cF (by first | (simp only [k1', k2', k3', b1, hn, go_sem]; done) | fail) ?_ | refine Tri.cT (by first | (simp only [k1', k2', k3', b1, hn, go_sem]; done) | fail) ?_ | (refine Tri.skip ?_; try simp only [InBlock, Then]) | (refine Tri.exit ?_; simp only [Then, InBlock, if_true, if_false, ↓reduceIte, Nat.reduceEqDiff]) | refine Tri.seq (Tri.block ?_) | refine Tri.block ?_ | refine Tri.seq ?_ | (refine Tri.ret ?_; refine Con.fin (.inl rfl) (by simp only [Tryd.f82, cfgSC, resA, resA1, go_sem]; rfl) (by simp only [Obs, and_true, true_and]) (by first | (simp only [kFnd, Con.of, Con.ofO, resV, k1', k2', k3', b1, hn, go_sem]; done) | fail) trivial rfl rfl))
    refine Tri.phT 8 (.int .u8) 1 rfl rfl ?_
    refine Tri.at (by first | (simp only [k1', k2', k3', b1, hn, Con.start, go_sem]; rfl) | rfl) ?_
    refine Tri.rel true 3 rfl ?_ rfl rfl ?_
    · simp only [AS.blk, go_sem]
      repeat' constructor
    refine Tri.at (by first | (simp only [k1', k2', k3', b1, hn, Con.start, go_sem]; rfl) | rfl) ?_
    refine Tri.ret ?_
    refine Con.fin (.inl rfl) (by simp only [Tryd.f82, cfgSC, resA, resA1, go_sem]; rfl) (by simp only [Obs, and_true, true_and]) ?_ ?_ rfl rfl
    · show AV.tuple [.pure (.slice true (.int .u8)) ([] : List UInt8), .int .i64 (40 : Int)] = AV.tuple [.pure (.slice true (.int .u8)) (opB ((ssM sy seed dr cn ts).fnd key us b)), .int .i64 (opE ((ssM sy seed dr cn ts).fnd key us b))]
      rw [e1]
      rfl
    · exact ⟨rfl, rfl, trivial⟩
  have k3' : decide (n < UInt64.ofInt (ts.length : Int)) = true := decide_eq_true (by rw [UInt64.lt_iff_toNat_lt, hd]; exact k3)
  replace e0 : (ssM sy seed dr cn ts).fnd key us b = if n.toNat < ts.length then if (ts.getD n.toNat ([0, 0, 0, 0, 0, 0, 0, 0, 0, 0, 0, 0, 0, 0, 0, 0], 0, [], ())).1 = key then if (ts.getD n.toNat ([0, 0, 0, 0, 0, 0, 0, 0, 0, 0, 0, 0, 0, 0, 0, 0], 0, [], ())).2.1 = us then some (ts.getD n.toNat ([0, 0, 0, 0, 0, 0, 0, 0, 0, 0, 0, 0, 0, 0, 0, 0], 0, [], ())).2.2.1 else none else none else none := e0
  generalize ht : ts.getD n.toNat ([0, 0, 0, 0, 0, 0, 0, 0, 0, 0, 0, 0, 0, 0, 0, 0], 0, [], ()) = t at e0
  obtain ⟨(tk : List UInt8), (tu : Int), (tp : List UInt8), u9⟩ := t
  replace e0 := e0.trans (if_pos k3)
  by_cases k4 : tk = key
  rotate_left
  · have k4' : eqT k16 tk key = false := decide_eq_false k4
    have e1 : (ssM sy seed dr cn ts).fnd key us b = none := e0.trans (if_neg k4)
    refine Tri.at (by first | (simp only [k1', k2', k3', b1, hn, ht, k4', Con.start, go_sem]; rfl) | rfl) ?_
    repeat (first | ((first | refine Tri.seq (Tri.regT (cfgSC_ok.pins _) ?_) | refine Tri.rgnT (cfgSC_ok.pins _) ?_); (repeat (first | refine RunT.oneA (hp := by simp (maxSteps := 2000000) (disch := first | decide | omega | (simp only [List.length_append, List.length_cons, List.length_nil, List.length_take, List.length_drop]; omega)) only [k1', k2', k3', b1, hn, ht, k4', go_sem]; rfl) (h := ?_) | refine RunT.notA (h := ?_))); refine RunT.nil ?_; try simp only [InBlock, Then]) | ((first | refine Tri.seq (Tri.drwT (mixed) (cfgSC_ok.pins _) ?_) | refine Tri.drnT (mixed) (cfgSC_ok.pins _) ?_); (repeat (first | refine RunD.oneA (hp := by simp (maxSteps := 2000000) (disch := first | decide | omega | (simp only [List.length_append, List.length_cons, List.length_nil, List.length_take, List.length_drop]; omega)) only [k1', k2', k3', b1, hn, ht, k4', go_sem]; rfl) (h := ?_) | refine RunD.notA (h := ?_))); refine RunD.nil ?_; refine ⟨by kernel_rfl, ?_⟩; try simp only [InBlock, Then]) | refine Tri.cF (by first | (simp only [k1', k2', k3', b1, hn, ht, k4', go_sem]; done) | fail) ?_ | refine Tri.cT (by first | (simp only [k1', k2', k3', b1, hn, ht, k4', go_sem]; done) | fail) ?_ | (refine Tri.skip ?_; try simp only [InBlock, Then]) | (refine Tri.exit ?_; simp only [Then, InBlock, if_true, if_false, ↓reduceIte, Nat.reduceEqDiff]) | refine Tri.seq (Tri.block ?_) | refine Tri.block ?_ | refine Tri.seq ?_ | (refine Tri.ret ?_; refine Con.fin (.inl rfl) (by simp only [Tryd.f82, cfgSC, resA, resA1, go_sem]; rfl) (by simp only [Obs, and_true, true_and]) (by first | (simp only [kFnd, Con.of, Con.ofO, resV, k1', k2', k3', b1, hn, ht, k4', go_sem]; done) | fail) trivial rfl rfl))
    refine Tri.phT 8 (.int .u8) 1 rfl rfl ?_
    refine Tri.at (by first | (simp only [k1', k2', k3', b1, hn, ht, k4', Con.start, go_sem]; rfl) | rfl) ?_
    refine Tri.rel true 3 rfl ?_ rfl rfl ?_
    · simp only [AS.blk, go_sem]
      repeat' constructor
    refine Tri.at (by first | (simp only [k1', k2', k3', b1, hn, ht, k4', Con.start, go_sem]; rfl) | rfl) ?_
    refine Tri.ret ?_
    refine Con.fin (.inl rfl) (by simp only [Tryd.f82, cfgSC, resA, resA1, go_sem]; rfl) (by simp only [Obs, and_true, true_and]) ?_ ?_ rfl rfl
    · show AV.tuple [.pure (.slice true (.int .u8)) ([] : List UInt8), .int .i64 (40 : Int)] = AV.tuple [.pure (.slice true (.int .u8)) (opB ((ssM sy seed dr cn ts).fnd key us b)), .int .i64 (opE ((ssM sy seed dr cn ts).fnd key us b))]
      rw [e1]
      rfl
    · exact ⟨rfl, rfl, trivial⟩
  have k4' : eqT k16 tk key = true := decide_eq_true k4
  replace e0 := e0.trans (if_pos k4)
  by_cases k5 : tu = us
  rotate_left
  · have k5' : decide (tu = us) = false := decide_eq_false k5
    have e1 : (ssM sy seed dr cn ts).fnd key us b = none := e0.trans (if_neg k5)
    refine Tri.at (by first | (simp only [k1', k2', k3', b1, hn, ht, k4', k5', Con.start, go_sem]; rfl) | rfl) ?_
    repeat (first | ((first | refine Tri.seq (Tri.regT (cfgSC_ok.pins _) ?_) | refine Tri.rgnT (cfgSC_ok.pins _) ?_); (repeat (first | refine RunT.oneA (hp := by simp (maxSteps := 2000000) (disch := first | decide | omega | (simp only [List.length_append, List.length_cons, List.length_nil, List.length_take, List.length_drop]; omega)) only [k1', k2', k3', b1, hn, ht, k4', k5', go_sem]; rfl) (h := ?_) | refine RunT.notA (h := ?_))); refine RunT.nil ?_; try simp only [InBlock, Then]) | ((first | refine Tri.seq (Tri.drwT (mixed) (cfgSC_ok.pins _) ?_) | refine Tri.drnT (mixed) (cfgSC_ok.pins _) ?_); (repeat (first | refine RunD.oneA (hp := by simp (maxSteps := 2000000) (disch := first | decide | omega | (simp only [List.length_append, List.length_cons, List.length_nil, List.length_take, List.length_drop]; omega)) only [k1', k2', k3', b1, hn, ht, k4', k5', go_sem]; rfl) (h := ?_) | refine RunD.notA (h := ?_))); refine RunD.nil ?_; refine ⟨by kernel_rfl, ?_⟩; try simp only [InBlock, Then]) | refine Tri.cF (by first | (simp only [k1', k2', k3', b1, hn, ht, k4', k5', go_sem]; done) | fail) ?_ | refine Tri.cT (by first | (simp only [k1', k2', k3', b1, hn, ht, k4', k5', go_sem]; done) | fail) ?_ | (refine Tri.skip ?_; try simp only [InBlock, Then]) | (refine Tri.exit ?_; simp only [Then, InBlock, if_true, if_false, ↓reduceIte, Nat.reduceEqDiff]) | refine Tri.seq (Tri.block ?_) | refine Tri.block ?_ | refine Tri.seq ?_ | (refine Tri.ret ?_; refine Con.fin (.inl rfl) (by simp only [Tryd.f82, cfgSC, resA, resA1, go_sem]; rfl) (by simp only [Obs, and_true, true_and]) (by first | (simp only [kFnd, Con.of, Con.ofO, resV, k1', k2', k3', b1, hn, ht, k4', k5', go_sem]; done) | fail) trivial rfl rfl))
    refine Tri.phT 8 (.int .u8) 1 rfl rfl ?_
    refine Tri.at (by first | (simp only [k1', k2', k3', b1, hn, ht, k4', k5', Con.start, go_sem]; rfl) | rfl) ?_
    refine Tri.rel true 3 rfl ?_ rfl rfl ?_
    · simp only [AS.blk, go_sem]
      repeat' constructor
    refine Tri.at (by first | (simp only [k1', k2', k3', b1, hn, ht, k4', k5', Con.start, go_sem]; rfl) | rfl) ?_
    refine Tri.ret ?_
    refine Con.fin (.inl rfl) (by simp only [Tryd.f82, cfgSC, resA, resA1, go_sem]; rfl) (by simp only [Obs, and_true, true_and]) ?_ ?_ rfl rfl
    · show AV.tuple [.pure (.slice true (.int .u8)) ([] : List UInt8), .int .i64 (40 : Int)] = AV.tuple [.pure (.slice true (.int .u8)) (opB ((ssM sy seed dr cn ts).fnd key us b)), .int .i64 (opE ((ssM sy seed dr cn ts).fnd key us b))]
      rw [e1]
      rfl
    · exact ⟨rfl, rfl, trivial⟩
  have k5' : decide (tu = us) = true := decide_eq_true k5
  have e1 : (ssM sy seed dr cn ts).fnd key us b = some tp := e0.trans (if_pos k5)
  have hp : tp.length ≤ 2000 := by
    have h7 : (tk, tu, tp, u9) ∈ ts := by
      rw [← ht, List.getD_eq_getElem?_getD, List.getElem?_eq_getElem k3]
      exact List.getElem_mem k3
    exact h6 _ h7
  refine Tri.at (by first | (simp only [k1', k2', k3', b1, hn, ht, k4', k5', Con.start, go_sem]; rfl) | rfl) ?_
  repeat (first | ((first | refine Tri.seq (Tri.regT (cfgSC_ok.pins _) ?_) | refine Tri.rgnT (cfgSC_ok.pins _) ?_); (repeat (first | refine RunT.oneA (hp := by simp (maxSteps := 2000000) (disch := first | decide | omega | (simp only [List.length_append, List.length_cons, List.length_nil, List.length_take, List.length_drop]; omega)) only [k1', k2', k3', b1, hn, ht, k4', k5', go_sem]; rfl) (h := ?_) | refine RunT.notA (h := ?_))); refine RunT.nil ?_; try simp only [InBlock, Then]) | ((first | refine Tri.seq (Tri.drwT (mixed) (cfgSC_ok.pins _) ?_) | refine Tri.drnT (mixed) (cfgSC_ok.pins _) ?_); (repeat (first | refine RunD.oneA (hp := by simp (maxSteps := 2000000) (disch := first | decide | omega | (simp only [List.length_append, List.length_cons, List.length_nil, List.length_take, List.length_drop]; omega)) only [k1', k2', k3', b1, hn, ht, k4', k5', go_sem]; rfl) (h := ?_) | refine RunD.notA (h := ?_))); refine RunD.nil ?_; refine ⟨by kernel_rfl, ?_⟩; try simp only [InBlock, Then]) | refine Tri.cF (by first | (simp only [k1', k2', k3', b1, hn, ht, k4', k5', go_sem]; done) | fail) ?_ | refine Tri.cT (by first | (simp only [k1', k2', k3', b1, hn, ht, k4', k5', go_sem]; done) | fail) ?_ | (refine Tri.skip ?_; try simp only [InBlock, Then]) | (refine Tri.exit ?_; simp only [Then, InBlock, if_true, if_false, ↓reduceIte, Nat.reduceEqDiff]) | refine Tri.seq (Tri.block ?_) | refine Tri.block ?_ | refine Tri.seq ?_ | (refine Tri.ret ?_; refine Con.fin (.inl rfl) (by simp only [Tryd.f82, cfgSC, resA, resA1, go_sem]; rfl) (by simp only [Obs, and_true, true_and]) (by first | (simp only [kFnd, Con.of, Con.ofO, resV, k1', k2', k3', b1, hn, ht, k4', k5', go_sem]; done) | fail) trivial rfl rfl))
  refine Tri.ret ?_
  refine Con.fin (.inl rfl) (by simp only [Tryd.f82, cfgSC, resA, resA1, go_sem]; rfl) (by simp only [Obs, and_true, true_and]) ?_ ?_ rfl rfl
  · show AV.tuple [.pure (.slice true (.int .u8)) tp, .int .i64 (0 : Int)] = AV.tuple [.pure (.slice true (.int .u8)) (opB ((ssM sy seed dr cn ts).fnd key us b)), .int .i64 (opE ((ssM sy seed dr cn ts).fnd key us b))]
    rw [e1]
    rfl
  · exact ⟨rfl, rfl, trivial⟩
theorem find_sum : FSumOK Tryd.prog cfgSC.G 82 kFnd.sum := Con.sumOK cfgSC_ok kFnd Tryd.func82 rfl rfl (Con.ofO_inv _ _ _ _) find_body
end
def kOpn : Con := Con.ofO [.o slF, .a (.v k16), .a (.v (.int .i64)), .a (.v (.slice false (.int .u8)))] [] (fun x => [x.1.2.2.2.2.1.i = 0, x.1.2.2.2.2.1.len = x.1.2.2.2.2.1.N, List.length (α := tmK.T) x.1.2.2.2.2.1.xs = x.1.2.2.2.2.1.N, x.1.2.2.2.2.1.N ≤ 1000000, List.length (α := UInt8) x.2.1 = 16, List.length (α := UInt8) x.2.2.2.1 ≤ 100000, ∀ t ∈ x.1.2.2.2.2.1.xs, tmOK t])
  (fun x => ⟨.tuple [.pure (.slice true (.int .u8)) (opB ((slM x.1).opn x.2.1 x.2.2.1 x.2.2.2.1)), .int .i64 (opE ((slM x.1).opn x.2.1 x.2.2.1 x.2.2.2.1))], [.agg [.bool (slM x.1).sy, .pure k16 (slM x.1).seed, .int .u64 (slM x.1).dr, .int .u64 (slM x.1).cn, .tsl 1 [] 0 0 18 (List.length (α := tmK.T) (slM x.1).ts)], .pure (.arr (List.length (α := tmK.T) (slM x.1).ts) tmK) (slM x.1).ts]⟩)
def cfgSD : Cfg2 := { ty := tyTabS, fn := fun | 82 => some kFnd.sum | 84 => some kNb.sum | 83 => some kEq.sum | 72 => some kStr.sum | 73 => some kTag.sum | _ => none, G := shaG, pin := [], eq := eqS }
theorem cfgSD_ok : CfgOK Tryd.prog cfgSD := ⟨tyTabS_ok, (fun f s h => by
  simp only [cfgSD] at h
  split at h
  · injection h with h; subst h; exact .inl find_sum
  · injection h with h; subst h; exact .inl number_sum
  · injection h with h; subst h; exact .inl equal_sum
  · injection h with h; subst h; exact .inl str_sum
  · injection h with h; subst h; exact .inl tag_sum
  · cases h), eqS_ok⟩
section
attribute [local go_sem] Tryd.f49 kOpn kFnd kNb kEq kStr kTag cfgSD tyTabS eqS ssM_eta
theorem open_body (p : kOpn.Par) (hp : ∀ q ∈ kOpn.pre p, q) : BodyOK Tryd.prog cfgSD Tryd.f49 (Tryd.f49.body.get rfl) kOpn p := by
  obtain ⟨⟨(sy : Bool), (seed : List UInt8), (dr : UInt64), (cn : UInt64), ⟨N, i0, len, (ts : List tmK.T)⟩, u1⟩, (key : List UInt8), (us : Int), (b : List UInt8), u⟩ := p
  obtain ⟨h0, h1, h2, h3, h4, h5, h6, _⟩ := Obs.of hp
  replace h0 : i0 = 0 := h0
  replace h1 : len = N := h1
  replace h2 : ts.length = N := h2
  replace h3 : N ≤ 1000000 := h3
  replace h4 : key.length = 16 := h4
  replace h5 : b.length ≤ 100000 := h5
  replace h6 : ∀ t ∈ ts, tmOK t := h6
  subst h0 h1 h2
  refine ⟨?_, Nat.le_refl _, rfl, rfl⟩
  show Tri _ _ _ (Code.seq _ (Code.seq (Code.seq _ (Code.cond _ (Code.seq _ _) _)) (Code.seq _ (Code.seq (Code.seq _ (Code.cond _ (Code.seq _ _) _)) (Code.seq _ _))))) _
  cases sy with
  | true =>
    have e1 : (ssM true seed dr cn ts).opn key us b = (ssM true seed dr cn ts).fnd key us b := if_pos rfl
    generalize hf : (ssM true seed dr cn ts).fnd key us b = f at e1
    refine Tri.at (by first | (simp only [hf, Con.start, go_sem]; rfl) | rfl) ?_
    repeat (first | ((first | refine Tri.seq (Tri.regT (cfgSD_ok.pins _) ?_) | refine Tri.rgnT (cfgSD_ok.pins _) ?_); (repeat (first | refine RunT.oneA (hp := by simp (maxSteps := 2000000) (disch := first | decide | omega | (simp only [List.length_append, List.length_cons, List.length_nil, List.length_take, List.length_drop]; omega)) only [hf, go_sem]; rfl) (h := ?_) | refine RunT.notA (h := ?_))); refine RunT.nil ?_; try simp only [InBlock, Then]) | refine Tri.cF (by first | (simp only [hf, go_sem]; done) | fail) ?_ | refine Tri.cT (by first | (simp only [hf, go_sem]; done) | fail) ?_ | (refine Tri.skip ?_; try simp only [InBlock, Then]) | (refine Tri.exit ?_; simp only [Then, InBlock, if_true, if_false, ↓reduceIte, Nat.reduceEqDiff]) | refine Tri.seq (Tri.block ?_) | refine Tri.block ?_ | refine Tri.seq ?_ | (refine Tri.ret ?_; refine Con.fin (.inl rfl) (by simp only [Tryd.f49, cfgSD, resA, resA1, go_sem]; rfl) (by simp only [Obs, and_true, true_and]) (by first | (simp only [kOpn, Con.of, Con.ofO, resV, hf, go_sem]; done) | fail) trivial rfl rfl))
    refine Tri.ret ?_
    refine Con.fin (.inl rfl) (by simp only [Tryd.f49, cfgSD, resA, resA1, go_sem]; rfl) (by simp only [Obs, and_true, true_and]) ?_ ?_ rfl rfl
    · show AV.tuple [.pure (.slice true (.int .u8)) (opB f), .int .i64 (opE f)] = AV.tuple [.pure (.slice true (.int .u8)) (opB ((ssM true seed dr cn ts).opn key us b)), .int .i64 (opE ((ssM true seed dr cn ts).opn key us b))]
      rw [e1]
    · exact ⟨rfl, rfl, trivial⟩
  | false =>
    have e0 : (ssM false seed dr cn ts).opn key us b = if b.length < 24 then none else if 2024 < b.length then none else if b.drop (b.length - 16) = tagS key us (b.take (b.length - 16)) then some (strS key us (nb (b.take 8)) (List.take (b.length - 16 - 8) (List.drop 8 b))) else none := if_neg (by intro e; cases e)
    by_cases k1 : b.length < 24
    · have k1' : decide ((b.length : Int) - 16 < 8) = true := decide_eq_true (by omega)
      have e1 : (ssM false seed dr cn ts).opn key us b = none := e0.trans (if_pos k1)
      refine Tri.at (by first | (simp only [k1', Con.start, go_sem]; rfl) | rfl) ?_
      repeat (first | ((first | refine Tri.seq (Tri.regT (cfgSD_ok.pins _) ?_) | refine Tri.rgnT (cfgSD_ok.pins _) ?_); (repeat (first | refine RunT.oneA (hp := by simp (maxSteps := 2000000) (disch := first | decide | omega | (simp only [List.length_append, List.length_cons, List.length_nil, List.length_take, List.length_drop]; omega)) only [k1', go_sem]; rfl) (h := ?_) | refine RunT.notA (h := ?_))); refine RunT.nil ?_; try simp only [InBlock, Then]) | ((first | refine Tri.seq (Tri.drwT (mixed) (cfgSD_ok.pins _) ?_) | refine Tri.drnT (mixed) (cfgSD_ok.pins _) ?_); (repeat (first | refine RunD.oneA (hp := by simp (maxSteps := 2000000) (disch := first | decide | omega | (simp only [List.length_append, List.length_cons, List.length_nil, List.length_take, List.length_drop]; omega)) only [k1', go_sem]; rfl) (h := ?_) | refine RunD.notA (h := ?_))); refine RunD.nil ?_; refine ⟨by kernel_rfl, ?_⟩; try simp only [InBlock, Then]) | refine Tri.cF (by first | (simp only [k1', go_sem]; done) | fail) ?_ | refine Tri.cT (by first | (simp only [k1', go_sem]; done) | fail) ?_ | (refine Tri.skip ?_; try simp only [InBlock, Then]) | (refine Tri.exit ?_; simp only [Then, InBlock, if_true, if_false, ↓reduceIte, Nat.reduceEqDiff]) | refine Tri.seq (Tri.block ?_) | refine Tri.block ?_ | refine Tri.seq ?_ | (refine Tri.ret ?_; refine Con.fin (.inl rfl) (by simp only [Tryd.f49, cfgSD, resA, resA1, go_sem]; rfl) (by simp only [Obs, and_true, true_and]) (by first | (simp only [kOpn, Con.of, Con.ofO, resV, k1', go_sem]; done) | fail) trivial rfl rfl))
      refine Tri.phT 8 (.int .u8) 1 rfl rfl ?_
      refine Tri.at (by first | (simp only [k1', Con.start, go_sem]; rfl) | rfl) ?_
      refine Tri.rel true 3 rfl ?_ rfl rfl ?_
      · simp only [AS.blk, go_sem]
        repeat' constructor
      refine Tri.at (by first | (simp only [k1', Con.start, go_sem]; rfl) | rfl) ?_
      refine Tri.ret ?_
      refine Con.fin (.inl rfl) (by simp only [Tryd.f49, cfgSD, resA, resA1, go_sem]; rfl) (by simp only [Obs, and_true, true_and]) ?_ ?_ rfl rfl
      · show AV.tuple [.pure (.slice true (.int .u8)) ([] : List UInt8), .int .i64 (40 : Int)] = AV.tuple [.pure (.slice true (.int .u8)) (opB ((ssM false seed dr cn ts).opn key us b)), .int .i64 (opE ((ssM false seed dr cn ts).opn key us b))]
        rw [e1]
        rfl
      · exact ⟨rfl, rfl, trivial⟩
    replace e0 := e0.trans (if_neg k1)
    have k1' : decide ((b.length : Int) - 16 < 8) = false := decide_eq_false (by omega)
    obtain ⟨m, hm⟩ : ∃ m : Nat, (b.length : Int) - 16 = (m : Int) := ⟨b.length - 16, by omega⟩
    have hm2 : b.length - 16 = m := by omega
    rw [hm] at k1'
    rw [hm2] at e0
    by_cases k2 : 2024 < b.length
    · have k2' : decide ((2000 : Int) < (m : Int) - 8) = true := decide_eq_true (by omega)
      have e1 : (ssM false seed dr cn ts).opn key us b = none := e0.trans (if_pos k2)
      refine Tri.at (by first | (simp only [k1', k2', hm, Con.start, go_sem]; rfl) | rfl) ?_
      repeat (first | ((first | refine Tri.seq (Tri.regT (cfgSD_ok.pins _) ?_) | refine Tri.rgnT (cfgSD_ok.pins _) ?_); (repeat (first | refine RunT.oneA (hp := by simp (maxSteps := 2000000) (disch := first | decide | omega | (simp only [List.length_append, List.length_cons, List.length_nil, List.length_take, List.length_drop]; omega)) only [k1', k2', hm, go_sem]; rfl) (h := ?_) | refine RunT.notA (h := ?_))); refine RunT.nil ?_; try simp only [InBlock, Then]) | ((first | refine Tri.seq (Tri.drwT (mixed) (cfgSD_ok.pins _) ?_) | refine Tri.drnT (mixed) (cfgSD_ok.pins _) ?_); (repeat (first | refine RunD.oneA (hp := by simp (maxSteps := 2000000) (disch := first | decide | omega | (simp only [List.length_append, List.length_cons, List.length_nil, List.length_take, List.length_drop]; omega)) only [k1', k2', hm, go_sem]; rfl) (h := ?_) | refine RunD.notA (h := ?_))); refine RunD.nil ?_; refine ⟨by kernel_rfl, ?_⟩; try simp only [InBlock, Then]) | refine Tri.cF (by first | (simp only [k1', k2', hm, go_sem]; done) | fail) ?_ | refine Tri.cT (by first | (simp only [k1', k2', hm, go_sem]; done) | fail) ?_ | (refine Tri.skip ?_; try simp only [InBlock, Then]) | (refine Tri.exit ?_; simp only [Then, InBlock, if_true, if_false, ↓reduceIte, Nat.reduceEqDiff]) | refine Tri.seq (Tri.block ?_) | refine Tri.block ?_ | refine Tri.seq ?_ | (refine Tri.ret ?_; refine Con.fin (.inl rfl) (by simp only [Tryd.f49, cfgSD, resA, resA1, go_sem]; rfl) (by simp only [Obs, and_true, true_and]) (by first | (simp only [kOpn, Con.of, Con.ofO, resV, k1', k2', hm, go_sem]; done) | fail) trivial rfl rfl))
      refine Tri.phT 8 (.int .u8) 1 rfl rfl ?_
      refine Tri.at (by first | (simp only [k1', k2', hm, Con.start, go_sem]; rfl) | rfl) ?_
      refine Tri.rel true 3 rfl ?_ rfl rfl ?_
      · simp only [AS.blk, go_sem]
        repeat' constructor
      refine Tri.at (by first | (simp only [k1', k2', hm, Con.start, go_sem]; rfl) | rfl) ?_
      refine Tri.ret ?_
      refine Con.fin (.inl rfl) (by simp only [Tryd.f49, cfgSD, resA, resA1, go_sem]; rfl) (by simp only [Obs, and_true, true_and]) ?_ ?_ rfl rfl
      · show AV.tuple [.pure (.slice true (.int .u8)) ([] : List UInt8), .int .i64 (40 : Int)] = AV.tuple [.pure (.slice true (.int .u8)) (opB ((ssM false seed dr cn ts).opn key us b)), .int .i64 (opE ((ssM false seed dr cn ts).opn key us b))]
        rw [e1]
        rfl
      · exact ⟨rfl, rfl, trivial⟩
    replace e0 := e0.trans (if_neg k2)
    have k2' : decide ((2000 : Int) < (m : Int) - 8) = false := decide_eq_false (by omega)
    have b1 : List.take (b.length - m) (List.drop m b) = List.drop m b := List.take_of_length_le (by rw [List.length_drop]; exact Nat.le_refl _)
    have b2 : (List.take m b).length = m := by rw [List.length_take]; omega
    have b3 : (List.take (m - 8) (List.drop 8 b)).length = m - 8 := by rw [List.length_take, List.length_drop]; omega
    have b4 : (List.take 8 b).length = 8 := by rw [List.length_take]; omega
    by_cases k3 : b.drop m = tagS key us (b.take m)
    · have k3' : strEq (List.drop m b) (tagS key us (List.take m b)) = true := decide_eq_true k3
      have e1 := e0.trans (if_pos k3)
      refine Tri.at (by first | (simp only [k1', k2', k3', hm, b1, b2, b3, b4, Nat.sub_zero, Con.start, go_sem]; rfl) | rfl) ?_
      repeat (first | ((first | refine Tri.seq (Tri.regT (cfgSD_ok.pins _) ?_) | refine Tri.rgnT (cfgSD_ok.pins _) ?_); (repeat (first | refine RunT.oneA (hp := by simp (maxSteps := 2000000) (disch := first | decide | omega | (simp only [List.length_append, List.length_cons, List.length_nil, List.length_take, List.length_drop]; omega)) only [k1', k2', k3', hm, b1, b2, b3, b4, Nat.sub_zero, go_sem]; rfl) (h := ?_) | refine RunT.notA (h := ?_))); refine RunT.nil ?_; try simp only [InBlock, Then]) | ((first | refine Tri.seq (Tri.drwT (mixed) (cfgSD_ok.pins _) ?_) | refine Tri.drnT (mixed) (cfgSD_ok.pins _) ?_); (repeat (first | refine RunD.oneA (hp := by simp (maxSteps := 2000000) (disch := first | decide | omega | (simp only [List.length_append, List.length_cons, List.length_nil, List.length_take, List.length_drop]; omega)) only [k1', k2', k3', hm, b1, b2, b3, b4, Nat.sub_zero, go_sem]; rfl) (h := ?_) | refine RunD.notA (h := ?_))); refine RunD.nil ?_; refine ⟨by kernel_rfl, ?_⟩; try simp only [InBlock, Then]) | refine Tri.cF (by first | (simp only [k1', k2', k3', hm, b1, b2, b3, b4, Nat.sub_zero, go_sem]; done) | fail) ?_ | refine Tri.cT (by first | (simp only [k1', k2', k3', hm, b1, b2, b3, b4, Nat.sub_zero, go_sem]; done) | fail) ?_ | (refine Tri.skip ?_; try simp only [InBlock, Then]) | (refine Tri.exit ?_; simp only [Then, InBlock, if_true, if_false, ↓reduceIte, Nat.reduceEqDiff]) | refine Tri.seq (Tri.block ?_) | refine Tri.block ?_ | refine Tri.seq ?_ | (refine Tri.ret ?_; refine Con.fin (.inl rfl) (by simp only [Tryd.f49, cfgSD, resA, resA1, go_sem]; rfl) (by simp only [Obs, and_true, true_and]) (by first | (simp only [kOpn, Con.of, Con.ofO, resV, k1', k2', k3', hm, b1, b2, b3, b4, Nat.sub_zero, go_sem]; done) | fail) trivial rfl rfl))
      trace_state
      refine Tri.ret ?_
      refine Con.fin (.inl rfl) (by simp only [Tryd.f49, cfgSD, resA, resA1, go_sem]; rfl) (by simp only [Obs, and_true, true_and]) ?_ ?_ rfl rfl
      · show AV.tuple [.pure (.slice true (.int .u8)) (strS key us (nb (b.take 8)) (List.take (m - 8) (List.drop 8 b))), .int .i64 (0 : Int)] = AV.tuple [.pure (.slice true (.int .u8)) (opB ((ssM false seed dr cn ts).opn key us b)), .int .i64 (opE ((ssM false seed dr cn ts).opn key us b))]
        rw [e1]
        rfl
      · exact ⟨rfl, rfl, trivial⟩
    · have k3' : strEq (List.drop m b) (tagS key us (List.take m b)) = false := decide_eq_false k3
      have e1 := e0.trans (if_neg k3)
      refine Tri.at (by first | (simp only [k1', k2', k3', hm, b1, b2, b3, b4, Nat.sub_zero, Con.start, go_sem]; rfl) | rfl) ?_
      repeat (first | ((first | refine Tri.seq (Tri.regT (cfgSD_ok.pins _) ?_) | refine Tri.rgnT (cfgSD_ok.pins _) ?_); (repeat (first | refine RunT.oneA (hp := by simp (maxSteps := 2000000) (disch := first | decide | omega | (simp only [List.length_append, List.length_cons, List.length_nil, List.length_take, List.length_drop]; omega)) only [k1', k2', k3', hm, b1, b2, b3, b4, Nat.sub_zero, go_sem]; rfl) (h := ?_) | refine RunT.notA (h := ?_))); refine RunT.nil ?_; try simp only [InBlock, Then]) | ((first | refine Tri.seq (Tri.drwT (mixed) (cfgSD_ok.pins _) ?_) | refine Tri.drnT (mixed) (cfgSD_ok.pins _) ?_); (repeat (first | refine RunD.oneA (hp := by simp (maxSteps := 2000000) (disch := first | decide | omega | (simp only [List.length_append, List.length_cons, List.length_nil, List.length_take, List.length_drop]; omega)) only [k1', k2', k3', hm, b1, b2, b3, b4, Nat.sub_zero, go_sem]; rfl) (h := ?_) | refine RunD.notA (h := ?_))); refine RunD.nil ?_; refine ⟨by kernel_rfl, ?_⟩; try simp only [InBlock, Then]) | refine Tri.cF (by first | (simp only [k1', k2', k3', hm, b1, b2, b3, b4, Nat.sub_zero, go_sem]; done) | fail) ?_ | refine Tri.cT (by first | (simp only [k1', k2', k3', hm, b1, b2, b3, b4, Nat.sub_zero, go_sem]; done) | fail) ?_ | (refine Tri.skip ?_; try simp only [InBlock, Then]) | (refine Tri.exit ?_; simp only [Then, InBlock, if_true, if_false, ↓reduceIte, Nat.reduceEqDiff]) | refine Tri.seq (Tri.block ?_) | refine Tri.block ?_ | refine Tri.seq ?_ | (refine Tri.ret ?_; refine Con.fin (.inl rfl) (by simp only [Tryd.f49, cfgSD, resA, resA1, go_sem]; rfl) (by simp only [Obs, and_true, true_and]) (by first | (simp only [kOpn, Con.of, Con.ofO, resV, k1', k2', k3', hm, b1, b2, b3, b4, Nat.sub_zero, go_sem]; done) | fail) trivial rfl rfl))
      refine Tri.phT 8 (.int .u8) 1 rfl rfl ?_
      refine Tri.at (by first | (simp only [k1', k2', k3', hm, b1, b2, b3, b4, Nat.sub_zero, Con.start, go_sem]; rfl) | rfl) ?_
      refine Tri.rel true 3 rfl ?_ rfl rfl ?_
      · simp only [AS.blk, go_sem]
        repeat' constructor
      refine Tri.at (by first | (simp only [k1', k2', k3', hm, b1, b2, b3, b4, Nat.sub_zero, Con.start, go_sem]; rfl) | rfl) ?_
      refine Tri.ret ?_
      refine Con.fin (.inl rfl) (by simp only [Tryd.f49, cfgSD, resA, resA1, go_sem]; rfl) (by simp only [Obs, and_true, true_and]) ?_ ?_ rfl rfl
      · show AV.tuple [.pure (.slice true (.int .u8)) ([] : List UInt8), .int .i64 (40 : Int)] = AV.tuple [.pure (.slice true (.int .u8)) (opB ((ssM false seed dr cn ts).opn key us b)), .int .i64 (opE ((ssM false seed dr cn ts).opn key us b))]
        rw [e1]
        rfl
      · exact ⟨rfl, rfl, trivial⟩
theorem open_sum : FSumOK Tryd.prog cfgSD.G 49 kOpn.sum := Con.sumOK cfgSD_ok kOpn Tryd.func49 rfl rfl (Con.ofO_inv _ _ _ _) open_body
end
end Go.Proofs.YtlnkfdblkdhdgaaDoor
