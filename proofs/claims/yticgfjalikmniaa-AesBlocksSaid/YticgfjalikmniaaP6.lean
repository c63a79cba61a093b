/- Part of a proof: any block under any key is encrypted as the standard has it, as the document's answer tells (the law AesBlocks answers true at every input and leaves its arguments as they were). No further condition. -/
import Derived.Test.YticgfjalikmniaaP5
import Derived.Test.YticgfjalikmniaaP4
namespace Go.Proofs.Yticgfjalikmniaa
set_option linter.unusedVariables false
set_option linter.unusedSimpArgs false
open Go.Vc Go.Proofs
set_option linter.unusedSimpArgs false
set_option maxRecDepth 100000
theorem raI_eq (keys : List (List UInt8)) (s : List UInt8) : ∀ i, raI keys s i = addI keys 0 s i
  | 0 => rfl
  | i + 1 => by
    simp only [raI, addI, raI_eq keys s i, Nat.mul_zero, Nat.zero_add]
    rfl
theorem len16L {s : List UInt8} (h : s.length = 16) : ∃ a b c d e f g i j k l m n o p q, s = [a, b, c, d, e, f, g, i, j, k, l, m, n, o, p, q] := by
  match s, h with
  | [a, b, c, d, e, f, g, i, j, k, l, m, n, o, p, q], _ => exact ⟨a, b, c, d, e, f, g, i, j, k, l, m, n, o, p, q, rfl⟩
theorem rsC_eq (box : List UInt8) {s : List UInt8} (h : s.length = 16) : rsC box s 4 = shI box s 16 := by
  obtain ⟨a, b, c, d, e, f, g, i, j, k, l, m, n, o, p, q, rfl⟩ := len16L h
  kernel_rfl
theorem mixE (a b c d : UInt8) : tms a 2 ^^^ tms b 3 ^^^ c ^^^ d = b ^^^ c ^^^ d ^^^ twice (a ^^^ b) := by
  rw [tms2, tms3, twice_xor]
  ac_rfl
theorem xx (a b : UInt8) : a ^^^ (a ^^^ b) = b := by rw [← UInt8.xor_assoc, UInt8.xor_self, UInt8.zero_xor]
theorem mix0 (a b c d : UInt8) : a ^^^ (a ^^^ b ^^^ c ^^^ d) ^^^ twice (a ^^^ b) = tms a 2 ^^^ tms b 3 ^^^ c ^^^ d := by
  rw [mixE, show a ^^^ b ^^^ c ^^^ d = a ^^^ (b ^^^ c ^^^ d) by ac_rfl, xx]
theorem mix1 (a b c d : UInt8) : b ^^^ (a ^^^ b ^^^ c ^^^ d) ^^^ twice (b ^^^ c) = tms b 2 ^^^ tms c 3 ^^^ d ^^^ a := by
  rw [mixE, show a ^^^ b ^^^ c ^^^ d = b ^^^ (c ^^^ d ^^^ a) by ac_rfl, xx]
theorem mix2 (a b c d : UInt8) : c ^^^ (a ^^^ b ^^^ c ^^^ d) ^^^ twice (c ^^^ d) = tms c 2 ^^^ tms d 3 ^^^ a ^^^ b := by
  rw [mixE, show a ^^^ b ^^^ c ^^^ d = c ^^^ (d ^^^ a ^^^ b) by ac_rfl, xx]
theorem mix3 (a b c d : UInt8) : d ^^^ (a ^^^ b ^^^ c ^^^ d) ^^^ twice (d ^^^ a) = tms d 2 ^^^ tms a 3 ^^^ b ^^^ c := by
  rw [mixE, show a ^^^ b ^^^ c ^^^ d = d ^^^ (a ^^^ b ^^^ c) by ac_rfl, xx]
def mx4 (a b c d : UInt8) : List UInt8 := [tms a 2 ^^^ tms b 3 ^^^ c ^^^ d, tms b 2 ^^^ tms c 3 ^^^ d ^^^ a, tms c 2 ^^^ tms d 3 ^^^ a ^^^ b, tms d 2 ^^^ tms a 3 ^^^ b ^^^ c]
def mA (a b c d : UInt8) : List UInt8 := [a ^^^ (a ^^^ b ^^^ c ^^^ d) ^^^ twice (a ^^^ b), b ^^^ (a ^^^ b ^^^ c ^^^ d) ^^^ twice (b ^^^ c), c ^^^ (a ^^^ b ^^^ c ^^^ d) ^^^ twice (c ^^^ d), d ^^^ (a ^^^ b ^^^ c ^^^ d) ^^^ twice (d ^^^ a)]
theorem mA_eq (a b c d : UInt8) : mA a b c d = mx4 a b c d := by
  simp only [mA, mx4, mix0, mix1, mix2, mix3]
theorem mixI_eq (a b c d e f g i j k l m n o p q : UInt8) : mixI [a, b, c, d, e, f, g, i, j, k, l, m, n, o, p, q] 4 = mA a b c d ++ mA e f g i ++ mA j k l m ++ mA n o p q := by
  kernel_rfl
theorem rmC_list (keys : List (List UInt8)) (t : List UInt8) {s : List UInt8} (hs : s.length = 16) (r : Nat) : rmC keys t r s 4 = addI keys r ([rmX t r 0 0, rmX t r 0 1, rmX t r 0 2, rmX t r 0 3, rmX t r 1 0, rmX t r 1 1, rmX t r 1 2, rmX t r 1 3, rmX t r 2 0, rmX t r 2 1, rmX t r 2 2, rmX t r 2 3, rmX t r 3 0, rmX t r 3 1, rmX t r 3 2, rmX t r 3 3]) 16 := by
  obtain ⟨a', b', c', d', e', f', g', i', j', k', l', m', n', o', p', q', rfl⟩ := len16L hs
  have e : ∀ X : Nat → Nat → UInt8, (∀ col row, rmX t r col row = X col row) → rmC keys t r [a', b', c', d', e', f', g', i', j', k', l', m', n', o', p', q'] 4 = addI keys r [X 0 0, X 0 1, X 0 2, X 0 3, X 1 0, X 1 1, X 1 2, X 1 3, X 2 0, X 2 1, X 2 2, X 2 3, X 3 0, X 3 1, X 3 2, X 3 3] 16 := by
    intro X hX
    simp only [rmC, rmR, hX]
    kernel_rfl
  exact e (rmX t r) fun _ _ => rfl
theorem rmC_eq (keys : List (List UInt8)) {t s : List UInt8} (ht : t.length = 16) (hs : s.length = 16) (r : Nat) : rmC keys t r s 4 = addI keys r (if r < 10 then mixI t 4 else t) 16 := by
  rw [rmC_list keys t hs]
  obtain ⟨a, b, c, d, e, f, g, i, j, k, l, m, n, o, p, q, rfl⟩ := len16L ht
  by_cases h : r < 10
  · rw [if_pos h, mixI_eq]
    simp only [mA_eq]
    refine congrArg (fun X => addI keys r X 16) ?_
    simp only [rmX, if_pos h, mx4]
    rfl
  · rw [if_neg h]
    refine congrArg (fun X => addI keys r X 16) ?_
    simp only [rmX, if_neg h]
    rfl
theorem rndI_len' (box : List UInt8) (keys : List (List UInt8)) {s : List UInt8} (h : s.length = 16) : ∀ r, (rndI box keys s r).length = 16
  | 0 => by
    show (addI keys 0 s 16).length = 16
    rw [addI_len, h]
  | r + 1 => by
    show (addI keys (r + 1) (if r + 1 < 10 then mixI (shI box (rndI box keys s r) 16) 4 else shI box (rndI box keys s r) 16) 16).length = 16
    rw [addI_len]
    split
    · rw [mixI_len, shI_len, rndI_len' box keys h r]
    · rw [shI_len, rndI_len' box keys h r]
theorem rbI_eq {box : List UInt8} {keys : List (List UInt8)} {s : List UInt8} (h : s.length = 16) : ∀ r, rbI box keys s r = rndI box keys s r
  | 0 => raI_eq keys s 16
  | r + 1 => by
    have hl := rndI_len' box keys h r
    show rmC keys (rsC box (rbI box keys s r) 4) (r + 1) (rbI box keys s r) 4 = addI keys (r + 1) (if r + 1 < 10 then mixI (shI box (rndI box keys s r) 16) 4 else shI box (rndI box keys s r) 16) 16
    rw [rbI_eq h r, rsC_eq box hl, rmC_eq keys (by rw [shI_len]; exact hl) hl]
end Go.Proofs.Yticgfjalikmniaa

namespace Go.Proofs.Yticgfjalikmniaa
set_option linter.unusedVariables false
set_option linter.unusedSimpArgs false
open Go.Vc Go.Proofs
set_option linter.unusedSimpArgs false
set_option maxRecDepth 100000
/-! What the document's stream computes. -/
def cnI (nonce : UInt64) (i : Nat) : Nat → List UInt8
  | 0 => List.replicate 16 0
  | k + 1 => ((cnI nonce i k).set k (nonce >>> UInt64.ofNat (56 - 8 * k)).toUInt8).set (8 + k) (UInt64.ofInt ((i / 16 : Nat) : Int) >>> UInt64.ofNat (56 - 8 * k)).toUInt8
theorem cnI_len (nonce : UInt64) (i : Nat) : ∀ k, (cnI nonce i k).length = 16
  | 0 => List.length_replicate
  | k + 1 => by simp only [cnI, List.length_set]; exact cnI_len nonce i k
def rsK (out b data : List UInt8) (i : Nat) : Nat → List UInt8
  | 0 => out
  | k + 1 => rsK out b data i k ++ [data.getD (i + k) 0 ^^^ b.getD k 0]
def cnt (n i : Nat) : Nat := min n (16 * ((i + 15) / 16))
def rsO (box : List UInt8) (keys : List (List UInt8)) (nonce : UInt64) (data : List UInt8) : Nat → List UInt8
  | 0 => []
  | i + 1 => if i % 16 = 0 then rsK (rsO box keys nonce data i) (rndI box keys (cnI nonce i 8) 10) data i (min 16 (data.length - i)) else rsO box keys nonce data i
theorem shr8 (a : UInt64) (n : Nat) (h : n ≤ 48) : (a >>> UInt64.ofNat n) >>> 8 = a >>> UInt64.ofNat (n + 8) := by
  apply UInt64.toNat_inj.1
  have e1 : (UInt64.ofNat n).toNat = n := by simp; omega
  have e2 : (UInt64.ofNat (n + 8)).toNat = n + 8 := by simp; omega
  rw [UInt64.toNat_shiftRight, UInt64.toNat_shiftRight, UInt64.toNat_shiftRight, e1, e2]
  show a.toNat >>> (n % 64) >>> 8 = a.toNat >>> ((n + 8) % 64)
  rw [show n % 64 = n by omega, show (n + 8) % 64 = n + 8 by omega, Nat.shiftRight_add]
theorem shr0 (a : UInt64) : a >>> UInt64.ofNat 0 = a := by
  apply UInt64.toNat_inj.1
  rw [UInt64.toNat_shiftRight]
  rfl
def dnI (a b : UInt64) : Nat → List UInt8
  | 0 => List.replicate 16 0
  | k + 1 => ((dnI a b k).set k (a >>> UInt64.ofNat (56 - 8 * k)).toUInt8).set (8 + k) (b >>> UInt64.ofNat (56 - 8 * k)).toUInt8
theorem ct_shr (a b : UInt64) : ∀ j, j ≤ 7 → (ctI a b j).1 = a >>> UInt64.ofNat (8 * j) ∧ (ctI a b j).2.1 = b >>> UInt64.ofNat (8 * j)
  | 0, _ => ⟨(shr0 a).symm, (shr0 b).symm⟩
  | j + 1, h => by
    obtain ⟨h1, h2⟩ := ct_shr a b j (by omega)
    refine ⟨?_, ?_⟩
    · show (ctI a b j).1 >>> 8 = _
      rw [h1, shr8 a _ (by omega), show 8 * (j + 1) = 8 * j + 8 by omega]
    · show (ctI a b j).2.1 >>> 8 = _
      rw [h2, shr8 b _ (by omega), show 8 * (j + 1) = 8 * j + 8 by omega]
theorem ct_list (a b : UInt64) : (ctI a b 8).2.2 = dnI a b 8 := by
  have e : ∀ X Y : Nat → UInt64, (∀ j, j ≤ 7 → (ctI a b j).1 = X j) → (∀ j, j ≤ 7 → (ctI a b j).2.1 = Y j) → (ctI a b 8).2.2 =
      [(X 7).toUInt8, (X 6).toUInt8, (X 5).toUInt8, (X 4).toUInt8, (X 3).toUInt8, (X 2).toUInt8, (X 1).toUInt8, (X 0).toUInt8, (Y 7).toUInt8, (Y 6).toUInt8, (Y 5).toUInt8, (Y 4).toUInt8, (Y 3).toUInt8, (Y 2).toUInt8, (Y 1).toUInt8, (Y 0).toUInt8] := by
    intro X Y hX hY
    rw [← hX 0 (by omega), ← hX 1 (by omega), ← hX 2 (by omega), ← hX 3 (by omega), ← hX 4 (by omega), ← hX 5 (by omega), ← hX 6 (by omega), ← hX 7 (by omega),
      ← hY 0 (by omega), ← hY 1 (by omega), ← hY 2 (by omega), ← hY 3 (by omega), ← hY 4 (by omega), ← hY 5 (by omega), ← hY 6 (by omega), ← hY 7 (by omega)]
    rfl
  rw [e (fun j => a >>> UInt64.ofNat (8 * j)) (fun j => b >>> UInt64.ofNat (8 * j)) (fun j h => (ct_shr a b j h).1) (fun j h => (ct_shr a b j h).2)]
  rfl
theorem cnI_eq (nonce : UInt64) (i : Nat) : cnI nonce i 8 = (ctI nonce (UInt64.ofInt ((i / 16 : Nat) : Int)) 8).2.2 := by
  rw [ct_list]
  have : ∀ k, cnI nonce i k = dnI nonce (UInt64.ofInt ((i / 16 : Nat) : Int)) k := by
    intro k
    induction k with
    | zero => rfl
    | succ k ih => simp only [cnI, dnI, ih]
  exact this 8
section
variable {box : List UInt8} {keys : List (List UInt8)} {nonce : UInt64} {data : List UInt8}
theorem rsK_len (out b : List UInt8) (i : Nat) : ∀ k, (rsK out b data i k).length = out.length + k
  | 0 => rfl
  | k + 1 => by simp only [rsK, List.length_append, rsK_len out b i k, List.length_cons, List.length_nil]; omega
theorem rsK_stm {out : List UInt8} {i : Nat} (h16 : i % 16 = 0) (ho : out = (stm box keys nonce data).take i) : ∀ k, k ≤ 16 → i + k ≤ data.length → rsK out (rndI box keys (cnI nonce i 8) 10) data i k = (stm box keys nonce data).take (i + k)
  | 0, _, _ => ho
  | k + 1, hk, hl => by
    have hi := rsK_stm h16 ho k (by omega) (by omega)
    simp only [rsK, hi]
    have hlt : i + k < (stm box keys nonce data).length := by rw [stm_len]; omega
    rw [show i + (k + 1) = i + k + 1 by omega, List.take_succ_eq_append_getElem hlt]
    refine congrArg (fun x => (stm box keys nonce data).take (i + k) ++ [x]) ?_
    have hd : i + k < data.length := by omega
    simp only [stm, List.getElem_mapIdx, ksb]
    rw [cnI_eq, List.getD_eq_getElem?_getD, List.getElem?_eq_getElem hd, Option.getD_some, show (i + k) / 16 = i / 16 by omega, show (i + k) % 16 = k % 16 by omega]
    by_cases h : k < 16
    · rw [Nat.mod_eq_of_lt h]
    · omega
theorem rsO_eq : ∀ i, i ≤ data.length → rsO box keys nonce data i = (stm box keys nonce data).take (cnt data.length i)
  | 0, _ => by simp [rsO, cnt]
  | i + 1, h => by
    have hi := rsO_eq i (by omega)
    show (if i % 16 = 0 then _ else _) = _
    by_cases h16 : i % 16 = 0
    · have hc : cnt data.length i = i := by unfold cnt; omega
      rw [hc] at hi
      rw [if_pos h16, rsK_stm h16 hi _ (by omega) (by omega)]
      refine congrArg (fun n => (stm box keys nonce data).take n) ?_
      unfold cnt
      omega
    · rw [if_neg h16, hi]
      refine congrArg (fun n => (stm box keys nonce data).take n) ?_
      unfold cnt
      omega
theorem rsO_end : rsO box keys nonce data data.length = stm box keys nonce data := by
  rw [rsO_eq _ (Nat.le_refl _)]
  refine List.take_of_length_le ?_
  rw [stm_len]
  unfold cnt
  omega
theorem rsO_len {i : Nat} (h : i ≤ data.length) : (rsO box keys nonce data i).length = cnt data.length i := by
  rw [rsO_eq i h, List.length_take, stm_len]
  unfold cnt
  omega
end
theorem pure_arr_congr {n m : Nat} {d : Kd} {x y : List d.T} (h : n = m) (e : x = y) : AV.pure (.arr n d) x = AV.pure (.arr m d) y := by
  subst h
  subst e
  rfl
end Go.Proofs.Yticgfjalikmniaa
