/- Bits of 64 bit numbers: plain laws. -/
import Derived.Test.YtmogngagpphnhaaSpec
set_option linter.unusedSimpArgs false
set_option linter.unusedVariables false
namespace Go.Ct
open Go Go.RowKit

/-! ### The raw operations, on natural numbers -/
theorem wrap_u64n {n : Nat} (h : n < 18446744073709551616) : IntKind.u64.wrap ((n : Nat) : Int) = (n : Int) := by
  have h2 : IntKind.u64.wrap (n : Int) = (n : Int) % 18446744073709551616 := by simp [IntKind.wrap, IntKind.signed, IntKind.bits]
  omega
theorem bv_nat (n : Nat) (h : n < 18446744073709551616) : (BitVec.ofInt IntKind.u64.bits (n : Int)).toNat = n := by
  show (BitVec.ofInt 64 (n : Int)).toNat = n
  rw [BitVec.toNat_ofInt]
  omega
theorem rAnd_nat {n m : Nat} (hn : n < 18446744073709551616) (hm : m < 18446744073709551616) : rAnd .u64 (n : Int) (m : Int) = ((n &&& m : Nat) : Int) := by
  unfold rAnd
  rw [BitVec.toNat_and, bv_nat n hn, bv_nat m hm]
  exact wrap_u64n (Nat.lt_of_le_of_lt Nat.and_le_left hn)
theorem rOr_nat {n m : Nat} (hn : n < 18446744073709551616) (hm : m < 18446744073709551616) : rOr .u64 (n : Int) (m : Int) = ((n ||| m : Nat) : Int) := by
  unfold rOr
  rw [BitVec.toNat_or, bv_nat n hn, bv_nat m hm]
  exact wrap_u64n (Nat.or_lt_two_pow (n := 64) hn hm)
theorem rXor_nat {n m : Nat} (hn : n < 18446744073709551616) (hm : m < 18446744073709551616) : rXor .u64 (n : Int) (m : Int) = ((n ^^^ m : Nat) : Int) := by
  unfold rXor
  rw [BitVec.toNat_xor, bv_nat n hn, bv_nat m hm]
  exact wrap_u64n (Nat.xor_lt_two_pow (n := 64) hn hm)
theorem rShr_nat {n i : Nat} (hi : i ≤ 64) : rShr .u64 (n : Int) (i : Int) = ((n >>> i : Nat) : Int) := by
  unfold rShr
  rw [Int.toNat_natCast, show min i IntKind.u64.bits = i from Nat.min_eq_left hi, Nat.shiftRight_eq_div_pow]
  have : (2 : Int) ^ i = ((2 ^ i : Nat) : Int) := by simp
  rw [this, Int.fdiv_eq_ediv_of_nonneg _ (Int.natCast_nonneg _)]
  rfl
theorem rShl_one {i : Nat} (hi : i < 64) : rShl .u64 1 (i : Int) = ((2 ^ i : Nat) : Int) := by
  unfold rShl
  rw [Int.toNat_natCast, show min i IntKind.u64.bits = i from Nat.min_eq_left (Nat.le_of_lt hi), Int.one_mul]
  have : (2 : Int) ^ i = ((2 ^ i : Nat) : Int) := by simp
  rw [this]
  refine wrap_u64n ?_
  have := Nat.pow_lt_pow_right (a := 2) (by decide) hi
  omega

/-! ### How many bits -/
/-- The bits below k. -/
def cnt (n : Nat) : Nat → Nat
  | 0 => 0
  | k + 1 => cnt n k + if n.testBit k then 1 else 0
theorem cnt_le (n : Nat) : ∀ k, cnt n k ≤ k
  | 0 => Nat.le_refl _
  | k + 1 => by have := cnt_le n k; simp only [cnt]; split <;> omega
theorem cnt_congr {n m : Nat} : ∀ {k : Nat}, (∀ i, i < k → n.testBit i = m.testBit i) → cnt n k = cnt m k
  | 0, _ => rfl
  | k + 1, h => by simp only [cnt]; rw [cnt_congr fun i hi => h i (Nat.lt_succ_of_lt hi), h k (Nat.lt_succ_self k)]
theorem cnt_zero : ∀ k, cnt 0 k = 0
  | 0 => rfl
  | k + 1 => by simp [cnt, cnt_zero k]
theorem cnt_add (n : Nat) (a : Nat) : ∀ k, cnt n (a + k) = cnt n a + cnt (n >>> a) k
  | 0 => rfl
  | k + 1 => by
    rw [← Nat.add_assoc]
    simp only [cnt, cnt_add n a k, Nat.testBit_shiftRight]
    omega
theorem testBit_mul_add {h l i : Nat} (hl : l < 256) : (256 * h + l).testBit i = if i < 8 then l.testBit i else h.testBit (i - 8) := Nat.testBit_two_pow_mul_add h (i := 8) hl i
theorem cnt_byte {h l : Nat} (hl : l < 256) (k : Nat) : cnt (256 * h + l) (8 + k) = cnt l 8 + cnt h k := by
  rw [cnt_add]
  congr 1
  · exact cnt_congr fun i hi => by rw [testBit_mul_add hl, if_pos hi]
  · rw [Nat.shiftRight_eq_div_pow, show 2 ^ 8 = 256 from rfl]
    congr 1
    omega
theorem and_split {a b c d : Nat} (hb : b < 256) (hd : d < 256) : (256 * a + b) &&& (256 * c + d) = 256 * (a &&& c) + (b &&& d) := by
  have hbd : b &&& d < 256 := Nat.lt_of_le_of_lt Nat.and_le_left hb
  refine Nat.eq_of_testBit_eq fun i => ?_
  rw [Nat.testBit_and, testBit_mul_add hb, testBit_mul_add hd, testBit_mul_add hbd]
  split
  · rw [Nat.testBit_and]
  · rw [Nat.testBit_and]
/-- A shift over two bytes. -/
theorem shr_split {a b s : Nat} (hb : b < 256) (hs : s ≤ 8) : (256 * a + b) >>> s = 256 * (a >>> s) + ((a % 2 ^ s) * 2 ^ (8 - s) + b >>> s) := by
  simp only [Nat.shiftRight_eq_div_pow]
  have h1 : 256 = 2 ^ s * 2 ^ (8 - s) := by rw [← Nat.pow_add]; rw [show s + (8 - s) = 8 by omega]
  have h2 := Nat.div_add_mod a (2 ^ s)
  have hp : 0 < 2 ^ s := Nat.two_pow_pos s
  have h3 : 256 * a + b = 2 ^ s * (2 ^ (8 - s) * a) + b := by rw [h1, Nat.mul_assoc]
  rw [h3, Nat.mul_add_div hp]
  have h4 : 2 ^ (8 - s) * a = 256 * (a / 2 ^ s) + a % 2 ^ s * 2 ^ (8 - s) := by
    conv => lhs; rw [← h2]
    rw [h1, Nat.mul_add, Nat.mul_comm (a % 2 ^ s), ← Nat.mul_assoc, Nat.mul_comm (2 ^ (8 - s)) (2 ^ s)]
  omega
def swar (s : Nat) (m : Nat) (n : Nat) : Nat := ((n >>> s) &&& m) + (n &&& m)
theorem low_and {a b s d : Nat} (hb : b < 256) (hs : s ≤ 8) (hd : d < 2 ^ (8 - s)) : ((a % 2 ^ s) * 2 ^ (8 - s) + b >>> s) &&& d = (b >>> s) &&& d := by
  have hbs : b >>> s < 2 ^ (8 - s) := by
    rw [Nat.shiftRight_eq_div_pow]
    refine Nat.div_lt_of_lt_mul ?_
    rw [← Nat.pow_add, show s + (8 - s) = 8 by omega]
    exact hb
  refine Nat.eq_of_testBit_eq fun i => ?_
  rw [Nat.testBit_and, Nat.testBit_and, Nat.mul_comm, Nat.testBit_two_pow_mul_add _ hbs]
  split
  · rfl
  · rename_i h
    have : d.testBit i = false := Nat.testBit_lt_two_pow (Nat.lt_of_lt_of_le hd (Nat.pow_le_pow_right (by decide) (by omega)))
    rw [this]; simp
theorem swar_split {s m a b d : Nat} (hb : b < 256) (hs : s ≤ 8) (hs0 : 0 < s) (hd : d < 2 ^ (8 - s)) : swar s (256 * m + d) (256 * a + b) = 256 * swar s m a + swar s d b := by
  have hd' : d < 256 := Nat.lt_of_lt_of_le hd (Nat.pow_le_pow_right (n := 2) (by decide) (show 8 - s ≤ 8 by omega))
  have hL : (a % 2 ^ s) * 2 ^ (8 - s) + b >>> s < 256 := by
    have h1 : 256 = 2 ^ s * 2 ^ (8 - s) := by rw [← Nat.pow_add]; rw [show s + (8 - s) = 8 by omega]
    have h2 : a % 2 ^ s < 2 ^ s := Nat.mod_lt _ (Nat.two_pow_pos s)
    have h3 : b >>> s < 2 ^ (8 - s) := by
      rw [Nat.shiftRight_eq_div_pow]
      refine Nat.div_lt_of_lt_mul ?_
      rw [← Nat.pow_add, show s + (8 - s) = 8 by omega]
      exact hb
    have h4 : (a % 2 ^ s + 1) * 2 ^ (8 - s) ≤ 2 ^ s * 2 ^ (8 - s) := Nat.mul_le_mul_right _ h2
    rw [Nat.add_mul, Nat.one_mul] at h4
    omega
  unfold swar
  rw [shr_split hb hs, and_split hL hd', and_split hb hd', low_and hb hs hd]
  omega
def nib (n : Nat) : Nat := ((n >>> 4) + n) &&& 1085102592571150095
def ones1 (l : Nat) : Nat := (((swar 2 51 (swar 1 85 l)) >>> 4) + swar 2 51 (swar 1 85 l)) &&& 15
theorem byte_ok : ∀ l, l < 256 → swar 1 85 l < 256 ∧ swar 2 51 (swar 1 85 l) < 256 ∧ swar 2 51 (swar 1 85 l) % 16 ≤ 4 ∧ swar 2 51 (swar 1 85 l) / 16 ≤ 4 ∧ ones1 l = cnt l 8 := by decide +kernel
/-- The masks of k bytes. -/
def rep (d : Nat) : Nat → Nat
  | 0 => 0
  | k + 1 => 256 * rep d k + d
theorem swar_bytes : ∀ (k n : Nat), n < 256 ^ k →
    ∃ r, (∀ q, q = (swar 2 (rep 51 k) (swar 1 (rep 85 k) n)) → (((q >>> 4) + q) &&& rep 15 k) = r ∧ q < 256 ^ k ∧ q % 16 ≤ 4) ∧ (∃ ps : List Nat, ps.length = k ∧ (∀ p ∈ ps, p ≤ 8) ∧ r = ps.foldr (fun p acc => p + 256 * acc) 0 ∧ ps.sum = cnt n (8 * k))
  | 0, n, h => ⟨0, fun q hq => by
      have h0 : n = 0 := by simpa using h
      subst h0
      subst hq
      simp [swar, rep], [], rfl, by simp, rfl, by simp [cnt]⟩
  | k + 1, n, h => by
    have hl : n % 256 < 256 := Nat.mod_lt _ (by decide)
    have hn : n = 256 * (n / 256) + n % 256 := (Nat.div_add_mod n 256).symm
    have hk : n / 256 < 256 ^ k := by
      refine Nat.div_lt_of_lt_mul ?_
      rw [Nat.mul_comm, ← Nat.pow_succ]; exact h
    obtain ⟨r, h1, ps, h2, h3, h4, h5⟩ := swar_bytes k (n / 256) hk
    obtain ⟨b1, b2, b3, b4, b5⟩ := byte_ok (n % 256) hl
    obtain ⟨q1, q2, q3⟩ := h1 _ rfl
    generalize hQ : swar 2 (rep 51 k) (swar 1 (rep 85 k) (n / 256)) = Q at *
    refine ⟨256 * r + cnt (n % 256) 8, fun q hq => ?_, cnt (n % 256) 8 :: ps, by simp [h2], ?_, ?_, ?_⟩
    · have e : q = 256 * Q + swar 2 51 (swar 1 85 (n % 256)) := by
        rw [hq]
        have e0 : swar 1 (rep 85 (k + 1)) n = 256 * swar 1 (rep 85 k) (n / 256) + swar 1 85 (n % 256) := by
          have := swar_split (s := 1) (m := rep 85 k) (a := n / 256) hl (by decide) (by decide) (show 85 < 2 ^ (8 - 1) by decide)
          rw [← hn] at this
          exact this
        rw [e0, ← hQ]
        exact swar_split (s := 2) (m := rep 51 k) b1 (by decide) (by decide) (show 51 < 2 ^ (8 - 2) by decide)
      generalize hB : swar 2 51 (swar 1 85 (n % 256)) = B at *
      have hones : ((B >>> 4) + B) &&& 15 = cnt (n % 256) 8 := by rw [← b5, ones1, hB]
      have e4 : q >>> 4 = 256 * (Q >>> 4) + ((Q % 16) * 16 + B >>> 4) := by rw [e]; exact shr_split (s := 4) b2 (by decide)
      have eB : B >>> 4 = B / 16 := by rw [Nat.shiftRight_eq_div_pow]
      have hlow : (Q % 16) * 16 + B >>> 4 + B < 256 := by rw [eB]; omega
      have hsum : q >>> 4 + q = 256 * (Q >>> 4 + Q) + ((Q % 16) * 16 + B >>> 4 + B) := by rw [e4, e]; omega
      refine ⟨?_, ?_, ?_⟩
      · rw [hsum]
        show (256 * (Q >>> 4 + Q) + _) &&& (256 * rep 15 k + 15) = _
        rw [and_split hlow (by decide), q1, ← hones]
        congr 1
        rw [Nat.and_two_pow_sub_one_eq_mod _ 4, Nat.and_two_pow_sub_one_eq_mod _ 4]
        omega
      · rw [e, Nat.pow_succ]; omega
      · rw [e]; omega
    · intro p hp
      rcases List.mem_cons.1 hp with rfl | hp
      · exact cnt_le _ 8
      · exact h3 p hp
    · simp only [List.foldr_cons, ← h4]; omega
    · rw [List.sum_cons, h5]
      conv => rhs; rw [hn]
      rw [show 8 * (k + 1) = 8 + 8 * k by omega, cnt_byte hl]
end Go.Ct
