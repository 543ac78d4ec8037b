/- Bits, the second part. -/
import Derived.Test.YtmogngagpphnhaaBits
import Derived.Test.YtmogngagpphnhaaBitsE
set_option linter.unusedSimpArgs false
set_option linter.unusedVariables false
namespace Go.Ct
open Go Go.RowKit

theorem and127 {c K : Nat} (hc : c ≤ 64) (hK : K < 36028797018963968) : rAnd .i64 (IntKind.i64.wrap ((c + 256 * K : Nat) : Int)) 127 = (c : Int) := by
  rw [wrap_i64 (by omega) (by omega)]
  unfold rAnd
  have h1 : (BitVec.ofInt IntKind.i64.bits ((c + 256 * K : Nat) : Int)).toNat = c + 256 * K := by
    show (BitVec.ofInt 64 ((c + 256 * K : Nat) : Int)).toNat = _
    rw [BitVec.toNat_ofInt]
    omega
  have h2 : (BitVec.ofInt IntKind.i64.bits 127).toNat = 127 := by decide
  rw [BitVec.toNat_and, h1, h2, show (127 : Nat) = 2 ^ 7 - 1 from rfl, Nat.and_two_pow_sub_one_eq_mod]
  have h3 : (c + 256 * K) % 2 ^ 7 = c := by omega
  rw [h3]
  exact wrap_i64 (by omega) (by omega)
theorem rOnes_cnt {n : Nat} (hn : n < 18446744073709551616) : rOnes (n : Int) = ((cnt n 64 : Nat) : Int) := by
  obtain ⟨r, h1, ps, h2, h3, h4, h5⟩ := swar_bytes 8 n hn
  obtain ⟨q1, q2, _⟩ := h1 _ rfl
  match ps, h2 with
  | [p0, p1, p2, p3, p4, p5, p6, p7], _ =>
    simp only [List.mem_cons, List.not_mem_nil, or_false, forall_eq_or_imp, forall_eq] at h3
    simp only [List.foldr_cons, List.foldr_nil] at h4
    simp only [List.sum_cons, List.sum_nil] at h5
    obtain ⟨g0, g1, g2, g3, g4, g5, g6, g7⟩ := h3
    have b5 : swar 1 6148914691236517205 n < 18446744073709551616 := by
      unfold swar
      have h1 : (n >>> 1) &&& 6148914691236517205 ≤ 6148914691236517205 := Nat.and_le_right
      have h2 : n &&& 6148914691236517205 ≤ 6148914691236517205 := Nat.and_le_right
      omega
    have e1 : ∀ m : Nat, m < 18446744073709551616 → IntKind.u64.wrap (rAnd .u64 (rShr .u64 (m : Int) 1) 6148914691236517205 + rAnd .u64 (m : Int) 6148914691236517205) = ((swar 1 6148914691236517205 m : Nat) : Int) := fun m hm => by
      have hs : m >>> 1 < 18446744073709551616 := Nat.lt_of_le_of_lt (Nat.shiftRight_le _ _) hm
      have r1 : rShr .u64 (m : Int) 1 = ((m >>> 1 : Nat) : Int) := rShr_nat (i := 1) (by decide)
      have a1 : rAnd .u64 ((m >>> 1 : Nat) : Int) 6148914691236517205 = (((m >>> 1) &&& 6148914691236517205 : Nat) : Int) := rAnd_nat hs (m := 6148914691236517205) (by decide)
      have a2 : rAnd .u64 (m : Int) 6148914691236517205 = ((m &&& 6148914691236517205 : Nat) : Int) := rAnd_nat hm (m := 6148914691236517205) (by decide)
      rw [r1, a1, a2, ← Int.natCast_add]
      refine wrap_u64n ?_
      have h1 : (m >>> 1) &&& 6148914691236517205 ≤ 6148914691236517205 := Nat.and_le_right
      have h2 : m &&& 6148914691236517205 ≤ 6148914691236517205 := Nat.and_le_right
      omega
    have e2 : ∀ m : Nat, m < 18446744073709551616 → IntKind.u64.wrap (rAnd .u64 (rShr .u64 (m : Int) 2) 3689348814741910323 + rAnd .u64 (m : Int) 3689348814741910323) = ((swar 2 3689348814741910323 m : Nat) : Int) := fun m hm => by
      have hs : m >>> 2 < 18446744073709551616 := Nat.lt_of_le_of_lt (Nat.shiftRight_le _ _) hm
      have r1 : rShr .u64 (m : Int) 2 = ((m >>> 2 : Nat) : Int) := rShr_nat (i := 2) (by decide)
      have a1 : rAnd .u64 ((m >>> 2 : Nat) : Int) 3689348814741910323 = (((m >>> 2) &&& 3689348814741910323 : Nat) : Int) := rAnd_nat hs (m := 3689348814741910323) (by decide)
      have a2 : rAnd .u64 (m : Int) 3689348814741910323 = ((m &&& 3689348814741910323 : Nat) : Int) := rAnd_nat hm (m := 3689348814741910323) (by decide)
      rw [r1, a1, a2, ← Int.natCast_add]
      refine wrap_u64n ?_
      have h1 : (m >>> 2) &&& 3689348814741910323 ≤ 3689348814741910323 := Nat.and_le_right
      have h2 : m &&& 3689348814741910323 ≤ 3689348814741910323 := Nat.and_le_right
      omega
    have m5 : rep 85 8 = 6148914691236517205 := by decide
    have m3 : rep 51 8 = 3689348814741910323 := by decide
    have mf : rep 15 8 = 1085102592571150095 := by decide
    rw [m5, m3] at q1 q2
    rw [mf] at q1
    unfold rOnes
    simp only []
    rw [e1 n hn, e2 _ b5]
    generalize swar 2 3689348814741910323 (swar 1 6148914691236517205 n) = Q at *
    have hQ : Q < 18446744073709551616 := q2
    have hr : r < 18446744073709551616 := by rw [← q1]; exact Nat.lt_of_le_of_lt Nat.and_le_right (by decide)
    have e3 : rAnd .u64 (IntKind.u64.wrap (rShr .u64 (Q : Int) 4 + (Q : Int))) 1085102592571150095 = (r : Int) := by
      have r1 : rShr .u64 (Q : Int) 4 = ((Q >>> 4 : Nat) : Int) := rShr_nat (i := 4) (by decide)
      rw [r1, ← Int.natCast_add]
      have h2 : IntKind.u64.wrap ((Q >>> 4 + Q : Nat) : Int) = (((Q >>> 4 + Q) % 18446744073709551616 : Nat) : Int) := by
        have : IntKind.u64.wrap ((Q >>> 4 + Q : Nat) : Int) = ((Q >>> 4 + Q : Nat) : Int) % 18446744073709551616 := by simp [IntKind.wrap, IntKind.signed, IntKind.bits]
        rw [this]; omega
      rw [h2]
      have a1 := rAnd_nat (n := (Q >>> 4 + Q) % 18446744073709551616) (m := 1085102592571150095) (Nat.mod_lt _ (by decide)) (by decide)
      refine a1.trans ?_
      rw [← q1]
      congr 1
      refine Nat.eq_of_testBit_eq fun i => ?_
      rw [Nat.testBit_and, Nat.testBit_and, show (18446744073709551616 : Nat) = 2 ^ 64 from rfl, Nat.testBit_mod_two_pow]
      by_cases hi : i < 64
      · simp [hi]
      · have : (1085102592571150095 : Nat).testBit i = false := Nat.testBit_lt_two_pow (Nat.lt_of_lt_of_le (by decide : (1085102592571150095 : Nat) < 2 ^ 64) (Nat.pow_le_pow_right (by decide) (by omega)))
        rw [this]; simp
    rw [e3]
    have s1 : ∀ m : Nat, rShr .u64 (m : Int) 8 = ((m / 256 : Nat) : Int) := fun m => by
      have : rShr .u64 (m : Int) 8 = ((m >>> 8 : Nat) : Int) := rShr_nat (i := 8) (by decide)
      rw [this, Nat.shiftRight_eq_div_pow]
    have s2 : ∀ m : Nat, rShr .u64 (m : Int) 16 = ((m / 65536 : Nat) : Int) := fun m => by
      have : rShr .u64 (m : Int) 16 = ((m >>> 16 : Nat) : Int) := rShr_nat (i := 16) (by decide)
      rw [this, Nat.shiftRight_eq_div_pow]
    have s3 : ∀ m : Nat, rShr .u64 (m : Int) 32 = ((m / 4294967296 : Nat) : Int) := fun m => by
      have : rShr .u64 (m : Int) 32 = ((m >>> 32 : Nat) : Int) := rShr_nat (i := 32) (by decide)
      rw [this, Nat.shiftRight_eq_div_pow]
    have w64 : ∀ m : Nat, m < 9223372036854775808 → IntKind.u64.wrap ((m : Nat) : Int) = (m : Int) := fun m hm => wrap_u64n (by omega)
    have hs : cnt n 64 = p0 + p1 + p2 + p3 + p4 + p5 + p6 + p7 := by rw [show (64 : Nat) = 8 * 8 from rfl, ← h5]; omega
    have hc := cnt_le n 64
    have hx := swar_end (t7 := p7) (t6 := p6 + 256 * p7) (t5 := p5 + 256 * (p6 + 256 * p7)) (t4 := p4 + 256 * (p5 + 256 * (p6 + 256 * p7))) (t3 := p3 + 256 * (p4 + 256 * (p5 + 256 * (p6 + 256 * p7)))) (t2 := p2 + 256 * (p3 + 256 * (p4 + 256 * (p5 + 256 * (p6 + 256 * p7))))) (t1 := p1 + 256 * (p2 + 256 * (p3 + 256 * (p4 + 256 * (p5 + 256 * (p6 + 256 * p7)))))) (r := r) g0 g1 g2 g3 g4 g5 g6 g7 (by rw [h4]; rfl) rfl rfl rfl rfl rfl rfl rfl
    clear h4 q1 q2 e3 e1 e2 b5 h1 hr hQ hn m5 m3 mf h5
    obtain ⟨x4, x5, K, hK, x6⟩ := hx
    rw [s1, ← Int.natCast_add, w64 _ x4, s2, ← Int.natCast_add, w64 _ x5, s3, ← Int.natCast_add, x6, ← hs, w64 _ (by omega)]
    exact and127 hc hK
end Go.Ct
