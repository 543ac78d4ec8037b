/- Nodes and lists of pairs out of tapes. -/
import Derived.Test.YtmogngagpphnhaaTape
import Derived.Test.YtmogngagpphnhaaBit2
set_option linter.unusedSimpArgs false
set_option linter.unusedVariables false
namespace Go.Ct
/-- A bit less. -/
theorem cnt_two {c e : Nat} (he : e < 2) (k : Nat) : cnt (2 * c + e) (k + 1) = e + cnt c k := by
  rw [show k + 1 = 1 + k by omega, cnt_add, Nat.shiftRight_eq_div_pow, show (2 * c + e) / 2 ^ 1 = c by omega]
  congr 1
  simp only [cnt, Nat.testBit_zero]
  have : (2 * c + e) % 2 = e := by omega
  rw [this]
  rcases (show e = 0 ∨ e = 1 by omega) with rfl | rfl <;> rfl
theorem tb_odd (c i : Nat) : (2 * c + 1).testBit (i + 1) = c.testBit i := by
  rw [show 2 * c + 1 = 2 ^ 1 * c + 1 by omega, Nat.testBit_two_pow_mul_add _ (by decide)]
  simp
theorem tb_even (c i : Nat) : (2 * c).testBit (i + 1) = c.testBit i := by
  have := Nat.testBit_two_pow_mul_add (i := 1) c (b := 0) (by decide) (i + 1)
  simpa using this
theorem tb_even0 (c : Nat) : (2 * c).testBit 0 = false := by simp
theorem and_pred_odd (c : Nat) : (2 * c + 1) &&& (2 * c) = 2 * c := by
  refine Nat.eq_of_testBit_eq fun i => ?_
  rw [Nat.testBit_and]
  cases i with
  | zero => rw [tb_even0]; simp
  | succ i => rw [tb_odd, tb_even]; simp
theorem and_pred_even {c : Nat} (hc : 0 < c) : (2 * c) &&& (2 * c - 1) = 2 * (c &&& (c - 1)) := by
  refine Nat.eq_of_testBit_eq fun i => ?_
  rw [Nat.testBit_and]
  cases i with
  | zero => rw [tb_even0, tb_even0]; simp
  | succ i => rw [tb_even, tb_even, show 2 * c - 1 = 2 * (c - 1) + 1 by omega, tb_odd, Nat.testBit_and]
theorem cnt_pred : ∀ (k b : Nat), 0 < b → b < 2 ^ k → cnt (b &&& (b - 1)) k + 1 = cnt b k
  | 0, b, h0, h1 => by simp at h1; omega
  | k + 1, b, h0, h1 => by
    rw [Nat.pow_succ] at h1
    rcases Nat.mod_two_eq_zero_or_one b with h | h
    · have e : b = 2 * (b / 2) := by omega
      have hc : 0 < b / 2 := by omega
      have ih := cnt_pred k (b / 2) hc (by omega)
      rw [e, and_pred_even hc]
      have a1 := cnt_two (c := b / 2 &&& (b / 2 - 1)) (e := 0) (by decide) k
      have a2 := cnt_two (c := b / 2) (e := 0) (by decide) k
      simp only [Nat.add_zero, Nat.zero_add] at a1 a2
      rw [a1, a2, ih]
    · have e : b = 2 * (b / 2) + 1 := by omega
      have a1 := cnt_two (c := b / 2) (e := 0) (by decide) k
      have a2 := cnt_two (c := b / 2) (e := 1) (by decide) k
      simp only [Nat.add_zero, Nat.zero_add] at a1
      rw [e, Nat.add_sub_cancel, and_pred_odd, a1, a2]
      omega
end Go.Ct
namespace Go.Proofs.Ytmogngagpphnhaa
open Go.RowKit Go.Ct

/-- A node out of a tape. -/
structure GenNode (refs : Int) (n : Nd) (xs : List Int) (ys : List Pr) : Prop where
  valid : NdValid n xs ys
  brN : n.brN = xs.length
  prN : n.prN = ys.length
  brC : n.brN ≤ n.brC
  prC : n.prN ≤ n.prC
  bm : ∃ b : Nat, n.bm = (b : Int) ∧ b < 18446744073709551616
  xs64 : xs.length ≤ 64
  ys2 : ys.length ≤ 2
  key : n.key.size ≤ 4
  cells : n.main = 0 ∧ n.prev = 0 ∧ n.status = 0
  gen : 0 ≤ n.gen ∧ n.gen ≤ 3
  kind : n.kind = 2 ∨ n.kind = 3 ∨ n.kind = 4 ∨ n.kind = 5 ∨ n.kind = 6 ∨ n.kind = 8
  refs : (∀ r ∈ xs, 1 ≤ r ∧ r ≤ refs) ∧ 0 ≤ n.old ∧ n.old ≤ refs ∧ 0 ≤ n.exp ∧ n.exp ≤ refs ∧ 0 ≤ n.new ∧ n.new ≤ refs
end Go.Proofs.Ytmogngagpphnhaa
