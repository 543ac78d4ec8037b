/- The functions on bitmaps. -/
import Derived.Test.YtpfjjagcmjmfpaaGBits
import Derived.Test.YtpfjjagcmjmfpaaNode4
set_option linter.unusedSimpArgs false
set_option linter.unusedVariables false
namespace Go.Ct
open Go Go.RowKit

def hasI (n : Nat) (i : Int) : Bool := decide (0 ≤ i) && (decide (i < 64) && n.testBit i.toNat)
theorem hasI_lo (n : Nat) {i : Int} (h : i < 0) : hasI n i = false := by simp [hasI]; omega
theorem hasI_hi (n : Nat) {i : Int} (h : 64 ≤ i) : hasI n i = false := by simp [hasI]; omega
theorem hasI_in (n : Nat) {i : Int} (h0 : 0 ≤ i) (h1 : i < 64) : hasI n i = n.testBit i.toNat := by simp [hasI, h0, h1]
theorem has_raw {n : Nat} (hn : n < 18446744073709551616) {i : Int} (h0 : 0 ≤ i) (h1 : i < 64) : (rAnd .u64 (rShr .u64 (n : Int) i) 1 == 1) = hasI n i := by
  obtain ⟨k, rfl⟩ := Int.eq_ofNat_of_zero_le h0
  rw [hasI_in n h0 h1, rShr_nat (by omega)]
  have h2 : rAnd .u64 ((n >>> k : Nat) : Int) 1 = (((n >>> k) &&& 1 : Nat) : Int) := rAnd_nat (Nat.lt_of_le_of_lt (Nat.shiftRight_le _ _) hn) (m := 1) (by decide)
  rw [h2]
  simp only [Int.toNat_natCast, Nat.testBit, Nat.and_comm 1]
  rw [Nat.and_one_is_mod]
  rcases Nat.mod_two_eq_zero_or_one (n >>> k) with h | h <;> rw [h] <;> rfl
def posN (n : Nat) (i : Int) : Nat := cnt n (min i.toNat 64)
theorem cnt_mask (n : Nat) {i : Nat} : ∀ k, i ≤ k → cnt (n &&& (2 ^ i - 1)) k = cnt n i := by
  intro k hk
  obtain ⟨d, rfl⟩ := Nat.exists_eq_add_of_le hk
  clear hk
  induction d with
  | zero => exact cnt_congr fun j hj => by rw [Nat.testBit_and, Nat.testBit_two_pow_sub_one]; simp; intro _; omega
  | succ d ih =>
    rw [← Nat.add_assoc]
    simp only [cnt, ih, Nat.testBit_and, Nat.testBit_two_pow_sub_one]
    simp
theorem pos_raw {n : Nat} (hn : n < 18446744073709551616) {i : Int} (h0 : 0 < i) (h1 : i < 64) : rOnes (rAnd .u64 (n : Int) (IntKind.u64.wrap (rShl .u64 1 i - 1))) = ((posN n i : Nat) : Int) := by
  obtain ⟨k, rfl⟩ := Int.eq_ofNat_of_zero_le (Int.le_of_lt h0)
  have hp := Nat.pow_lt_pow_right (a := 2) (by decide) (show k < 64 by omega)
  have hp0 := Nat.two_pow_pos k
  rw [rShl_one (by omega)]
  have e : ((2 ^ k : Nat) : Int) - 1 = ((2 ^ k - 1 : Nat) : Int) := by omega
  rw [e, wrap_u64n (by omega), rAnd_nat hn (by omega), rOnes_cnt (Nat.lt_of_le_of_lt Nat.and_le_left hn), cnt_mask n 64 (by omega)]
  unfold posN
  rw [Int.toNat_natCast, Nat.min_eq_left (by omega)]
def withI (n : Nat) (i : Int) : Nat := if 0 ≤ i ∧ i < 64 then n ||| 2 ^ i.toNat else n
def withoutI (n : Nat) (i : Int) : Nat := if 0 ≤ i ∧ i < 64 then n ^^^ (n &&& 2 ^ i.toNat) else n
theorem with_raw {n : Nat} (hn : n < 18446744073709551616) {i : Int} (h0 : 0 ≤ i) (h1 : i < 64) : rOr .u64 (n : Int) (rShl .u64 1 i) = ((withI n i : Nat) : Int) := by
  obtain ⟨k, rfl⟩ := Int.eq_ofNat_of_zero_le h0
  have hp := Nat.pow_lt_pow_right (a := 2) (by decide) (show k < 64 by omega)
  rw [rShl_one (by omega), rOr_nat hn (by omega), withI, if_pos ⟨h0, h1⟩]
  rfl
theorem without_raw {n : Nat} (hn : n < 18446744073709551616) {i : Int} (h0 : 0 ≤ i) (h1 : i < 64) : rAndNot .u64 (n : Int) (rShl .u64 1 i) = ((withoutI n i : Nat) : Int) := by
  obtain ⟨k, rfl⟩ := Int.eq_ofNat_of_zero_le h0
  have hp := Nat.pow_lt_pow_right (a := 2) (by decide) (show k < 64 by omega)
  rw [rShl_one (by omega), withoutI, if_pos ⟨h0, h1⟩, Int.toNat_natCast]
  unfold rAndNot
  have e : (BitVec.ofInt IntKind.u64.bits (n : Int) &&& ~~~ BitVec.ofInt IntKind.u64.bits ((2 ^ k : Nat) : Int)).toNat = n ^^^ (n &&& 2 ^ k) := by
    refine Nat.eq_of_testBit_eq fun j => ?_
    have b1 := bv_nat n hn
    have b2 := bv_nat (2 ^ k) (by omega)
    rw [BitVec.testBit_toNat, BitVec.getLsbD_and, BitVec.getLsbD_not, ← BitVec.testBit_toNat, ← BitVec.testBit_toNat, b1, b2, Nat.testBit_xor, Nat.testBit_and]
    by_cases hj : j < 64
    · have : decide (j < IntKind.u64.bits) = true := decide_eq_true hj
      rw [this]
      cases n.testBit j <;> cases (2 ^ k).testBit j <;> rfl
    · have : n.testBit j = false := Nat.testBit_lt_two_pow (Nat.lt_of_lt_of_le hn (Nat.pow_le_pow_right (n := 2) (by decide) (show 64 ≤ j by omega)))
      rw [this]; rfl
  rw [e]
  refine wrap_u64n (Nat.xor_lt_two_pow (n := 64) hn (Nat.lt_of_le_of_lt Nat.and_le_left hn))
theorem withI_lt {n : Nat} (hn : n < 18446744073709551616) (i : Int) : withI n i < 18446744073709551616 := by
  unfold withI
  split
  · rename_i h
    have hp := Nat.pow_lt_pow_right (a := 2) (by decide) (show i.toNat < 64 by omega)
    exact Nat.or_lt_two_pow (n := 64) hn hp
  · exact hn
theorem withoutI_lt {n : Nat} (hn : n < 18446744073709551616) (i : Int) : withoutI n i < 18446744073709551616 := by
  unfold withoutI
  split
  · exact Nat.xor_lt_two_pow (n := 64) hn (Nat.lt_of_le_of_lt Nat.and_le_left hn)
  · exact hn
end Go.Ct
namespace Go.Proofs.Ytpfjjagcmjmfpaa
open Go.RowKit Go.Ct

theorem inRange_c (i : Int) (w : World) : Calls Try.prog 73 #[.int .i64 i] w fun e w' => e = .returned (.bool (decide (0 ≤ i ∧ i < 64))) ∧ St w [] [] w' := by
  refine enter Try.func73 Try.ntmps73 rfl rfl (SF.s0 w) ?_
  simp only [mkS]
  all_goals (refine k_seq ?_; refine k_region ?_; refine j_assignL (fun _ => ?_); refine l_nil ?_; refine k_seq ?_; refine k_region ?_; refine j_move ?_; refine j_geq ?_; refine j_move ?_)
  all_goals (first | refine j_un ?_ | (refine j_yes ?_; refine j_move ?_) | (refine l_case (g := 5) (by exact rfl) (fun g5 => ?_) (fun g5 => ?_) <;> (revert g5; (first | refine cv1 ?_ | refine cv2 ?_ | refine cvb ?_ | refine cvc ?_ | refine cv9 ?_ | refine cva ?_ | refine cv7 ?_ | refine cv8 ?_ | refine cvd ?_ | refine cve ?_ | skip); intro g5) <;> (first | refine j_un ?_ | (refine j_yes ?_; refine j_move ?_))))
  all_goals ((first | refine j_un ?_ | (refine j_yes ?_; refine j_lss ?_)); refine j_pick ?_; refine j_assignL (fun _ => ?_); refine l_nil ?_)
  all_goals
   refine k_rv Try.results73 (fun w hw => ?_)
   first | (rw [decide_eq_false (by omega)]; exact ⟨rfl, hw.done⟩) | (rw [show decide (0 ≤ i ∧ i < 64) = decide (i < 64) by simp; omega]; exact ⟨rfl, hw.done⟩)
theorem has_c {n : Nat} (hn : n < 18446744073709551616) (i : Int) (w : World) : Calls Try.prog 62 #[.int .u64 (n : Int), .int .i64 i] w fun e w' => e = .returned (.bool (hasI n i)) ∧ St w [] [] w' := by
  refine enter Try.func62 Try.ntmps62 rfl rfl (SF.s0 w) ?_
  simp only [mkS]
  all_goals (refine k_seq ?_; refine k_region ?_; refine j_assignL (fun _ => ?_); refine l_nil ?_; refine k_seq ?_; refine k_region ?_; refine j_move ?_; (refine j_own (cV (hc := fun w1 hw => inRange_c i w1)) (fun x6 => ?_); try (refine l_fact (fun h6 => ?_))); refine j_move ?_)
  all_goals (first | refine j_un ?_ | (refine j_yes ?_; refine j_move ?_) | (refine l_case (g := 7) (by exact rfl) (fun g7 => ?_) (fun g7 => ?_) <;> (revert g7; (first | refine cv1 ?_ | refine cv2 ?_ | refine cvb ?_ | refine cvc ?_ | refine cv9 ?_ | refine cva ?_ | refine cv7 ?_ | refine cv8 ?_ | refine cvd ?_ | refine cve ?_ | skip); intro g7) <;> (first | refine j_un ?_ | (refine j_yes ?_; refine j_move ?_))))
  all_goals ((first | refine j_un ?_ | (refine j_yes ?_; refine j_move ?_)); (first | refine j_un ?_ | (refine j_yes ?_; refine j_convert ?_)); (first | refine j_un ?_ | (refine j_yes ?_; refine j_shr ?_)); (first | refine j_un ?_ | (refine j_yes ?_; refine j_and ?_)); (first | refine j_un ?_ | (refine j_yes ?_; refine j_eql ?_)); refine j_pick ?_; refine j_assignL (fun _ => ?_); refine l_nil ?_)
  all_goals
   refine k_rv Try.results62 (fun w hw => ?_)
   first | (rw [hasI_lo n (by omega)]; exact ⟨rfl, hw.done⟩) | (rw [hasI_hi n (by omega)]; exact ⟨rfl, hw.done⟩) | (rw [← has_raw hn (by omega) (by omega)]; exact ⟨rfl, hw.done⟩) | (rw [show hasI n i = false by simp [hasI]; omega]; exact ⟨rfl, hw.done⟩)
theorem countN_c {n : Nat} (hn : n < 18446744073709551616) (w : World) : Calls Try.prog 54 #[.int .u64 (n : Int)] w fun e w' => e = .returned (.int .i64 ((cnt n 64 : Nat) : Int)) ∧ St w [] [] w' := by
  rw [← rOnes_cnt hn]; exact count_c _ w
theorem pos_c {n : Nat} (hn : n < 18446744073709551616) (i : Int) (w : World) : Calls Try.prog 63 #[.int .u64 (n : Int), .int .i64 i] w fun e w' => e = .returned (.int .i64 ((posN n i : Nat) : Int)) ∧ St w [] [] w' := by
  refine enter Try.func63 Try.ntmps63 rfl rfl (SF.s0 w) ?_
  simp only [mkS]
  all_goals (refine k_seq ?_; refine k_region ?_; refine j_assignL (fun _ => ?_); refine l_nil ?_; refine k_seq ?_; refine k_seq ?_; refine k_region ?_; refine j_move ?_; refine j_leq ?_; refine l_nil ?_)
  all_goals
   refine k_if (fun c6 => ?_) (fun c6 => ?_)
   · try (exact absurd c6 (by decide))
     all_goals (revert c6; (first | refine cv1 ?_ | refine cv3 ?_ | refine cv5 ?_ | refine cv7 ?_ | refine cv9 ?_ | refine cvb ?_ | refine cvd ?_ | skip); intro c6)
     all_goals (refine k_seq ?_; refine k_region ?_; refine j_assignL (fun _ => ?_); refine l_nil ?_)
     all_goals
      refine k_rv Try.results63 (fun w hw => ?_)
      first | (rw [← pos_raw hn (by omega) (by omega)]; exact ⟨rfl, hw.done⟩) | (rw [show posN n i = cnt n 64 by unfold posN; congr 1; omega]; exact ⟨rfl, hw.done⟩) | (rw [show posN n i = 0 by unfold posN; rw [show min i.toNat 64 = 0 by omega]; rfl]; exact ⟨rfl, hw.done⟩)
   · try (exact absurd c6 (by decide))
     all_goals (revert c6; (first | refine cv2 ?_ | refine cv4 ?_ | refine cv6 ?_ | refine cv8 ?_ | refine cva ?_ | refine cvc ?_ | refine cve ?_ | skip); intro c6)
     all_goals (refine k_skip ?_; refine k_seq ?_; refine k_seq ?_; refine k_region ?_; refine j_move ?_; refine j_geq ?_; refine l_nil ?_)
     all_goals
      refine k_if (fun c8 => ?_) (fun c8 => ?_)
      · try (exact absurd c8 (by decide))
        all_goals (revert c8; (first | refine cv1 ?_ | refine cv3 ?_ | refine cv5 ?_ | refine cv7 ?_ | refine cv9 ?_ | refine cvb ?_ | refine cvd ?_ | skip); intro c8)
        all_goals (refine k_seq ?_; refine k_region ?_; refine j_move ?_; (refine j_own (by first | exact cV (hc := fun w1 hw => countN_c hn w1) | exact cV (hc := fun w1 hw => count_c (rAnd .u64 (n : Int) (IntKind.u64.wrap (rShl .u64 1 i - 1))) w1)) (fun x10 => ?_); try (refine l_fact (fun h10 => ?_))); refine j_assignL (fun _ => ?_); refine l_nil ?_)
        all_goals
         refine k_rv Try.results63 (fun w hw => ?_)
         first | (rw [← pos_raw hn (by omega) (by omega)]; exact ⟨rfl, hw.done⟩) | (rw [show posN n i = cnt n 64 by unfold posN; congr 1; omega]; exact ⟨rfl, hw.done⟩) | (rw [show posN n i = 0 by unfold posN; rw [show min i.toNat 64 = 0 by omega]; rfl]; exact ⟨rfl, hw.done⟩)
      · try (exact absurd c8 (by decide))
        all_goals (revert c8; (first | refine cv2 ?_ | refine cv4 ?_ | refine cv6 ?_ | refine cv8 ?_ | refine cva ?_ | refine cvc ?_ | refine cve ?_ | skip); intro c8)
        all_goals (refine k_skip ?_; refine k_seq ?_; refine k_region ?_; refine j_move ?_; refine j_move ?_; refine j_convert ?_; refine j_shl ?_; refine j_sub ?_; refine j_and ?_; (refine j_own (by first | exact cV (hc := fun w1 hw => countN_c hn w1) | exact cV (hc := fun w1 hw => count_c (rAnd .u64 (n : Int) (IntKind.u64.wrap (rShl .u64 1 i - 1))) w1)) (fun x17 => ?_); try (refine l_fact (fun h17 => ?_))); refine j_assignL (fun _ => ?_); refine l_nil ?_)
        all_goals
         refine k_rv Try.results63 (fun w hw => ?_)
         first | (rw [← pos_raw hn (by omega) (by omega)]; exact ⟨rfl, hw.done⟩) | (rw [show posN n i = cnt n 64 by unfold posN; congr 1; omega]; exact ⟨rfl, hw.done⟩) | (rw [show posN n i = 0 by unfold posN; rw [show min i.toNat 64 = 0 by omega]; rfl]; exact ⟨rfl, hw.done⟩)
theorem with_c {n : Nat} (hn : n < 18446744073709551616) (i : Int) (w : World) : Calls Try.prog 64 #[.int .u64 (n : Int), .int .i64 i] w fun e w' => e = .returned (.int .u64 ((withI n i : Nat) : Int)) ∧ St w [] [] w' := by
  refine enter Try.func64 Try.ntmps64 rfl rfl (SF.s0 w) ?_
  simp only [mkS]
  all_goals (refine k_seq ?_; refine k_region ?_; refine j_assignL (fun _ => ?_); refine l_nil ?_; refine k_seq ?_; refine k_seq ?_; refine k_region ?_; refine j_move ?_; (refine j_own (cV (hc := fun w1 hw => inRange_c i w1)) (fun x6 => ?_); try (refine l_fact (fun h6 => ?_))); refine j_not ?_; refine l_nil ?_)
  all_goals
   refine k_if (fun c7 => ?_) (fun c7 => ?_)
   · try (exact absurd c7 (by decide))
     all_goals (revert c7; (first | refine cv1 ?_ | refine cv3 ?_ | refine cv5 ?_ | refine cv7 ?_ | refine cv9 ?_ | refine cvb ?_ | refine cvd ?_ | skip); intro c7)
     all_goals (refine k_seq ?_; refine k_region ?_; refine j_move ?_; refine j_assignL (fun _ => ?_); refine l_nil ?_)
     all_goals
      refine k_rv Try.results64 (fun w hw => ?_)
      first | (rw [← with_raw hn (by omega) (by omega)]; exact ⟨rfl, hw.done⟩) | (rw [show withI n i = n by unfold withI; rw [if_neg (by omega)]]; exact ⟨rfl, hw.done⟩)
   · try (exact absurd c7 (by decide))
     all_goals (revert c7; (first | refine cv2 ?_ | refine cv4 ?_ | refine cv6 ?_ | refine cv8 ?_ | refine cva ?_ | refine cvc ?_ | refine cve ?_ | skip); intro c7)
     all_goals (refine k_skip ?_; refine k_seq ?_; refine k_region ?_; refine j_move ?_; refine j_move ?_; refine j_convert ?_; refine j_shl ?_; refine j_or ?_; refine j_assignL (fun _ => ?_); refine l_nil ?_)
     all_goals
      refine k_rv Try.results64 (fun w hw => ?_)
      first | (rw [← with_raw hn (by omega) (by omega)]; exact ⟨rfl, hw.done⟩) | (rw [show withI n i = n by unfold withI; rw [if_neg (by omega)]]; exact ⟨rfl, hw.done⟩)
end Go.Proofs.Ytpfjjagcmjmfpaa
