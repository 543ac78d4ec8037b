/- Hash values: their slices, and how many two of them share. -/
import Derived.Test.YtpfjjagcmjmfpaaTape
import Derived.Test.YtpfjjagcmjmfpaaGBits
set_option linter.unusedSimpArgs false
set_option linter.unusedVariables false
namespace Go.Ct
open Go Go.RowKit
/-- The slice of a hash value for a level. -/
def sl (h l : Nat) : Nat := (h >>> (6 * l)) % 64
theorem sl_lt (h l : Nat) : sl h l < 64 := Nat.mod_lt _ (by decide)
theorem sl_and (h l : Nat) : (h >>> (6 * l)) &&& 63 = sl h l := Nat.and_two_pow_sub_one_eq_mod _ 6
theorem sr_next (h j : Nat) : (h >>> (6 * j)) / 64 = h >>> (6 * (j + 1)) := by
  rw [show 6 * (j + 1) = 6 * j + 6 by omega, Nat.shiftRight_add, Nat.shiftRight_eq_div_pow (h >>> (6 * j)) 6]
/-- The first level at which two hash values differ; 11 if there is none. -/
def comF (h k : Nat) : Nat → Nat → Nat
  | 0, l => l
  | n + 1, l => if sl h l = sl k l then comF h k n (l + 1) else l
def com (h k : Nat) : Nat := comF h k 11 0
theorem comF_spec (h k : Nat) : ∀ n l, l ≤ comF h k n l ∧ comF h k n l ≤ l + n ∧ (∀ i, l ≤ i → i < comF h k n l → sl h i = sl k i) ∧ (comF h k n l < l + n → sl h (comF h k n l) ≠ sl k (comF h k n l))
  | 0, l => ⟨Nat.le_refl _, Nat.le_refl _, fun i h1 h2 => absurd h2 (by simp only [comF]; omega), fun h => absurd h (by simp only [comF]; omega)⟩
  | n + 1, l => by
    simp only [comF]
    split
    · rename_i he
      obtain ⟨h1, h2, h3, h4⟩ := comF_spec h k n (l + 1)
      refine ⟨by omega, by omega, fun i hi hi2 => ?_, fun hlt => h4 (by omega)⟩
      rcases Nat.lt_or_eq_of_le hi with hi | rfl
      · exact h3 i (by omega) hi2
      · exact he
    · rename_i he
      exact ⟨Nat.le_refl _, by omega, fun i h1 h2 => absurd h2 (by omega), fun _ => he⟩
theorem com_le (h k : Nat) : com h k ≤ 11 := by have := (comF_spec h k 11 0).2.1; unfold com; omega
theorem com_eq {h k i : Nat} (hi : i < com h k) : sl h i = sl k i := (comF_spec h k 11 0).2.2.1 i (Nat.zero_le _) hi
theorem com_ne {h k : Nat} (hc : com h k < 11) : sl h (com h k) ≠ sl k (com h k) := (comF_spec h k 11 0).2.2.2 (by unfold com at hc; omega)
theorem com_is {h k l : Nat} (hl : l ≤ 11) (h1 : ∀ i, i < l → sl h i = sl k i) (h2 : l < 11 → sl h l ≠ sl k l) : l = com h k := by
  rcases Nat.lt_trichotomy l (com h k) with h3 | h3 | h3
  · exact absurd (com_eq h3) (h2 (by have := com_le h k; omega))
  · exact h3
  · exact absurd (h1 _ h3) (com_ne (by omega))
theorem o_quoN {P : Program} {S : List (Nat × Value)} {G : World → Prop} {d : Nat} {ty t t' : TypeId} {pos : String} {af : Array Edge} {gd : Option (Nat × Bool)} {x y : Operand} {a b : Nat} (hx : ev S x = .int .u64 (a : Int)) (hy : ev S y = .int .u64 (b : Int)) (h0 : b ≠ 0) (ha : a < 18446744073709551616) : Quiet P S G ⟨some d, .binOp .quo t x y t', ty, pos, af, gd⟩ (.int .u64 ((a / b : Nat) : Int)) := ⟨fun w _ => by
  have h1 : ((b : Nat) : Int) ≠ 0 := by omega
  have h2 : (a : Int).tdiv (b : Int) = ((a / b : Nat) : Int) := by rw [Int.tdiv_eq_ediv_of_nonneg (by omega)]; rfl
  have h3 : IntKind.u64.wrap ((a / b : Nat) : Int) = ((a / b : Nat) : Int) := by
    have h4 := Nat.div_le_self a b
    generalize a / b = q at h4 ⊢
    rw [wrap_u64]
    omega
  simp only [execOp, hx, hy, eqGuard_at_int, binOp, Op.intDiv]
  simp [h0, h2]
  exact h3⟩
section
variable {P : Program} {S : List (Nat × Value)} {G : World → Prop} {d : Nat} {ty t t' : TypeId} {pos : String} {af : Array Edge} {gd : Option (Nat × Bool)} {x y : Operand} {a b i : Nat} {k' : IntKind}
theorem o_mulN' (hx : ev S x = .int .i64 (a : Int)) (hy : ev S y = .int .i64 (b : Int)) (h : a * b ≤ 9223372036854775807) : Quiet P S G ⟨some d, .binOp .mul t x y t', ty, pos, af, gd⟩ (.int .i64 ((a * b : Nat) : Int)) := by
  have := o_mul (P := P) (G := G) (d := d) (ty := ty) (pos := pos) (af := af) (gd := gd) (t := t) (t' := t') hx hy
  rw [← Int.natCast_mul, wrap_i64 (by omega) (by omega)] at this
  exact this
theorem o_shrN (hx : ev S x = .int .u64 (a : Int)) (hy : ev S y = .int k' (i : Int)) (h : i ≤ 64) : Quiet P S G ⟨some d, .binOp .shr t x y t', ty, pos, af, gd⟩ (.int .u64 ((a >>> i : Nat) : Int)) := by
  have := o_shr (P := P) (G := G) (d := d) (ty := ty) (pos := pos) (af := af) (gd := gd) (t := t) (t' := t') hx hy (by omega)
  rwa [rShr_nat h] at this
theorem o_andN (hx : ev S x = .int .u64 (a : Int)) (hy : ev S y = .int .u64 (b : Int)) (ha : a < 18446744073709551616) (hb : b < 18446744073709551616) : Quiet P S G ⟨some d, .binOp .and t x y t', ty, pos, af, gd⟩ (.int .u64 ((a &&& b : Nat) : Int)) := by
  have := o_and (P := P) (G := G) (d := d) (ty := ty) (pos := pos) (af := af) (gd := gd) (t := t) (t' := t') hx hy
  rwa [rAnd_nat ha hb] at this
theorem o_remN (hx : ev S x = .int .u64 (a : Int)) (hy : ev S y = .int .u64 (b : Int)) (h0 : b ≠ 0) : Quiet P S G ⟨some d, .binOp .rem t x y t', ty, pos, af, gd⟩ (.int .u64 ((a % b : Nat) : Int)) := by
  have := o_rem (P := P) (G := G) (d := d) (ty := ty) (pos := pos) (af := af) (gd := gd) (t := t) (t' := t') hx hy (by omega)
  rwa [Int.tmod_eq_emod_of_nonneg (by omega), ← Int.natCast_emod] at this
end
end Go.Ct
namespace Go.Proofs.Ytpfjjagcmjmfpaa
open Go.RowKit Go.Ct
theorem khSlice_c {h l : Nat} (hh : h < 18446744073709551616) (hl : l ≤ 10) (w : World) : Calls Try.prog 40 #[.int .u64 (h : Int), .int .i64 (l : Int)] w fun e w' => e = .returned (.int .i64 ((sl h l : Nat) : Int)) ∧ St w [] [] w' := by
  have hsl : (h >>> (6 * l)) &&& 63 < 64 := by rw [sl_and]; exact sl_lt h l
  refine enter Try.func40 Try.ntmps40 rfl rfl (SF.s0 w) ?_
  simp only [mkS]
  all_goals (refine k_seq ?_; refine k_region ?_; refine j_assignL (fun _ => ?_); refine l_nil ?_; refine k_seq ?_; refine k_seq ?_; refine k_region ?_; refine j_move ?_; refine j_lss ?_; refine j_move ?_)
  all_goals (first | refine j_un ?_ | (refine j_yes ?_; refine j_move ?_) | (refine l_case (g := 7) (by exact rfl) (fun g7 => ?_) (fun g7 => ?_) <;> (revert g7; (first | refine cv1 ?_ | refine cv2 ?_ | refine cvb ?_ | refine cvc ?_ | refine cv9 ?_ | refine cva ?_ | refine cv7 ?_ | refine cv8 ?_ | refine cvd ?_ | refine cve ?_ | skip); intro g7) <;> (try (exfalso; omega)) <;> (first | refine j_un ?_ | (refine j_yes ?_; refine j_move ?_))))
  all_goals ((first | refine j_un ?_ | (refine j_yes ?_; refine j_geq ?_)); refine j_pick ?_; refine l_nil ?_)
  all_goals
   refine k_if (fun c10 => ?_) (fun c10 => ?_)
   · try (exact absurd c10 (by decide))
     all_goals (revert c10; (first | refine cv1 ?_ | refine cv3 ?_ | refine cv5 ?_ | refine cv7 ?_ | refine cv9 ?_ | refine cvb ?_ | refine cvd ?_ | skip); intro c10)
     all_goals try (exfalso; omega)
     all_goals (refine k_seq ?_; refine k_region ?_; refine j_assignL (fun _ => ?_); refine l_nil ?_)
     all_goals
      refine k_rv Try.results40 (fun w hw => ?_)
      exact ⟨by rw [sl_and]; rfl, hw.done⟩
   · try (exact absurd c10 (by decide))
     all_goals (revert c10; (first | refine cv2 ?_ | refine cv4 ?_ | refine cv6 ?_ | refine cv8 ?_ | refine cva ?_ | refine cvc ?_ | refine cve ?_ | skip); intro c10)
     all_goals try (exfalso; omega)
     all_goals (refine k_skip ?_; refine k_seq ?_; refine k_region ?_; refine j_move ?_; refine j_move ?_; refine l_quiet (o_mulN' (a := 6) (b := l) (by exact rfl) (by exact rfl) (by omega)) rfl ?_; refine j_convert ?_; refine l_quiet (o_shrN (i := 6 * l) (by exact rfl) (by exact rfl) (by omega)) rfl ?_; refine l_quiet (o_andN (b := 63) (by exact rfl) (by exact rfl) (Nat.lt_of_le_of_lt (Nat.shiftRight_le _ _) hh) (by decide)) rfl ?_; refine j_convert ?_; refine j_assignL (fun _ => ?_); refine l_nil ?_)
     all_goals
      refine k_rv Try.results40 (fun w hw => ?_)
      exact ⟨by rw [sl_and]; rfl, hw.done⟩
theorem khCommon_c {h k : Nat} (hh : h < 18446744073709551616) (hk : k < 18446744073709551616) (w : World) : Calls Try.prog 24 #[.int .u64 (h : Int), .int .u64 (k : Int)] w fun e w' => e = .returned (.int .i64 ((com h k : Nat) : Int)) ∧ St w [] [] w' := by
  refine enter Try.func24 Try.ntmps24 rfl rfl (SF.s0 w) ?_
  simp only [mkS]
  all_goals (refine k_seq ?_; refine k_region ?_; refine j_assignL (fun _ => ?_); refine l_nil ?_; refine k_seq ?_; refine k_seq ?_; refine k_region ?_; refine j_move ?_; refine l_nil ?_; refine k_block ?_)
  all_goals
   refine k_loopC [4, 5, 6, 7, 8, 9, 10, 11, 12, 13, 14, 15, 16, 17] (fun y : Nat => [(6, .int .i64 ((y : Nat) : Int))]) (fun y => y ≤ 11 ∧ ∀ i, i < y → sl h i = sl k i) (fun y => 11 - y) (0) (⟨Nat.zero_le _, fun i hi => absurd hi (Nat.not_lt_zero i)⟩) ?_ (fun y f hx => ?_)
   · repeat (first | exact knows_nil _ | refine knows_cons (by first | exact rfl | (conv => { lhs; whnf }; simp; done)) ?_)
   dsimp only [mkU, List.map, List.cons_append, List.nil_append]
   all_goals (refine k_seq ?_; refine k_region ?_; refine j_lss ?_; refine l_nil ?_; refine k_seq ?_)
   all_goals
    refine k_if (fun c7 => ?_) (fun c7 => ?_)
    · try (exact absurd c7 (by decide))
      all_goals (revert c7; (first | refine cv1 ?_ | refine cv3 ?_ | refine cv5 ?_ | refine cv7 ?_ | refine cv9 ?_ | refine cvb ?_ | refine cvd ?_ | skip); intro c7)
      all_goals (refine k_skip ?_; refine k_seq ?_; refine k_block ?_; refine k_seq ?_; refine k_region ?_; refine j_move ?_; refine j_assignL (fun _ => ?_); refine l_nil ?_; refine k_seq ?_; refine k_region ?_; refine j_move ?_; refine j_move ?_; (refine j_own (cV (hc := fun w1 hw => khSlice_c (l := y) hh (by omega) w1)) (fun x11 => ?_); try (refine l_fact (fun h11 => ?_))); refine j_move ?_; refine j_move ?_; (refine j_own (cV (hc := fun w1 hw => khSlice_c (l := y) hk (by omega) w1)) (fun x14 => ?_); try (refine l_fact (fun h14 => ?_))); refine j_neq ?_; refine l_nil ?_)
      all_goals
       refine k_if (fun c15 => ?_) (fun c15 => ?_)
       · try (exact absurd c15 (by decide))
         all_goals (revert c15; (first | refine cv1 ?_ | refine cv3 ?_ | refine cv5 ?_ | refine cv7 ?_ | refine cv9 ?_ | refine cvb ?_ | refine cvd ?_ | skip); intro c15)
         all_goals (refine k_seq ?_; refine k_region ?_; refine j_move ?_; refine j_assignL (fun _ => ?_); refine l_nil ?_)
         all_goals
          refine k_rv Try.results24 (fun w hw => ?_)
          exact ⟨by rw [← com_is (h := h) (k := k) hx.1 hx.2 (fun _ => by omega)]; rfl, hw.done⟩
       · try (exact absurd c15 (by decide))
         all_goals (revert c15; (first | refine cv2 ?_ | refine cv4 ?_ | refine cv6 ?_ | refine cv8 ?_ | refine cva ?_ | refine cvc ?_ | refine cve ?_ | skip); intro c15)
         all_goals (refine k_skip ?_; refine k_blk ?_; refine k_region ?_; refine j_inc ?_; refine j_move ?_; refine l_nil ?_)
         all_goals
          refine k_roundC (y + 1) ?_ ?_ ?_
          · first | omega | (simp only []; omega)
          · repeat' (first | exact knows_nil _ | refine knows_cons ?_ ?_)
            all_goals (first | exact rfl | (conv => { lhs; whnf }; simp; done) | (conv => { lhs; whnf }; congr 1; omega))
          · exact ⟨by omega, fun i hi => by rcases Nat.lt_succ_iff_lt_or_eq.1 hi with h | rfl; exact hx.2 i h; omega⟩
    · try (exact absurd c7 (by decide))
      all_goals (revert c7; (first | refine cv2 ?_ | refine cv4 ?_ | refine cv6 ?_ | refine cv8 ?_ | refine cva ?_ | refine cvc ?_ | refine cve ?_ | skip); intro c7)
      all_goals (refine k_exit rfl ?_; refine k_seq ?_; refine k_region ?_; refine j_assignL (fun _ => ?_); refine l_nil ?_)
      all_goals
       refine k_rv Try.results24 (fun w hw => ?_)
       exact ⟨by rw [← com_is (h := h) (k := k) (l := 11) (by decide) (fun i hi => hx.2 i (by omega)) (fun h => absurd h (by decide))]; rfl, hw.done⟩
theorem refSlice_c {h l : Nat} (hh : h < 18446744073709551616) (hl : l ≤ 10) (w : World) : Calls Try.prog 31 #[.int .u64 (h : Int), .int .i64 (l : Int)] w fun e w' => e = .returned (.int .i64 ((sl h l : Nat) : Int)) ∧ St w [] [] w' := by
  refine enter Try.func31 Try.ntmps31 rfl rfl (SF.s0 w) ?_
  simp only [mkS]
  all_goals (refine k_seq ?_; refine k_region ?_; refine j_assignL (fun _ => ?_); refine l_nil ?_; refine k_seq ?_; refine k_seq ?_; refine k_region ?_; refine j_move ?_; refine j_lss ?_; refine j_move ?_)
  all_goals (first | refine j_un ?_ | (refine j_yes ?_; refine j_move ?_) | (refine l_case (g := 7) (by exact rfl) (fun g7 => ?_) (fun g7 => ?_) <;> (revert g7; (first | refine cv1 ?_ | refine cv2 ?_ | refine cvb ?_ | refine cvc ?_ | refine cv9 ?_ | refine cva ?_ | refine cv7 ?_ | refine cv8 ?_ | refine cvd ?_ | refine cve ?_ | skip); intro g7) <;> (try (exfalso; omega)) <;> (first | refine j_un ?_ | (refine j_yes ?_; refine j_move ?_))))
  all_goals ((first | refine j_un ?_ | (refine j_yes ?_; refine j_gtr ?_)); refine j_pick ?_; refine l_nil ?_)
  all_goals
   refine k_if (fun c10 => ?_) (fun c10 => ?_)
   · try (exact absurd c10 (by decide))
     all_goals (revert c10; (first | refine cv1 ?_ | refine cv3 ?_ | refine cv5 ?_ | refine cv7 ?_ | refine cv9 ?_ | refine cvb ?_ | refine cvd ?_ | skip); intro c10)
     all_goals try (exfalso; omega)
     all_goals (refine k_seq ?_; refine k_region ?_; refine j_assignL (fun _ => ?_); refine l_nil ?_)
     all_goals
      refine k_rv Try.results31 (fun w hw => ?_)
      have hy : y = l := by omega
      subst hy
      exact ⟨rfl, hw.done⟩
   · try (exact absurd c10 (by decide))
     all_goals (revert c10; (first | refine cv2 ?_ | refine cv4 ?_ | refine cv6 ?_ | refine cv8 ?_ | refine cva ?_ | refine cvc ?_ | refine cve ?_ | skip); intro c10)
     all_goals try (exfalso; omega)
     all_goals (refine k_skip ?_; refine k_seq ?_; refine k_block ?_)
     all_goals
      refine k_loopC [0, 1, 11, 12, 13, 14, 15, 16] (fun y : Nat => [(1, .int .i64 ((l - y : Nat) : Int)), (0, .int .u64 ((h >>> (6 * y) : Nat) : Int))]) (fun y => y ≤ l) (fun y => l - y) (0) (Nat.zero_le _) ?_ (fun y f hx => ?_)
      · repeat (first | exact knows_nil _ | refine knows_cons (by first | exact rfl | (conv => { lhs; whnf }; simp; done)) ?_)
      dsimp only [mkU, List.map, List.cons_append, List.nil_append]
      all_goals (refine k_seq ?_; refine k_seq ?_; refine k_region ?_; refine j_move ?_; refine j_gtr ?_; refine l_nil ?_)
      all_goals
       refine k_if (fun c12 => ?_) (fun c12 => ?_)
       · try (exact absurd c12 (by decide))
         all_goals (revert c12; (first | refine cv1 ?_ | refine cv3 ?_ | refine cv5 ?_ | refine cv7 ?_ | refine cv9 ?_ | refine cvb ?_ | refine cvd ?_ | skip); intro c12)
         all_goals try (exfalso; omega)
         all_goals (refine k_skip ?_; refine k_seq ?_; refine k_block ?_; refine k_region ?_; refine j_move ?_; refine j_own (loud_of_quiet (o_quoN (b := 64) (by exact rfl) (by exact rfl) (by decide) (Nat.lt_of_le_of_lt (Nat.shiftRight_le _ _) hh))) (fun x16 => ?_); refine j_assignL (fun _ => ?_); refine l_nil ?_; refine k_blk ?_; refine k_region ?_; refine j_move ?_; refine j_dec ?_; refine j_assignL (fun _ => ?_); refine l_nil ?_)
         all_goals
          refine k_roundC (y + 1) ?_ ?_ ?_
          · first | omega | (simp only []; omega)
          · repeat' (first | exact knows_nil _ | refine knows_cons ?_ ?_)
            all_goals (first | exact rfl | (conv => { lhs; whnf }; rw [sr_next]; done) | (conv => { lhs; whnf }; simp; done) | (conv => { lhs; whnf }; congr 1; omega))
          · omega
       · try (exact absurd c12 (by decide))
         all_goals (revert c12; (first | refine cv2 ?_ | refine cv4 ?_ | refine cv6 ?_ | refine cv8 ?_ | refine cva ?_ | refine cvc ?_ | refine cve ?_ | skip); intro c12)
         all_goals try (exfalso; omega)
         all_goals (refine k_exit rfl ?_; refine k_seq ?_; refine k_region ?_; refine j_move ?_; refine l_quiet (o_remN (b := 64) (by exact rfl) (by exact rfl) (by decide)) rfl ?_; refine j_convert ?_; refine j_assignL (fun _ => ?_); refine l_nil ?_)
         all_goals
          refine k_rv Try.results31 (fun w hw => ?_)
          have hy : y = l := by omega
          subst hy
          exact ⟨rfl, hw.done⟩
theorem refCommon_c {h k : Nat} (hh : h < 18446744073709551616) (hk : k < 18446744073709551616) (w : World) : Calls Try.prog 17 #[.int .u64 (h : Int), .int .u64 (k : Int)] w fun e w' => e = .returned (.int .i64 ((com h k : Nat) : Int)) ∧ St w [] [] w' := by
  refine enter Try.func17 Try.ntmps17 rfl rfl (SF.s0 w) ?_
  simp only [mkS]
  all_goals (refine k_seq ?_; refine k_region ?_; refine j_assignL (fun _ => ?_); refine l_nil ?_; refine k_seq ?_; refine k_region ?_; refine j_assignL (fun _ => ?_); refine l_nil ?_; refine k_seq ?_; refine k_block ?_)
  all_goals
   refine k_loopC [5, 6, 7, 8, 9, 10, 11, 12, 13, 14, 15, 16, 17, 18] (fun y : Nat => [(5, .int .i64 ((y : Nat) : Int))]) (fun y => y ≤ 11 ∧ ∀ i, i < y → sl h i = sl k i) (fun y => 11 - y) (0) (⟨Nat.zero_le _, fun i hi => absurd hi (Nat.not_lt_zero i)⟩) ?_ (fun y f hx => ?_)
   · repeat (first | exact knows_nil _ | refine knows_cons (by first | exact rfl | (conv => { lhs; whnf }; simp; done)) ?_)
   dsimp only [mkU, List.map, List.cons_append, List.nil_append]
   all_goals (refine k_seq ?_; refine k_seq ?_; refine k_region ?_; refine j_move ?_; refine j_leq ?_; refine j_move ?_)
   all_goals (first | refine j_un ?_ | (refine j_yes ?_; refine j_move ?_) | (refine l_case (g := 8) (by exact rfl) (fun g8 => ?_) (fun g8 => ?_) <;> (revert g8; (first | refine cv1 ?_ | refine cv2 ?_ | refine cvb ?_ | refine cvc ?_ | refine cv9 ?_ | refine cva ?_ | refine cv7 ?_ | refine cv8 ?_ | refine cvd ?_ | refine cve ?_ | skip); intro g8) <;> (try (exfalso; omega)) <;> (first | refine j_un ?_ | (refine j_yes ?_; refine j_move ?_))))
   all_goals ((first | refine j_un ?_ | (refine j_yes ?_; refine j_move ?_)); ((first | refine j_un ?_ | (refine j_yes ?_; (refine j_own (cV (hc := fun w1 hw => refSlice_c (l := y) hh (by omega) w1)) (fun x11 => ?_); try (refine l_fact (fun h11 => ?_)))))); (first | refine j_un ?_ | (refine j_yes ?_; refine j_move ?_)); (first | refine j_un ?_ | (refine j_yes ?_; refine j_move ?_)); ((first | refine j_un ?_ | (refine j_yes ?_; (refine j_own (cV (hc := fun w1 hw => refSlice_c (l := y) hk (by omega) w1)) (fun x14 => ?_); try (refine l_fact (fun h14 => ?_)))))); (first | refine j_un ?_ | (refine j_yes ?_; refine j_eql ?_)); refine j_pick ?_; refine l_nil ?_)
   all_goals
    refine k_if (fun c16 => ?_) (fun c16 => ?_)
    · try (exact absurd c16 (by decide))
      all_goals (revert c16; (first | refine cv1 ?_ | refine cv3 ?_ | refine cv5 ?_ | refine cv7 ?_ | refine cv9 ?_ | refine cvb ?_ | refine cvd ?_ | skip); intro c16)
      all_goals try (exfalso; omega)
      all_goals (refine k_skip ?_; refine k_block ?_; refine k_region ?_; refine j_move ?_; refine j_inc ?_; refine j_assignL (fun _ => ?_); refine l_nil ?_; refine k_blk ?_)
      all_goals
       refine k_roundC (y + 1) ?_ ?_ ?_
       · first | omega | (simp only []; omega)
       · repeat' (first | exact knows_nil _ | refine knows_cons ?_ ?_)
         all_goals (first | exact rfl | (conv => { lhs; whnf }; simp; done) | (conv => { lhs; whnf }; congr 1; omega))
       · exact ⟨by omega, fun i hi => by rcases Nat.lt_succ_iff_lt_or_eq.1 hi with h | rfl; exact hx.2 i h; omega⟩
    · try (exact absurd c16 (by decide))
      all_goals (revert c16; (first | refine cv2 ?_ | refine cv4 ?_ | refine cv6 ?_ | refine cv8 ?_ | refine cva ?_ | refine cvc ?_ | refine cve ?_ | skip); intro c16)
      all_goals try (exfalso; omega)
      all_goals (refine k_exit rfl ?_; refine k_seq ?_; refine k_region ?_; refine j_move ?_; refine j_assignL (fun _ => ?_); refine l_nil ?_)
      all_goals
       refine k_rv Try.results17 (fun w hw => ?_)
       exact ⟨by rw [← com_is (h := h) (k := k) hx.1 hx.2 (fun _ => by first | omega | (intro; omega))]; rfl, hw.done⟩
end Go.Proofs.Ytpfjjagcmjmfpaa
