/- Branches: the reference's build, Inserted, Updated, Removed. -/
import Derived.Test.YthmagkjcangnfaaBr4
import Derived.Test.YthmagkjcangnfaaJoin
set_option linter.unusedSimpArgs false
set_option linter.unusedVariables false
namespace Go.Proofs.Ythmagkjcangnfaa
open Go.RowKit Go.Ct
def updR (b : Nat) (xs : List Int) (i : Nat) (r : Int) : Nat → Option Int := upd (mOf b xs) i (if 0 < r then some r else none)
theorem bOf_some {m : Nat → Option Int} {k : Nat} {v : Int} (h : m k = some v) (hk : k < 64) : withI (bOf m k) (k : Int) = bOf m (k + 1) ∧ lOf m k ++ [v] = lOf m (k + 1) := by
  simp only [bOf, lOf, h, withI, Option.isSome_some, if_true, Option.toList, Int.toNat_natCast, and_true]
  exact if_pos (by omega)
theorem bOf_none {m : Nat → Option Int} {k : Nat} (h : m k = none) : bOf m k = bOf m (k + 1) ∧ lOf m k = lOf m (k + 1) := by
  simp [bOf, lOf, h]
theorem bOf_lt64 (m : Nat → Option Int) {k : Nat} (hk : k ≤ 64) : bOf m k < 18446744073709551616 := Nat.lt_of_lt_of_le (bOf_lt m k) (Nat.pow_le_pow_right (n := 2) (by decide) hk)
theorem lOf_len (m : Nat → Option Int) : ∀ k, (lOf m k).length ≤ k
  | 0 => Nat.le_refl _
  | k + 1 => by have := lOf_len m k; simp only [lOf, List.length_append]; cases m k <;> simp <;> omega
section
variable {n : Nd} {xs : List Int} {ys : List Pr} {w : World} {b : Nat}
theorem lkO_mOf (hcv : CV n xs ys) {k : Nat} (hk : k < 64) : lkO n xs ys b (k : Int) = mOf b xs k := by
  unfold lkO mOf
  have h1 : hasI b (k : Int) = b.testBit k := by rw [hasI_in b (by omega) (by omega), Int.toNat_natCast]
  have h2 : posN b (k : Int) = cnt b k := by unfold posN; rw [Int.toNat_natCast, Nat.min_eq_left (by omega)]
  rw [h1, h2]
  by_cases h : b.testBit k = true <;> simp [h, hcv]
theorem updR_ne {i k : Nat} {r : Int} (hcv : CV n xs ys) (hk : k < 64) (h : (k : Int) ≠ (i : Int)) : updR b xs i r k = lkO n xs ys b (k : Int) := by
  rw [lkO_mOf hcv hk]
  exact if_neg (by omega)
theorem updR_eq {i k : Nat} {r : Int} (h : (k : Int) = (i : Int)) : updR b xs i r k = if 0 < r then some r else none := if_pos (by omega)
theorem some_of {o : Option Int} (h : o.isSome = true) : o = some (o.getD 0) := by cases o <;> simp_all
theorem none_of {o : Option Int} (h : o.isSome = false) : o = none := by cases o <;> simp_all
set_option maxHeartbeats 800000 in
theorem build_c (i : Nat) (r : Int) (_hi : i < 64) (hcv : CV n xs ys) (hb : n.bm = (b : Int)) (hb2 : b < 18446744073709551616) (hr : Rep w n xs ys) :
    Calls Try.prog 122 #[n.v, .int .i64 (i : Int), .int .i64 r] w fun e w' => ∃ x : Option Addr × Nat, e = .returned (cn (bOf (updR b xs i r) 64) (lOf (updR b xs i r) 64) x).v ∧ (lOf (updR b xs i r) 64).length ≤ x.2 ∧ SF w [] [] [] [(x.1, refsC (lOf (updR b xs i r) 64))] [] w' := by
  have e1 := hr.brN
  refine enter Try.func122 Try.ntmps122 rfl rfl (SF.s2 hr.br hr.pr) ?_
  simp only [mkS]
  simp only [Nd.v, Nd.cells]
  all_goals (refine k_seq ?_)
  all_goals refine k_region ?_
  all_goals refine j_box (fun x3 => ?_)
  all_goals refine j_alloc (fun x6 => ?_)
  all_goals refine l_nil ?_
  all_goals (refine k_seq ?_)
  all_goals refine k_region ?_
  all_goals refine j_build ?_
  all_goals refine j_alloc (fun x7 => ?_)
  all_goals refine j_store (fun _ => ?_)
  all_goals refine l_nil ?_
  all_goals (refine k_seq ?_)
  all_goals (refine k_seq ?_)
  all_goals refine k_region ?_
  all_goals refine j_assignL (fun _ => ?_)
  all_goals refine l_nil ?_
  all_goals (refine k_block ?_)
  all_goals
    refine k_loopF [8, 9, 10, 12, 13, 14, 15, 16, 17, 18, 19, 20, 21, 22, 23, 24, 25, 26, 27, 28, 29, 30, 31, 32, 33, 34, 35, 36, 37, 38, 39] (fun y : Nat × Option Addr × Nat => [(8, .int .i64 ((y.1 : Nat) : Int))]) (fun y => y.1 ≤ 64 ∧ (lOf (updR b xs i r) y.1).length ≤ y.2.2) (fun y => [(x7, .cells ⟨[.int .i64 3, .int .i64 0, .int .i64 0, .int .u64 ((bOf (updR b xs i r) y.1 : Nat) : Int), .slice y.2.1 (lOf (updR b xs i r) y.1).length y.2.2, .int .u64 0, .string ⟨#[]⟩, .int .u64 0, .slice none 0 0, .int .i64 0, .int .i64 0, .int .i64 0, .int .i64 0, .int .i64 0]⟩ 28), (x6, .cells ⟨Nd.zero.cells⟩ 28), (x3, .cells ⟨n.cells⟩ 28)]) (fun _ => _) (fun y => [⟨y.2.1, refsC (lOf (updR b xs i r) y.1), y.2.2, 26, 1⟩]) (fun y => 64 - y.1) ((0, none, 0)) (by decide) (fun _ => by exact rfl) ?_ (⟨Nat.zero_le _, Nat.le_refl _⟩) (fun w hw => (hw.nilOwn 26 1).back) (fun y f hx => ?_)
    · repeat (first | exact knows_nil _ | refine knows_cons (by first | exact rfl | (conv => { lhs; whnf }; simp; done)) ?_)
    dsimp only [mkU, List.map, List.cons_append, List.nil_append]
    have hll := lOf_len (updR b xs i r) y.1
    all_goals (refine k_seq ?_)
    all_goals (refine k_seq ?_)
    all_goals refine k_region ?_
    all_goals refine j_move ?_
    all_goals refine j_lss ?_
    all_goals refine l_nil ?_
    all_goals
      refine k_cond (by exact rfl) (fun c13 => ?_) (fun c13 => ?_)
      · try (exact absurd c13 (by decide))
        all_goals (first | replace c13 := of_decide_eq_true c13 | replace c13 := sbeq_t c13 | replace c13 := sbne_t c13 | replace c13 := ibeq_t c13 | replace c13 := ibne_t c13 | replace c13 := ndec_t c13 | replace c13 := not_t c13 | skip)
        all_goals (refine k_skip ?_)
        all_goals (refine k_seq ?_)
        all_goals (refine k_block ?_)
        all_goals (refine k_seq ?_)
        all_goals refine k_region ?_
        all_goals refine j_load ?_
        all_goals refine j_move ?_
        all_goals (refine j_own (cV (hc := fun w1 hw => refLookup_c (n := n) (y.1 : Int) hb hb2 (hr.keep0 hw.done))) (fun x19 => ?_); try (refine l_fact (fun h19 => ?_)))
        all_goals refine j_move ?_
        all_goals refine l_quiet (o_extract (by exact rfl) rfl) rfl ?_
        all_goals refine l_quiet (o_extract (by exact rfl) rfl) rfl ?_
        all_goals refine j_assignL (fun _ => ?_)
        all_goals refine j_assignL (fun _ => ?_)
        all_goals refine l_nil ?_
        all_goals (refine k_seq ?_)
        all_goals (refine k_seq ?_)
        all_goals refine k_region ?_
        all_goals refine j_move ?_
        all_goals refine j_move ?_
        all_goals refine j_eql ?_
        all_goals refine l_nil ?_
        all_goals
          refine k_cond (by exact rfl) (fun c24 => ?_) (fun c24 => ?_)
          · try (exact absurd c24 (by decide))
            all_goals (first | replace c24 := of_decide_eq_true c24 | replace c24 := sbeq_t c24 | replace c24 := sbne_t c24 | replace c24 := ibeq_t c24 | replace c24 := ibne_t c24 | replace c24 := ndec_t c24 | replace c24 := not_t c24 | skip)
            all_goals refine k_region ?_
            all_goals refine j_move ?_
            all_goals refine j_move ?_
            all_goals refine j_gtr ?_
            all_goals refine j_assignL (fun _ => ?_)
            all_goals refine j_assignL (fun _ => ?_)
            all_goals refine l_nil ?_
            all_goals (refine k_seq ?_)
            all_goals refine k_region ?_
            all_goals refine j_move ?_
            all_goals refine l_nil ?_
            all_goals
              refine k_cond (by exact rfl) (fun c28 => ?_) (fun c28 => ?_)
              · try (exact absurd c28 (by decide))
                all_goals (first | replace c28 := of_decide_eq_true c28 | replace c28 := sbeq_t c28 | replace c28 := sbne_t c28 | replace c28 := ibeq_t c28 | replace c28 := ibne_t c28 | replace c28 := ndec_t c28 | replace c28 := not_t c28 | skip)
                all_goals
                  first
                    | have hm : updR b xs i r y.1 = some r := by rw [updR_eq c24, if_pos (by omega)]
                    | have hm : updR b xs i r y.1 = some ((lkO n xs ys b (y.1 : Int)).getD 0) := by rw [updR_ne hcv (by omega) c24]; exact some_of c28
                all_goals
                  refine k_joinG [29, 30, 31, 32, 33, 34, 35, 36, 37, 38, 39] (fun z : Nat × Option Addr × Nat => []) (fun z => (lOf (updR b xs i r) y.1).length + 1 ≤ z.2.2) (fun z => [(x7, .cells ⟨[.int .i64 3, .int .i64 0, .int .i64 0, .int .u64 ((bOf (updR b xs i r) (y.1 + 1) : Nat) : Int), .slice z.2.1 (lOf (updR b xs i r) (y.1 + 1)).length z.2.2, .int .u64 0, .string ⟨#[]⟩, .int .u64 0, .slice none 0 0, .int .i64 0, .int .i64 0, .int .i64 0, .int .i64 0, .int .i64 0]⟩ 28), (x6, .cells ⟨Nd.zero.cells⟩ 28), (x3, .cells ⟨n.cells⟩ 28)]) (fun z => []) (fun z => [⟨z.2.1, refsC (lOf (updR b xs i r) (y.1 + 1)), z.2.2, 26, 1⟩]) (by decide) (fun _ => by exact rfl) ?_ (fun z f hx => ?_)
                  · refine k_drawF (.one 0 [] (.one 1 [] (.one 2 [] (.one 4 [] (.one 5 [] (.one 6 [] (.two 3 [5] (.one 9 [] (.one 7 [1, 5] (.one 8 [1] (.one 10 [] (.one 11 [] (.one 12 [] .nil)))))) 0 [] (.two 7 [1, 5] (.one 3 [5] (.one 9 [] (.one 8 [1] (.one 10 [] (.one 11 [] (.one 12 [] .nil)))))) 0 [] .nil)))))))) ?_
                    all_goals (refine r_fieldAddr (i := 0) ?_)
                    all_goals (refine r_load (i := 1) ?_)
                    all_goals (refine r_move (i := 2) ?_)
                    all_goals (refine r_fieldAddr (i := 4) ?_)
                    all_goals (refine r_load (i := 5) ?_)
                    all_goals (refine r_move (i := 6) ?_)
                    all_goals
                      refine r_many (E := [3, 7]) (by decide +kernel) ((.cons ?_ (.cons ?_ .nil)))
                      · (refine s_own (i := 3) (hq := (cV (hc := fun w1 hw => refWith_c (bOf_lt64 (updR b xs i r) (k := y.1) (by omega)) (y.1 : Int) w1))) (hfire := (fun _ => by first | (refine FireAll.cons (by first | exact a_load | exact a_un) ?_; exact FireAll.nil) | (refine fireall_fact ?_; refine FireAll.cons (by first | exact a_load | exact a_un) ?_; exact FireAll.nil))) (h := fun x32 => ?_); try (refine r_fact (fun h32 => ?_)))
                        all_goals (refine r_fieldAddr (i := 9) ?_)
                        all_goals (refine r_buildSlice (i := 7) (hfire := (fun _ => by first | (refine FireAll.cons (by first | exact a_load | exact a_un) ?_; refine FireAll.cons (by first | exact a_load | exact a_un) ?_; exact FireAll.nil) | (refine fireall_fact ?_; refine FireAll.cons (by first | exact a_load | exact a_un) ?_; refine FireAll.cons (by first | exact a_load | exact a_un) ?_; exact FireAll.nil))) (h := fun x36 => ?_))
                        all_goals ((refine r_append (i := 8) (hfire := (fun _ => by first | (refine FireAll.cons (by first | exact a_load | exact a_un) ?_; exact FireAll.nil) | (refine fireall_fact ?_; refine FireAll.cons (by first | exact a_load | exact a_un) ?_; exact FireAll.nil))) (h := fun x37 => ?_); try (refine r_fact (fun h37 => ?_))))
                        all_goals (refine r_store (i := 10) (hfire := (fun _ => .nil)) (h := fun _ => ?_))
                        all_goals (refine r_fieldAddr (i := 11) ?_)
                        all_goals (refine r_store (i := 12) (hfire := (fun _ => .nil)) (h := fun _ => ?_))
                        all_goals refine r_fin ?_
                        all_goals
                          refine k_roundF ((0, x37)) (by decide) ?_ (by repeat (first | (with_reducible exact Pre.refl) | refine Pre.cons (by exact rfl) ?_)) ?_ (fun w hw => by obtain ⟨k1, k2⟩ := bOf_some hm (by omega); rw [k1, show (lOf (updR b xs i r) y.1).length + 1 = (lOf (updR b xs i r) (y.1 + 1)).length by rw [← k2]; simp, k2] at hw; exact hw.back)
                          · repeat' (first | exact knows_nil _ | refine knows_cons ?_ ?_)
                            all_goals (first | exact rfl | (conv => { lhs; whnf }; simp; done) | (conv => { lhs; whnf }; congr 1; omega))
                          · exact h37
                      · refine s_buildSlice (i := 7) (hfire := (fun _ => by first | (refine FireAll.cons (by first | exact a_load | exact a_un) ?_; refine FireAll.cons (by first | exact a_load | exact a_un) ?_; exact FireAll.nil) | (refine fireall_fact ?_; refine FireAll.cons (by first | exact a_load | exact a_un) ?_; refine FireAll.cons (by first | exact a_load | exact a_un) ?_; exact FireAll.nil))) (h := fun x36 => ?_)
                        all_goals ((refine r_own (i := 3) (hq := (cV (hc := fun w1 hw => refWith_c (bOf_lt64 (updR b xs i r) (k := y.1) (by omega)) (y.1 : Int) w1))) (hfire := (fun _ => by first | (refine FireAll.cons (by first | exact a_load | exact a_un) ?_; exact FireAll.nil) | (refine fireall_fact ?_; refine FireAll.cons (by first | exact a_load | exact a_un) ?_; exact FireAll.nil))) (h := fun x32 => ?_); try (refine r_fact (fun h32 => ?_))))
                        all_goals (refine r_fieldAddr (i := 9) ?_)
                        all_goals ((refine r_append (i := 8) (hfire := (fun _ => by first | (refine FireAll.cons (by first | exact a_load | exact a_un) ?_; exact FireAll.nil) | (refine fireall_fact ?_; refine FireAll.cons (by first | exact a_load | exact a_un) ?_; exact FireAll.nil))) (h := fun x37 => ?_); try (refine r_fact (fun h37 => ?_))))
                        all_goals (refine r_store (i := 10) (hfire := (fun _ => .nil)) (h := fun _ => ?_))
                        all_goals (refine r_fieldAddr (i := 11) ?_)
                        all_goals (refine r_store (i := 12) (hfire := (fun _ => .nil)) (h := fun _ => ?_))
                        all_goals refine r_fin ?_
                        all_goals
                          refine k_roundF ((0, x37)) (by decide) ?_ (by repeat (first | (with_reducible exact Pre.refl) | refine Pre.cons (by exact rfl) ?_)) ?_ (fun w hw => by obtain ⟨k1, k2⟩ := bOf_some hm (by omega); rw [k1, show (lOf (updR b xs i r) y.1).length + 1 = (lOf (updR b xs i r) (y.1 + 1)).length by rw [← k2]; simp, k2] at hw; exact hw.back)
                          · repeat' (first | exact knows_nil _ | refine knows_cons ?_ ?_)
                            all_goals (first | exact rfl | (conv => { lhs; whnf }; simp; done) | (conv => { lhs; whnf }; congr 1; omega))
                          · exact h37
                  dsimp only [mkU, List.map, List.cons_append, List.nil_append]
                all_goals (refine k_blk ?_)
                all_goals refine k_region ?_
                all_goals refine j_move ?_
                all_goals refine j_inc ?_
                all_goals refine j_assignL (fun _ => ?_)
                all_goals refine l_nil ?_
                all_goals
                  refine k_roundF ((by first | exact (y.1 + 1, z.2) | exact (y.1 + 1, y.2))) ?_ ?_ (by repeat (first | (with_reducible exact Pre.refl) | refine Pre.cons (by exact rfl) ?_)) ?_ (fun w hw => by first | (rw [(bOf_none hm).1, (bOf_none hm).2] at hw; exact hw.back) | exact hw.back)
                  · first | omega | (simp only []; omega)
                  · repeat' (first | exact knows_nil _ | refine knows_cons ?_ ?_)
                    all_goals (first | exact rfl | (conv => { lhs; whnf }; simp; done) | (conv => { lhs; whnf }; congr 1; omega))
                  · first
                      | exact ⟨by omega, by have k2 := (bOf_some hm (by omega)).2; simp only []; rw [← k2, List.length_append]; exact hx⟩
                      | exact ⟨by omega, by simp only []; rw [← (bOf_none hm).2]; exact hx.2⟩
              · try (exact absurd c28 (by decide))
                all_goals (first | replace c28 := of_decide_eq_false c28 | replace c28 := sbeq_f c28 | replace c28 := sbne_f c28 | replace c28 := ibeq_f c28 | replace c28 := ibne_f c28 | replace c28 := ndec_f c28 | replace c28 := not_f c28 | skip)
                all_goals
                  have hm : updR b xs i r y.1 = none := by
                    first
                      | (rw [updR_eq c24, if_neg (by omega)]; done)
                      | (rw [updR_ne hcv (by omega) c24]; exact none_of c28)
                all_goals (refine k_skip ?_)
                all_goals (refine k_blk ?_)
                all_goals refine k_region ?_
                all_goals refine j_move ?_
                all_goals refine j_inc ?_
                all_goals refine j_assignL (fun _ => ?_)
                all_goals refine l_nil ?_
                all_goals
                  refine k_roundF ((by first | exact (y.1 + 1, z.2) | exact (y.1 + 1, y.2))) ?_ ?_ (by repeat (first | (with_reducible exact Pre.refl) | refine Pre.cons (by exact rfl) ?_)) ?_ (fun w hw => by first | (rw [(bOf_none hm).1, (bOf_none hm).2] at hw; exact hw.back) | exact hw.back)
                  · first | omega | (simp only []; omega)
                  · repeat' (first | exact knows_nil _ | refine knows_cons ?_ ?_)
                    all_goals (first | exact rfl | (conv => { lhs; whnf }; simp; done) | (conv => { lhs; whnf }; congr 1; omega))
                  · first
                      | exact ⟨by omega, by have k2 := (bOf_some hm (by omega)).2; simp only []; rw [← k2, List.length_append]; exact hx⟩
                      | exact ⟨by omega, by simp only []; rw [← (bOf_none hm).2]; exact hx.2⟩
          · try (exact absurd c24 (by decide))
            all_goals (first | replace c24 := of_decide_eq_false c24 | replace c24 := sbeq_f c24 | replace c24 := sbne_f c24 | replace c24 := ibeq_f c24 | replace c24 := ibne_f c24 | replace c24 := ndec_f c24 | replace c24 := not_f c24 | skip)
            all_goals (refine k_skip ?_)
            all_goals (refine k_seq ?_)
            all_goals refine k_region ?_
            all_goals refine j_move ?_
            all_goals refine l_nil ?_
            all_goals
              refine k_cond (by exact rfl) (fun c28 => ?_) (fun c28 => ?_)
              · try (exact absurd c28 (by decide))
                all_goals (first | replace c28 := of_decide_eq_true c28 | replace c28 := sbeq_t c28 | replace c28 := sbne_t c28 | replace c28 := ibeq_t c28 | replace c28 := ibne_t c28 | replace c28 := ndec_t c28 | replace c28 := not_t c28 | skip)
                all_goals
                  first
                    | have hm : updR b xs i r y.1 = some r := by rw [updR_eq c24, if_pos (by omega)]
                    | have hm : updR b xs i r y.1 = some ((lkO n xs ys b (y.1 : Int)).getD 0) := by rw [updR_ne hcv (by omega) c24]; exact some_of c28
                all_goals
                  refine k_joinG [29, 30, 31, 32, 33, 34, 35, 36, 37, 38, 39] (fun z : Nat × Option Addr × Nat => []) (fun z => (lOf (updR b xs i r) y.1).length + 1 ≤ z.2.2) (fun z => [(x7, .cells ⟨[.int .i64 3, .int .i64 0, .int .i64 0, .int .u64 ((bOf (updR b xs i r) (y.1 + 1) : Nat) : Int), .slice z.2.1 (lOf (updR b xs i r) (y.1 + 1)).length z.2.2, .int .u64 0, .string ⟨#[]⟩, .int .u64 0, .slice none 0 0, .int .i64 0, .int .i64 0, .int .i64 0, .int .i64 0, .int .i64 0]⟩ 28), (x6, .cells ⟨Nd.zero.cells⟩ 28), (x3, .cells ⟨n.cells⟩ 28)]) (fun z => []) (fun z => [⟨z.2.1, refsC (lOf (updR b xs i r) (y.1 + 1)), z.2.2, 26, 1⟩]) (by decide) (fun _ => by exact rfl) ?_ (fun z f hx => ?_)
                  · refine k_drawF (.one 0 [] (.one 1 [] (.one 2 [] (.one 4 [] (.one 5 [] (.one 6 [] (.two 3 [5] (.one 9 [] (.one 7 [1, 5] (.one 8 [1] (.one 10 [] (.one 11 [] (.one 12 [] .nil)))))) 0 [] (.two 7 [1, 5] (.one 3 [5] (.one 9 [] (.one 8 [1] (.one 10 [] (.one 11 [] (.one 12 [] .nil)))))) 0 [] .nil)))))))) ?_
                    all_goals (refine r_fieldAddr (i := 0) ?_)
                    all_goals (refine r_load (i := 1) ?_)
                    all_goals (refine r_move (i := 2) ?_)
                    all_goals (refine r_fieldAddr (i := 4) ?_)
                    all_goals (refine r_load (i := 5) ?_)
                    all_goals (refine r_move (i := 6) ?_)
                    all_goals
                      refine r_many (E := [3, 7]) (by decide +kernel) ((.cons ?_ (.cons ?_ .nil)))
                      · (refine s_own (i := 3) (hq := (cV (hc := fun w1 hw => refWith_c (bOf_lt64 (updR b xs i r) (k := y.1) (by omega)) (y.1 : Int) w1))) (hfire := (fun _ => by first | (refine FireAll.cons (by first | exact a_load | exact a_un) ?_; exact FireAll.nil) | (refine fireall_fact ?_; refine FireAll.cons (by first | exact a_load | exact a_un) ?_; exact FireAll.nil))) (h := fun x32 => ?_); try (refine r_fact (fun h32 => ?_)))
                        all_goals (refine r_fieldAddr (i := 9) ?_)
                        all_goals (refine r_buildSlice (i := 7) (hfire := (fun _ => by first | (refine FireAll.cons (by first | exact a_load | exact a_un) ?_; refine FireAll.cons (by first | exact a_load | exact a_un) ?_; exact FireAll.nil) | (refine fireall_fact ?_; refine FireAll.cons (by first | exact a_load | exact a_un) ?_; refine FireAll.cons (by first | exact a_load | exact a_un) ?_; exact FireAll.nil))) (h := fun x36 => ?_))
                        all_goals ((refine r_append (i := 8) (hfire := (fun _ => by first | (refine FireAll.cons (by first | exact a_load | exact a_un) ?_; exact FireAll.nil) | (refine fireall_fact ?_; refine FireAll.cons (by first | exact a_load | exact a_un) ?_; exact FireAll.nil))) (h := fun x37 => ?_); try (refine r_fact (fun h37 => ?_))))
                        all_goals (refine r_store (i := 10) (hfire := (fun _ => .nil)) (h := fun _ => ?_))
                        all_goals (refine r_fieldAddr (i := 11) ?_)
                        all_goals (refine r_store (i := 12) (hfire := (fun _ => .nil)) (h := fun _ => ?_))
                        all_goals refine r_fin ?_
                        all_goals
                          refine k_roundF ((0, x37)) (by decide) ?_ (by repeat (first | (with_reducible exact Pre.refl) | refine Pre.cons (by exact rfl) ?_)) ?_ (fun w hw => by obtain ⟨k1, k2⟩ := bOf_some hm (by omega); rw [k1, show (lOf (updR b xs i r) y.1).length + 1 = (lOf (updR b xs i r) (y.1 + 1)).length by rw [← k2]; simp, k2] at hw; exact hw.back)
                          · repeat' (first | exact knows_nil _ | refine knows_cons ?_ ?_)
                            all_goals (first | exact rfl | (conv => { lhs; whnf }; simp; done) | (conv => { lhs; whnf }; congr 1; omega))
                          · exact h37
                      · refine s_buildSlice (i := 7) (hfire := (fun _ => by first | (refine FireAll.cons (by first | exact a_load | exact a_un) ?_; refine FireAll.cons (by first | exact a_load | exact a_un) ?_; exact FireAll.nil) | (refine fireall_fact ?_; refine FireAll.cons (by first | exact a_load | exact a_un) ?_; refine FireAll.cons (by first | exact a_load | exact a_un) ?_; exact FireAll.nil))) (h := fun x36 => ?_)
                        all_goals ((refine r_own (i := 3) (hq := (cV (hc := fun w1 hw => refWith_c (bOf_lt64 (updR b xs i r) (k := y.1) (by omega)) (y.1 : Int) w1))) (hfire := (fun _ => by first | (refine FireAll.cons (by first | exact a_load | exact a_un) ?_; exact FireAll.nil) | (refine fireall_fact ?_; refine FireAll.cons (by first | exact a_load | exact a_un) ?_; exact FireAll.nil))) (h := fun x32 => ?_); try (refine r_fact (fun h32 => ?_))))
                        all_goals (refine r_fieldAddr (i := 9) ?_)
                        all_goals ((refine r_append (i := 8) (hfire := (fun _ => by first | (refine FireAll.cons (by first | exact a_load | exact a_un) ?_; exact FireAll.nil) | (refine fireall_fact ?_; refine FireAll.cons (by first | exact a_load | exact a_un) ?_; exact FireAll.nil))) (h := fun x37 => ?_); try (refine r_fact (fun h37 => ?_))))
                        all_goals (refine r_store (i := 10) (hfire := (fun _ => .nil)) (h := fun _ => ?_))
                        all_goals (refine r_fieldAddr (i := 11) ?_)
                        all_goals (refine r_store (i := 12) (hfire := (fun _ => .nil)) (h := fun _ => ?_))
                        all_goals refine r_fin ?_
                        all_goals
                          refine k_roundF ((0, x37)) (by decide) ?_ (by repeat (first | (with_reducible exact Pre.refl) | refine Pre.cons (by exact rfl) ?_)) ?_ (fun w hw => by obtain ⟨k1, k2⟩ := bOf_some hm (by omega); rw [k1, show (lOf (updR b xs i r) y.1).length + 1 = (lOf (updR b xs i r) (y.1 + 1)).length by rw [← k2]; simp, k2] at hw; exact hw.back)
                          · repeat' (first | exact knows_nil _ | refine knows_cons ?_ ?_)
                            all_goals (first | exact rfl | (conv => { lhs; whnf }; simp; done) | (conv => { lhs; whnf }; congr 1; omega))
                          · exact h37
                  dsimp only [mkU, List.map, List.cons_append, List.nil_append]
                all_goals (refine k_blk ?_)
                all_goals refine k_region ?_
                all_goals refine j_move ?_
                all_goals refine j_inc ?_
                all_goals refine j_assignL (fun _ => ?_)
                all_goals refine l_nil ?_
                all_goals
                  refine k_roundF ((by first | exact (y.1 + 1, z.2) | exact (y.1 + 1, y.2))) ?_ ?_ (by repeat (first | (with_reducible exact Pre.refl) | refine Pre.cons (by exact rfl) ?_)) ?_ (fun w hw => by first | (rw [(bOf_none hm).1, (bOf_none hm).2] at hw; exact hw.back) | exact hw.back)
                  · first | omega | (simp only []; omega)
                  · repeat' (first | exact knows_nil _ | refine knows_cons ?_ ?_)
                    all_goals (first | exact rfl | (conv => { lhs; whnf }; simp; done) | (conv => { lhs; whnf }; congr 1; omega))
                  · first
                      | exact ⟨by omega, by have k2 := (bOf_some hm (by omega)).2; simp only []; rw [← k2, List.length_append]; exact hx⟩
                      | exact ⟨by omega, by simp only []; rw [← (bOf_none hm).2]; exact hx.2⟩
              · try (exact absurd c28 (by decide))
                all_goals (first | replace c28 := of_decide_eq_false c28 | replace c28 := sbeq_f c28 | replace c28 := sbne_f c28 | replace c28 := ibeq_f c28 | replace c28 := ibne_f c28 | replace c28 := ndec_f c28 | replace c28 := not_f c28 | skip)
                all_goals
                  have hm : updR b xs i r y.1 = none := by
                    first
                      | (rw [updR_eq c24, if_neg (by omega)]; done)
                      | (rw [updR_ne hcv (by omega) c24]; exact none_of c28)
                all_goals (refine k_skip ?_)
                all_goals (refine k_blk ?_)
                all_goals refine k_region ?_
                all_goals refine j_move ?_
                all_goals refine j_inc ?_
                all_goals refine j_assignL (fun _ => ?_)
                all_goals refine l_nil ?_
                all_goals
                  refine k_roundF ((by first | exact (y.1 + 1, z.2) | exact (y.1 + 1, y.2))) ?_ ?_ (by repeat (first | (with_reducible exact Pre.refl) | refine Pre.cons (by exact rfl) ?_)) ?_ (fun w hw => by first | (rw [(bOf_none hm).1, (bOf_none hm).2] at hw; exact hw.back) | exact hw.back)
                  · first | omega | (simp only []; omega)
                  · repeat' (first | exact knows_nil _ | refine knows_cons ?_ ?_)
                    all_goals (first | exact rfl | (conv => { lhs; whnf }; simp; done) | (conv => { lhs; whnf }; congr 1; omega))
                  · first
                      | exact ⟨by omega, by have k2 := (bOf_some hm (by omega)).2; simp only []; rw [← k2, List.length_append]; exact hx⟩
                      | exact ⟨by omega, by simp only []; rw [← (bOf_none hm).2]; exact hx.2⟩
      · try (exact absurd c13 (by decide))
        all_goals (first | replace c13 := of_decide_eq_false c13 | replace c13 := sbeq_f c13 | replace c13 := sbne_f c13 | replace c13 := ibeq_f c13 | replace c13 := ibne_f c13 | replace c13 := ndec_f c13 | replace c13 := not_f c13 | skip)
        all_goals (refine k_exit rfl ?_)
        all_goals (refine k_seq ?_)
        all_goals refine k_region ?_
        all_goals refine j_load ?_
        all_goals refine j_store (fun _ => ?_)
        all_goals refine l_nil ?_
        all_goals
          refine k_retvF Try.results122 (.cell (by exact rfl) (by repeat (first | exact At.head | apply At.tail)) (by exact agg_of rfl) .nil) (fun w hw => ?_)
          have hy : y.1 = 64 := by omega
          rw [hy] at hw hx ⊢
          generalize bOf (updR b xs i r) 64 = B at hw ⊢
          generalize lOf (updR b xs i r) 64 = L at hw hx ⊢
          exact ⟨y.2, rfl, hx.2, SF.frz hw.finH⟩
end
end Go.Proofs.Ythmagkjcangnfaa
