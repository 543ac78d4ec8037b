/- Nodes and lists of pairs out of tapes. -/
import Derived.Test.YthmagkjcangnfaaTape
import Derived.Test.YthmagkjcangnfaaBit2
set_option linter.unusedSimpArgs false
set_option linter.unusedVariables false
namespace Go.Ct
/-- A bit less. -/
theorem cnt_two {c e : Nat} (he : e < 2) (k : Nat) : cnt (2 * c + e) (k + 1) = e + cnt c k := by
  rw [show k + 1 = 1 + k by omega, cnt_add, Nat.shiftRight_eq_div_pow, show (2 * c + e) / 2 ^ 1 = c by omega]
  congr 1
  simp only [cnt, Nat.testBit_zero]
  have : (2 * c + e) % 2 = e := by omega
  rw [this]
  rcases (show e = 0 ∨ e = 1 by omega) with rfl | rfl <;> rfl
theorem tb_odd (c i : Nat) : (2 * c + 1).testBit (i + 1) = c.testBit i := by
  rw [show 2 * c + 1 = 2 ^ 1 * c + 1 by omega, Nat.testBit_two_pow_mul_add _ (by decide)]
  simp
theorem tb_even (c i : Nat) : (2 * c).testBit (i + 1) = c.testBit i := by
  have := Nat.testBit_two_pow_mul_add (i := 1) c (b := 0) (by decide) (i + 1)
  simpa using this
theorem tb_even0 (c : Nat) : (2 * c).testBit 0 = false := by simp
theorem and_pred_odd (c : Nat) : (2 * c + 1) &&& (2 * c) = 2 * c := by
  refine Nat.eq_of_testBit_eq fun i => ?_
  rw [Nat.testBit_and]
  cases i with
  | zero => rw [tb_even0]; simp
  | succ i => rw [tb_odd, tb_even]; simp
theorem and_pred_even {c : Nat} (hc : 0 < c) : (2 * c) &&& (2 * c - 1) = 2 * (c &&& (c - 1)) := by
  refine Nat.eq_of_testBit_eq fun i => ?_
  rw [Nat.testBit_and]
  cases i with
  | zero => rw [tb_even0, tb_even0]; simp
  | succ i => rw [tb_even, tb_even, show 2 * c - 1 = 2 * (c - 1) + 1 by omega, tb_odd, Nat.testBit_and]
theorem cnt_pred : ∀ (k b : Nat), 0 < b → b < 2 ^ k → cnt (b &&& (b - 1)) k + 1 = cnt b k
  | 0, b, h0, h1 => by simp at h1; omega
  | k + 1, b, h0, h1 => by
    rw [Nat.pow_succ] at h1
    rcases Nat.mod_two_eq_zero_or_one b with h | h
    · have e : b = 2 * (b / 2) := by omega
      have hc : 0 < b / 2 := by omega
      have ih := cnt_pred k (b / 2) hc (by omega)
      rw [e, and_pred_even hc]
      have a1 := cnt_two (c := b / 2 &&& (b / 2 - 1)) (e := 0) (by decide) k
      have a2 := cnt_two (c := b / 2) (e := 0) (by decide) k
      simp only [Nat.add_zero, Nat.zero_add] at a1 a2
      rw [a1, a2, ih]
    · have e : b = 2 * (b / 2) + 1 := by omega
      have a1 := cnt_two (c := b / 2) (e := 0) (by decide) k
      have a2 := cnt_two (c := b / 2) (e := 1) (by decide) k
      simp only [Nat.add_zero, Nat.zero_add] at a1
      rw [e, Nat.add_sub_cancel, and_pred_odd, a1, a2]
      omega
end Go.Ct
namespace Go.Proofs.Ythmagkjcangnfaa
open Go.RowKit Go.Ct

/-- A node out of a tape. -/
structure GenNode (refs : Int) (n : Nd) (xs : List Int) (ys : List Pr) : Prop where
  valid : NdValid n xs ys
  brN : n.brN = xs.length
  prN : n.prN = ys.length
  brC : n.brN ≤ n.brC
  prC : n.prN ≤ n.prC
  bm : ∃ b : Nat, n.bm = (b : Int) ∧ b < 18446744073709551616
  xs64 : xs.length ≤ 64
  ys2 : ys.length ≤ 2
  key : n.key.size ≤ 4
  cells : n.main = 0 ∧ n.prev = 0 ∧ n.status = 0
  gen : 0 ≤ n.gen ∧ n.gen ≤ 3
  kind : n.kind = 2 ∨ n.kind = 3 ∨ n.kind = 4 ∨ n.kind = 5 ∨ n.kind = 6 ∨ n.kind = 8
  refs : (∀ r ∈ xs, 1 ≤ r ∧ r ≤ refs) ∧ 0 ≤ n.old ∧ n.old ≤ refs ∧ 0 ≤ n.exp ∧ n.exp ≤ refs ∧ 0 ≤ n.new ∧ n.new ≤ refs
theorem pairs_c {l : List Int} {a : Option Addr} {b c k : Nat} {w : World} (most : Int) (ht : TpAt w b a l c k) (h0 : 0 ≤ most) (h1 : most ≤ 1073741824) :
    Calls Try.prog 62 #[.pointer (some ⟨b, 0, none⟩), .int .i64 most] w fun e w' =>
    ∃ x : Option Addr × List Pr × Nat × Nat, e = .returned (.slice x.1 x.2.1.length x.2.2.1) ∧ ((x.2.1.length : Int) ≤ most ∧ x.2.1.length ≤ x.2.2.1 ∧ ∀ p ∈ x.2.1, p.1.size ≤ 3) ∧ SF w [b] ((b, tpO a l c x.2.2.2) :: []) [] [(x.1, prC x.2.1)] [] w' := by
  refine enter Try.func62 Try.ntmps62 rfl rfl ht.start ?_
  simp only [mkS]
  all_goals (refine k_seq ?_)
  all_goals refine k_region ?_
  all_goals refine j_assignL (fun _ => ?_)
  all_goals refine l_nil ?_
  all_goals (refine k_seq ?_)
  all_goals refine k_region ?_
  all_goals refine j_assignL (fun _ => ?_)
  all_goals refine l_nil ?_
  all_goals (refine k_seq ?_)
  all_goals (refine k_seq ?_)
  all_goals refine k_region ?_
  all_goals refine j_move ?_
  all_goals refine j_move ?_
  all_goals refine j_inc ?_
  all_goals (refine j_own (cF1 (hc := fun w1 hw => next_c _ (hw.tape (by repeat (first | exact At.head | apply At.tail)) (by first | exact .new .head | exact .new (.tail .head) | exact .new (.tail (.tail .head)) | exact .new (.tail (.tail (.tail .head))) | exact .new (.tail (.tail (.tail (.tail .head)))) | exact .new (.tail (.tail (.tail (.tail (.tail .head))))) | exact .new (.tail (.tail (.tail (.tail (.tail (.tail .head)))))) | exact .new (.tail (.tail (.tail (.tail (.tail (.tail (.tail .head))))))) | exact .new (.tail (.tail (.tail (.tail (.tail (.tail (.tail (.tail .head)))))))) | exact .new (.tail (.tail (.tail (.tail (.tail (.tail (.tail (.tail (.tail .head))))))))) | exact .old .head | exact .old (.tail .head) | exact .old (.tail (.tail .head)) | exact .old (.tail (.tail (.tail .head))) | exact .old (.tail (.tail (.tail (.tail .head)))) | exact .old (.tail (.tail (.tail (.tail (.tail .head))))) | exact .own .head | exact .own (.tail .head) | exact .own (.tail (.tail .head)) | exact .own (.tail (.tail (.tail .head))) | exact .own (.tail (.tail (.tail (.tail .head)))) | exact .own (.tail (.tail (.tail (.tail (.tail .head))))) | exact .own (.tail (.tail (.tail (.tail (.tail (.tail .head)))))) | exact .own (.tail (.tail (.tail (.tail (.tail (.tail (.tail .head)))))))) ht.len) (by first | decide | omega) (by first | decide | omega))) (fun x10 => ?_); try (refine l_fact (fun h10 => ?_)))
  all_goals refine j_assignL (fun _ => ?_)
  all_goals refine l_nil ?_
  all_goals (refine k_block ?_)
  all_goals
    refine k_loopF [5, 6, 11, 12, 13, 14, 15, 16, 17, 18, 19, 20, 21, 22, 23] (fun x : Nat × Option Addr × List Pr × Nat × Nat => [(5, .slice x.2.1 x.2.2.1.length x.2.2.2.1), (6, .int .i64 ((x.1 : Nat) : Int))]) (fun x => (x.2.2.1.length + x.1 : Int) ≤ most ∧ x.2.2.1.length ≤ x.2.2.2.1 ∧ ∀ p ∈ x.2.2.1, p.1.size ≤ 3) (fun x => [(b, tpO a l c x.2.2.2.2)]) (fun x => []) (fun x => [⟨x.2.1, prC x.2.2.1, x.2.2.2.1, 37, 2⟩]) (fun x => x.1) ((x10, none, [], 0, tiN l k)) (by decide) (fun _ => by exact rfl) ?_ (⟨by simp only [List.length_nil]; omega, Nat.le_refl _, by simp⟩) (fun w hw => (hw.nilOwn 37 2).back) (fun x f hx => ?_)
    · repeat (first | exact knows_nil _ | refine knows_cons (by first | exact rfl | (conv => { lhs; whnf }; simp; done)) ?_)
    dsimp only [mkU, List.map, List.cons_append, List.nil_append]
    all_goals (refine k_seq ?_)
    all_goals (refine k_seq ?_)
    all_goals refine k_region ?_
    all_goals refine j_move ?_
    all_goals refine j_gtr ?_
    all_goals refine l_nil ?_
    all_goals
      refine k_cond (by exact rfl) (fun c12 => ?_) (fun c12 => ?_)
      · try (exact absurd c12 (by decide))
        all_goals (first | replace c12 := of_decide_eq_true c12 | replace c12 := sbeq_t c12 | replace c12 := sbne_t c12 | replace c12 := ibeq_t c12 | replace c12 := ibne_t c12 | replace c12 := ndec_t c12 | replace c12 := not_t c12 | skip)
        all_goals (refine k_skip ?_)
        all_goals (refine k_seq ?_)
        all_goals (refine k_block ?_)
        all_goals refine k_region ?_
        all_goals refine j_move ?_
        all_goals refine j_move ?_
        all_goals (refine j_own (cF1 (hc := fun w1 hw => key_c (hw.tape (by repeat (first | exact At.head | apply At.tail)) (by first | exact .new .head | exact .new (.tail .head) | exact .new (.tail (.tail .head)) | exact .new (.tail (.tail (.tail .head))) | exact .new (.tail (.tail (.tail (.tail .head)))) | exact .new (.tail (.tail (.tail (.tail (.tail .head))))) | exact .new (.tail (.tail (.tail (.tail (.tail (.tail .head)))))) | exact .new (.tail (.tail (.tail (.tail (.tail (.tail (.tail .head))))))) | exact .new (.tail (.tail (.tail (.tail (.tail (.tail (.tail (.tail .head)))))))) | exact .new (.tail (.tail (.tail (.tail (.tail (.tail (.tail (.tail (.tail .head))))))))) | exact .old .head | exact .old (.tail .head) | exact .old (.tail (.tail .head)) | exact .old (.tail (.tail (.tail .head))) | exact .old (.tail (.tail (.tail (.tail .head)))) | exact .old (.tail (.tail (.tail (.tail (.tail .head))))) | exact .own .head | exact .own (.tail .head) | exact .own (.tail (.tail .head)) | exact .own (.tail (.tail (.tail .head))) | exact .own (.tail (.tail (.tail (.tail .head)))) | exact .own (.tail (.tail (.tail (.tail (.tail .head))))) | exact .own (.tail (.tail (.tail (.tail (.tail (.tail .head)))))) | exact .own (.tail (.tail (.tail (.tail (.tail (.tail (.tail .head)))))))) ht.len))) (fun x17 => ?_); try (refine l_fact (fun h17 => ?_)))
        all_goals refine j_move ?_
        all_goals (refine j_own (cF1 (hc := fun w1 hw => next_c _ (hw.tape (by repeat (first | exact At.head | apply At.tail)) (by first | exact .new .head | exact .new (.tail .head) | exact .new (.tail (.tail .head)) | exact .new (.tail (.tail (.tail .head))) | exact .new (.tail (.tail (.tail (.tail .head)))) | exact .new (.tail (.tail (.tail (.tail (.tail .head))))) | exact .new (.tail (.tail (.tail (.tail (.tail (.tail .head)))))) | exact .new (.tail (.tail (.tail (.tail (.tail (.tail (.tail .head))))))) | exact .new (.tail (.tail (.tail (.tail (.tail (.tail (.tail (.tail .head)))))))) | exact .new (.tail (.tail (.tail (.tail (.tail (.tail (.tail (.tail (.tail .head))))))))) | exact .old .head | exact .old (.tail .head) | exact .old (.tail (.tail .head)) | exact .old (.tail (.tail (.tail .head))) | exact .old (.tail (.tail (.tail (.tail .head)))) | exact .old (.tail (.tail (.tail (.tail (.tail .head))))) | exact .own .head | exact .own (.tail .head) | exact .own (.tail (.tail .head)) | exact .own (.tail (.tail (.tail .head))) | exact .own (.tail (.tail (.tail (.tail .head)))) | exact .own (.tail (.tail (.tail (.tail (.tail .head))))) | exact .own (.tail (.tail (.tail (.tail (.tail (.tail .head)))))) | exact .own (.tail (.tail (.tail (.tail (.tail (.tail (.tail .head)))))))) ht.len) (by first | decide | omega) (by first | decide | omega))) (fun x19 => ?_); try (refine l_fact (fun h19 => ?_)))
        all_goals refine j_convert ?_
        all_goals refine j_build ?_
        all_goals refine j_buildSlice (fun x22 => ?_)
        all_goals (refine j_append (fun x23 => ?_); try (refine l_fact (fun h23 => ?_)))
        all_goals refine j_assignL (fun _ => ?_)
        all_goals refine l_nil ?_
        all_goals (refine k_blk ?_)
        all_goals refine k_region ?_
        all_goals refine j_move ?_
        all_goals refine j_dec ?_
        all_goals refine j_assignL (fun _ => ?_)
        all_goals refine l_nil ?_
        all_goals
          refine k_roundF ((x.1 - 1, x23.1, x.2.2.1 ++ [(keys8.getD x17 ⟨#[]⟩, (x19 : Int))], x23.2, tiN l (tiN l x.2.2.2.2))) ?_ ?_ (by repeat (first | (with_reducible exact Pre.refl) | refine Pre.cons (by exact rfl) ?_)) ?_ (fun w hw => hw.back)
          · first | omega | (simp only []; omega)
          · repeat' (first | exact knows_nil _ | refine knows_cons ?_ ?_)
            all_goals (first | exact rfl | (conv => { lhs; whnf }; simp; done) | (conv => { lhs; whnf }; congr 1; omega))
          · refine ⟨by simp only [List.length_append, List.length_cons, List.length_nil]; omega, by simp only [List.length_append, List.length_cons, List.length_nil]; omega, fun p hp => ?_⟩
            rcases List.mem_append.1 hp with hp | hp
            · exact hx.2.2 p hp
            · simp only [List.mem_singleton] at hp; subst hp; exact keys8_size x17
      · try (exact absurd c12 (by decide))
        all_goals (first | replace c12 := of_decide_eq_false c12 | replace c12 := sbeq_f c12 | replace c12 := sbne_f c12 | replace c12 := ibeq_f c12 | replace c12 := ibne_f c12 | replace c12 := ndec_f c12 | replace c12 := not_f c12 | skip)
        all_goals (refine k_exit rfl ?_)
        all_goals (refine k_seq ?_)
        all_goals refine k_region ?_
        all_goals refine j_move ?_
        all_goals refine j_assignL (fun _ => ?_)
        all_goals refine l_nil ?_
        all_goals
          refine k_retvF Try.results62 (.tmp (by conv => { lhs; whnf }) .nil) (fun w hw => ?_)
          exact ⟨(x.2.1, x.2.2.1, x.2.2.2.1, x.2.2.2.2), rfl, ⟨by show (x.2.2.1.length : Int) ≤ most; omega, hx.2.1, hx.2.2⟩, (hw.freeze .head (by simp)).finH⟩
end Go.Proofs.Ythmagkjcangnfaa
