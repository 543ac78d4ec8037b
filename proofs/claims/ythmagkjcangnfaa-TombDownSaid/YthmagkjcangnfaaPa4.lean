/- Pairs: the reference's Find, Put, Drop, Of, Equal. -/
import Derived.Test.YthmagkjcangnfaaPa3
set_option linter.unusedSimpArgs false
set_option linter.unusedVariables false
namespace Go.Proofs.Ythmagkjcangnfaa
open Go.RowKit Go.Ct
section
variable {l : List Pr} {a : Option Addr} {c : Nat} {k : ByteArray} {v : Int} {w : World}
theorem fnd_at {l : List Pr} {k : ByteArray} : ∀ {i : Nat}, i < l.length → (∀ j, j < i → (l.getD j (⟨#[]⟩, 0)).1 ≠ k) → (l.getD i (⟨#[]⟩, 0)).1 = k → fnd l k = some (l.getD i (⟨#[]⟩, 0)).2 := by
  induction l with
  | nil => intro i h; simp at h
  | cons p l ih =>
    intro i h hn he
    cases i with
    | zero => exact if_pos he
    | succ i =>
      refine (if_neg (hn 0 (by omega))).trans ?_
      exact ih (by simp at h; omega) (fun j hj => hn (j + 1) (by omega)) he
theorem fnd_all {l : List Pr} {k : ByteArray} (h : ∀ j, j < l.length → (l.getD j (⟨#[]⟩, 0)).1 ≠ k) : fnd l k = none := fnd_none fun p hp => by
  obtain ⟨j, hj, rfl⟩ := List.getElem_of_mem hp
  have := h j hj
  rwa [getD_get hj] at this
theorem refFind_c (k : ByteArray) (ha : Cl w a (prC l)) (hlen : l.length ≤ 1099511627775) :
    Calls Try.prog 73 #[.slice a l.length c, .string k] w fun e w' => e = .returned (.tuple #[.int .u64 ((findO l k).getD 0), .bool (findO l k).isSome]) ∧ St w [] [] w' := by
  refine enter Try.func73 Try.ntmps73 rfl rfl (SF.s1 ha) ?_
  simp only [mkS]
  all_goals (refine k_seq ?_)
  all_goals refine k_region ?_
  all_goals refine j_assignL (fun _ => ?_)
  all_goals refine j_assignL (fun _ => ?_)
  all_goals refine l_nil ?_
  all_goals (refine k_seq ?_)
  all_goals (refine k_seq ?_)
  all_goals refine k_region ?_
  all_goals refine j_assignL (fun _ => ?_)
  all_goals refine l_nil ?_
  all_goals (refine k_block ?_)
  all_goals
    refine k_loopC [4, 5, 6, 7, 8, 9, 10, 11, 12, 13, 14, 15, 16, 17, 18, 19, 20, 21, 22, 23, 24, 25, 26, 27, 28] (fun k => [(6, .int .i64 ((k : Nat) : Int))]) (fun i => i ≤ l.length ∧ (i ≠ 0 → SA l) ∧ ∀ j, j < i → (l.getD j (⟨#[]⟩, 0)).1 ≠ k) (fun k => l.length - k) (0) (⟨Nat.zero_le _, fun h => absurd rfl h, fun j hj => absurd hj (Nat.not_lt_zero j)⟩) ?_ (fun i f hx => ?_)
    · repeat (first | exact knows_nil _ | refine knows_cons (by first | exact rfl | (conv => { lhs; whnf }; simp; done)) ?_)
    dsimp only [mkU, List.map, List.cons_append, List.nil_append]
    all_goals (refine k_seq ?_)
    all_goals (refine k_seq ?_)
    all_goals refine k_region ?_
    all_goals refine j_move ?_
    all_goals refine j_move ?_
    all_goals refine j_len ?_
    all_goals refine j_lss ?_
    all_goals refine j_move ?_
    all_goals (first | refine j_un ?_ | (refine j_yes ?_; refine j_move ?_) | (refine l_case (g := 11) (by exact rfl) (fun g11 => ?_) (fun g11 => ?_) <;> (first | replace g11 := of_decide_eq_true g11 | replace g11 := of_decide_eq_false g11 | skip) <;> (first | refine j_un ?_ | (refine j_yes ?_; refine j_move ?_))))
    all_goals (first | refine j_un ?_ | (refine j_yes ?_; (refine j_own (c0 (V := .bool) (hc := fun w1 hw => refPrValid_c (hw.cl (by first | exact .new .head | exact .new (.tail .head) | exact .new (.tail (.tail .head)) | exact .new (.tail (.tail (.tail .head))) | exact .new (.tail (.tail (.tail (.tail .head)))) | exact .new (.tail (.tail (.tail (.tail (.tail .head))))) | exact .new (.tail (.tail (.tail (.tail (.tail (.tail .head)))))) | exact .new (.tail (.tail (.tail (.tail (.tail (.tail (.tail .head))))))) | exact .new (.tail (.tail (.tail (.tail (.tail (.tail (.tail (.tail .head)))))))) | exact .new (.tail (.tail (.tail (.tail (.tail (.tail (.tail (.tail (.tail .head))))))))) | exact .old .head | exact .old (.tail .head) | exact .old (.tail (.tail .head)) | exact .old (.tail (.tail (.tail .head))) | exact .old (.tail (.tail (.tail (.tail .head)))) | exact .old (.tail (.tail (.tail (.tail (.tail .head))))) | exact .own .head | exact .own (.tail .head) | exact .own (.tail (.tail .head)) | exact .own (.tail (.tail (.tail .head))) | exact .own (.tail (.tail (.tail (.tail .head)))) | exact .own (.tail (.tail (.tail (.tail (.tail .head))))) | exact .own (.tail (.tail (.tail (.tail (.tail (.tail .head)))))) | exact .own (.tail (.tail (.tail (.tail (.tail (.tail (.tail .head))))))))) (by omega))) (fun x13 => ?_); try (refine l_fact (fun h13 => ?_)))) | (refine l_case (g := 11) (by exact rfl) (fun g11 => ?_) (fun g11 => ?_) <;> (first | replace g11 := of_decide_eq_true g11 | replace g11 := of_decide_eq_false g11 | skip) <;> (first | refine j_un ?_ | (refine j_yes ?_; (refine j_own (c0 (V := .bool) (hc := fun w1 hw => refPrValid_c (hw.cl (by first | exact .new .head | exact .new (.tail .head) | exact .new (.tail (.tail .head)) | exact .new (.tail (.tail (.tail .head))) | exact .new (.tail (.tail (.tail (.tail .head)))) | exact .new (.tail (.tail (.tail (.tail (.tail .head))))) | exact .new (.tail (.tail (.tail (.tail (.tail (.tail .head)))))) | exact .new (.tail (.tail (.tail (.tail (.tail (.tail (.tail .head))))))) | exact .new (.tail (.tail (.tail (.tail (.tail (.tail (.tail (.tail .head)))))))) | exact .new (.tail (.tail (.tail (.tail (.tail (.tail (.tail (.tail (.tail .head))))))))) | exact .old .head | exact .old (.tail .head) | exact .old (.tail (.tail .head)) | exact .old (.tail (.tail (.tail .head))) | exact .old (.tail (.tail (.tail (.tail .head)))) | exact .old (.tail (.tail (.tail (.tail (.tail .head))))) | exact .own .head | exact .own (.tail .head) | exact .own (.tail (.tail .head)) | exact .own (.tail (.tail (.tail .head))) | exact .own (.tail (.tail (.tail (.tail .head)))) | exact .own (.tail (.tail (.tail (.tail (.tail .head))))) | exact .own (.tail (.tail (.tail (.tail (.tail (.tail .head)))))) | exact .own (.tail (.tail (.tail (.tail (.tail (.tail (.tail .head))))))))) (by omega))) (fun x13 => ?_); try (refine l_fact (fun h13 => ?_)))))))
    all_goals refine j_pick ?_
    all_goals refine l_nil ?_
    all_goals
      refine k_cond (by exact rfl) (fun c14 => ?_) (fun c14 => ?_)
      · try (exact absurd c14 (by decide))
        all_goals (first | replace c14 := of_decide_eq_true c14 | replace c14 := sbeq_t c14 | replace c14 := sbne_t c14 | replace c14 := ibeq_t c14 | replace c14 := ibne_t c14 | replace c14 := ndec_t c14 | replace c14 := not_t c14 | skip)
        all_goals (refine k_skip ?_)
        all_goals (refine k_seq ?_)
        all_goals (refine k_block ?_)
        all_goals (refine k_seq ?_)
        all_goals refine k_region ?_
        all_goals refine j_move ?_
        all_goals refine j_move ?_
        all_goals refine j_indexAddr ?_
        all_goals refine j_fieldAddr ?_
        all_goals refine j_load ?_
        all_goals refine j_move ?_
        all_goals refine j_seq ?_
        all_goals refine l_nil ?_
        all_goals
          refine k_cond (by exact rfl) (fun c23 => ?_) (fun c23 => ?_)
          · try (exact absurd c23 (by decide))
            all_goals (first | replace c23 := of_decide_eq_true c23 | replace c23 := sbeq_t c23 | replace c23 := sbne_t c23 | replace c23 := ibeq_t c23 | replace c23 := ibne_t c23 | replace c23 := ndec_t c23 | replace c23 := not_t c23 | skip)
            all_goals (refine k_seq ?_)
            all_goals refine k_region ?_
            all_goals refine j_move ?_
            all_goals refine j_move ?_
            all_goals refine j_indexAddr ?_
            all_goals refine j_fieldAddr ?_
            all_goals refine j_load ?_
            all_goals refine j_assignL (fun _ => ?_)
            all_goals refine j_assignL (fun _ => ?_)
            all_goals refine l_nil ?_
            all_goals
              refine k_retvF Try.results73 (.tmp (by conv => { lhs; whnf }) (.tmp (by conv => { lhs; whnf }) .nil)) (fun w hw => ?_)
              rw [show findO l k = some (l.getD i (⟨#[]⟩, 0)).2 from (if_pos (asc_sa.1 (h13.1 (by simp_all)))).trans (fnd_at (by omega) hx.2.2 c23)]; exact ⟨rfl, hw.done⟩
          · try (exact absurd c23 (by decide))
            all_goals (first | replace c23 := of_decide_eq_false c23 | replace c23 := sbeq_f c23 | replace c23 := sbne_f c23 | replace c23 := ibeq_f c23 | replace c23 := ibne_f c23 | replace c23 := ndec_f c23 | replace c23 := not_f c23 | skip)
            all_goals (refine k_skip ?_)
            all_goals (refine k_blk ?_)
            all_goals refine k_region ?_
            all_goals refine j_move ?_
            all_goals refine j_inc ?_
            all_goals refine j_assignL (fun _ => ?_)
            all_goals refine l_nil ?_
            all_goals
              refine k_roundC (i + 1) ?_ ?_ ?_
              · first | omega | (simp only []; omega)
              · repeat' (first | exact knows_nil _ | refine knows_cons ?_ ?_)
                all_goals (first | exact rfl | (conv => { lhs; whnf }; simp; done) | (conv => { lhs; whnf }; congr 1; omega))
              · exact ⟨by omega, fun _ => asc_sa.1 (h13.1 (by simp_all)), fun j hj => by rcases Nat.lt_succ_iff_lt_or_eq.1 hj with h | rfl; exact hx.2.2 j h; assumption⟩
      · try (exact absurd c14 (by decide))
        all_goals (first | replace c14 := of_decide_eq_false c14 | replace c14 := sbeq_f c14 | replace c14 := sbne_f c14 | replace c14 := ibeq_f c14 | replace c14 := ibne_f c14 | replace c14 := ndec_f c14 | replace c14 := not_f c14 | skip)
        all_goals (refine k_exit rfl ?_)
        all_goals (refine k_seq ?_)
        all_goals refine k_region ?_
        all_goals refine j_assignL (fun _ => ?_)
        all_goals refine j_assignL (fun _ => ?_)
        all_goals refine l_nil ?_
        all_goals
          refine k_retvF Try.results73 (.tmp (by conv => { lhs; whnf }) (.tmp (by conv => { lhs; whnf }) .nil)) (fun w hw => ?_)
          first
          | (rw [show findO l k = none from if_neg fun hs => by have := h13.2 (asc_sa.2 hs); simp_all]; exact ⟨rfl, hw.done⟩)
          | (rw [show findO l k = none by unfold findO; split; exact fnd_all fun j hj => hx.2.2 j (by omega); rfl]; exact ⟨rfl, hw.done⟩)
theorem without_step {l : List Pr} {i : Nat} (hi : i < l.length) (k : ByteArray) : (l.take (i + 1)).filter (fun p => decide (p.1 ≠ k)) = (l.take i).filter (fun p => decide (p.1 ≠ k)) ++ (if (l.getD i (⟨#[]⟩, 0)).1 ≠ k then [l.getD i (⟨#[]⟩, 0)] else []) := by
  rw [List.take_add_one, List.getElem?_eq_getElem hi, getD_get hi, List.filter_append]
  congr 1
  by_cases h : l[i].1 = k <;> simp [h]
theorem dropL_take {l : List Pr} {i : Nat} (hi : i < l.length) (k : ByteArray) : dropL (l.take (i + 1)) k = if (l.getD i (⟨#[]⟩, 0)).1 = k then dropL (l.take i) k else dropL (l.take i) k ++ [l.getD i (⟨#[]⟩, 0)] := by
  unfold dropL
  rw [without_step hi k]
  by_cases h : (l.getD i (⟨#[]⟩, 0)).1 = k
  · rw [if_neg fun hn => hn h, if_pos h, List.append_nil]
  · rw [if_pos h, if_neg h]
theorem prWithout_c (k : ByteArray) (ha : Cl w a (prC l)) (hlen : l.length ≤ 1000000000) :
    Calls Try.prog 109 #[.slice a l.length c, .string k] w (POwn w (dropL l k)) := by
  refine enter Try.func109 Try.ntmps109 rfl rfl (SF.s1 ha) ?_
  simp only [mkS]
  all_goals (refine k_seq ?_)
  all_goals refine k_region ?_
  all_goals refine j_assignL (fun _ => ?_)
  all_goals refine l_nil ?_
  all_goals (refine k_seq ?_)
  all_goals refine k_region ?_
  all_goals refine j_assignL (fun _ => ?_)
  all_goals refine l_nil ?_
  all_goals (refine k_seq ?_)
  all_goals (refine k_seq ?_)
  all_goals refine k_region ?_
  all_goals refine j_assignL (fun _ => ?_)
  all_goals refine l_nil ?_
  all_goals (refine k_block ?_)
  all_goals
    refine k_loopF [5, 6, 7, 8, 9, 10, 11, 12, 13, 14, 15, 16, 17, 18, 19, 20, 21, 22, 23, 24, 25, 26] (fun z : Nat × Option Addr × List Pr × Nat => [(6, .int .i64 ((z.1 : Nat) : Int)), (5, .slice z.2.1 z.2.2.1.length z.2.2.2)]) (fun z => z.1 ≤ l.length ∧ z.2.2.1.length ≤ z.2.2.2 ∧ z.2.2.1 = dropL (l.take z.1) k ∧ z.2.2.1.length ≤ z.1) (fun _ => _) (fun _ => _) (fun z => [⟨z.2.1, prC z.2.2.1, z.2.2.2, 37, 2⟩]) (fun z => l.length - z.1) ((0, none, [], 0)) (by decide) (fun _ => by exact rfl) ?_ (⟨Nat.zero_le _, Nat.le_refl _, rfl, Nat.le_refl _⟩) (fun w hw => (hw.nilOwn 37 2).back) (fun z f hx => ?_)
    · repeat (first | exact knows_nil _ | refine knows_cons (by first | exact rfl | (conv => { lhs; whnf }; simp; done)) ?_)
    dsimp only [mkU, List.map, List.cons_append, List.nil_append]
    all_goals (refine k_seq ?_)
    all_goals (refine k_seq ?_)
    all_goals refine k_region ?_
    all_goals refine j_move ?_
    all_goals refine j_move ?_
    all_goals refine j_len ?_
    all_goals refine j_lss ?_
    all_goals refine l_nil ?_
    all_goals
      refine k_cond (by exact rfl) (fun c10 => ?_) (fun c10 => ?_)
      · try (exact absurd c10 (by decide))
        all_goals (first | replace c10 := of_decide_eq_true c10 | replace c10 := sbeq_t c10 | replace c10 := sbne_t c10 | replace c10 := ibeq_t c10 | replace c10 := ibne_t c10 | replace c10 := ndec_t c10 | replace c10 := not_t c10 | skip)
        all_goals (refine k_skip ?_)
        all_goals (refine k_seq ?_)
        all_goals (refine k_block ?_)
        all_goals (refine k_seq ?_)
        all_goals refine k_region ?_
        all_goals refine j_move ?_
        all_goals refine j_move ?_
        all_goals refine j_indexAddr ?_
        all_goals refine j_fieldAddr ?_
        all_goals refine j_load ?_
        all_goals refine j_move ?_
        all_goals refine j_sne ?_
        all_goals refine l_nil ?_
        all_goals
          refine k_cond (by exact rfl) (fun c19 => ?_) (fun c19 => ?_)
          · try (exact absurd c19 (by decide))
            all_goals (first | replace c19 := of_decide_eq_true c19 | replace c19 := sbeq_t c19 | replace c19 := sbne_t c19 | replace c19 := ibeq_t c19 | replace c19 := ibne_t c19 | replace c19 := ndec_t c19 | replace c19 := not_t c19 | skip)
            all_goals refine k_region ?_
            all_goals refine j_move ?_
            all_goals refine j_move ?_
            all_goals refine j_move ?_
            all_goals refine j_indexAddr ?_
            all_goals refine j_load ?_
            all_goals refine j_buildSlice (fun x25 => ?_)
            all_goals (refine j_append (fun x26 => ?_); try (refine l_fact (fun h26 => ?_)))
            all_goals refine j_assignL (fun _ => ?_)
            all_goals refine l_nil ?_
            all_goals (refine k_blk ?_)
            all_goals refine k_region ?_
            all_goals refine j_move ?_
            all_goals refine j_inc ?_
            all_goals refine j_assignL (fun _ => ?_)
            all_goals refine l_nil ?_
            all_goals
              refine k_roundF ((by first | exact (z.1 + 1, x26.1, z.2.2.1 ++ [l.getD z.1 (⟨#[]⟩, 0)], x26.2) | exact (z.1 + 1, z.2.1, z.2.2.1, z.2.2.2))) ?_ ?_ (by repeat (first | (with_reducible exact Pre.refl) | refine Pre.cons (by exact rfl) ?_)) ?_ (fun w hw => by first | exact hw.back (hO := by exact List.Sublist.refl _) | (rw [show z.2.2.1.length + 1 = (z.2.2.1 ++ [l.getD z.1 (⟨#[]⟩, 0)]).length by simp] at hw; exact hw.back (hO := by exact List.Sublist.refl _)))
              · first | omega | (simp only []; omega)
              · repeat' (first | exact knows_nil _ | refine knows_cons ?_ ?_)
                all_goals (first | exact rfl | (conv => { lhs; whnf }; simp; done) | (conv => { lhs; whnf }; congr 1; omega))
              · obtain ⟨q1, q2, q3, q4⟩ := hx
                have hdt := dropL_take (l := l) (i := z.1) (by omega) k
                first
                | exact ⟨by show z.1 + 1 ≤ l.length; omega, by simp only [List.length_append, List.length_cons, List.length_nil]; omega, by rw [if_neg (by assumption), ← q3] at hdt; exact hdt.symm, by simp only [List.length_append, List.length_cons, List.length_nil]; omega⟩
                | exact ⟨by show z.1 + 1 ≤ l.length; omega, q2, by rw [if_pos (by assumption), ← q3] at hdt; exact hdt.symm, by show z.2.2.1.length ≤ z.1 + 1; omega⟩
          · try (exact absurd c19 (by decide))
            all_goals (first | replace c19 := of_decide_eq_false c19 | replace c19 := sbeq_f c19 | replace c19 := sbne_f c19 | replace c19 := ibeq_f c19 | replace c19 := ibne_f c19 | replace c19 := ndec_f c19 | replace c19 := not_f c19 | skip)
            all_goals (refine k_skip ?_)
            all_goals (refine k_blk ?_)
            all_goals refine k_region ?_
            all_goals refine j_move ?_
            all_goals refine j_inc ?_
            all_goals refine j_assignL (fun _ => ?_)
            all_goals refine l_nil ?_
            all_goals
              refine k_roundF ((by first | exact (z.1 + 1, x26.1, z.2.2.1 ++ [l.getD z.1 (⟨#[]⟩, 0)], x26.2) | exact (z.1 + 1, z.2.1, z.2.2.1, z.2.2.2))) ?_ ?_ (by repeat (first | (with_reducible exact Pre.refl) | refine Pre.cons (by exact rfl) ?_)) ?_ (fun w hw => by first | exact hw.back (hO := by exact List.Sublist.refl _) | (rw [show z.2.2.1.length + 1 = (z.2.2.1 ++ [l.getD z.1 (⟨#[]⟩, 0)]).length by simp] at hw; exact hw.back (hO := by exact List.Sublist.refl _)))
              · first | omega | (simp only []; omega)
              · repeat' (first | exact knows_nil _ | refine knows_cons ?_ ?_)
                all_goals (first | exact rfl | (conv => { lhs; whnf }; simp; done) | (conv => { lhs; whnf }; congr 1; omega))
              · obtain ⟨q1, q2, q3, q4⟩ := hx
                have hdt := dropL_take (l := l) (i := z.1) (by omega) k
                first
                | exact ⟨by show z.1 + 1 ≤ l.length; omega, by simp only [List.length_append, List.length_cons, List.length_nil]; omega, by rw [if_neg (by assumption), ← q3] at hdt; exact hdt.symm, by simp only [List.length_append, List.length_cons, List.length_nil]; omega⟩
                | exact ⟨by show z.1 + 1 ≤ l.length; omega, q2, by rw [if_pos (by assumption), ← q3] at hdt; exact hdt.symm, by show z.2.2.1.length ≤ z.1 + 1; omega⟩
      · try (exact absurd c10 (by decide))
        all_goals (first | replace c10 := of_decide_eq_false c10 | replace c10 := sbeq_f c10 | replace c10 := sbne_f c10 | replace c10 := ibeq_f c10 | replace c10 := ibne_f c10 | replace c10 := ndec_f c10 | replace c10 := not_f c10 | skip)
        all_goals (refine k_exit rfl ?_)
        all_goals (refine k_seq ?_)
        all_goals refine k_region ?_
        all_goals refine j_move ?_
        all_goals refine j_assignL (fun _ => ?_)
        all_goals refine l_nil ?_
        all_goals
          refine k_retvF Try.results109 (.tmp (by conv => { lhs; whnf }) .nil) (fun w hw => ?_)
          obtain ⟨q1, q2, q3, q4⟩ := hx
          have e : z.2.2.1 = dropL l k := by rw [q3, List.take_of_length_le (by omega)]
          rw [← e]
          exact ⟨(z.2.1, z.2.2.2), rfl, q2, hw.finH⟩
theorem take_snoc {l : List Pr} {i : Nat} (hi : i < l.length) : l.take (i + 1) = l.take i ++ [l.getD i (⟨#[]⟩, 0)] := by
  rw [List.take_add_one, List.getElem?_eq_getElem hi, getD_get hi]; rfl
theorem prWith_c (p : Pr) (ha : Cl w a (prC l)) (hc : l.length ≤ c) (hs : SA l) (hn : ∀ q ∈ l, q.1 ≠ p.1) (hlen : l.length ≤ 1000000000) :
    Calls Try.prog 108 #[.slice a l.length c, .agg ⟨[.string p.1, .int .u64 p.2]⟩] w (POwn w (putL l p.1 p.2)) := by
  refine enter Try.func108 Try.ntmps108 rfl rfl (SF.s1 ha) ?_
  simp only [mkS]
  all_goals (refine k_seq ?_)
  all_goals refine k_region ?_
  all_goals refine j_box (fun x3 => ?_)
  all_goals refine j_assignL (fun _ => ?_)
  all_goals refine l_nil ?_
  all_goals (refine k_seq ?_)
  all_goals refine k_region ?_
  all_goals refine j_assignL (fun _ => ?_)
  all_goals refine l_nil ?_
  all_goals (refine k_seq ?_)
  all_goals (refine k_seq ?_)
  all_goals refine k_region ?_
  all_goals refine j_assignL (fun _ => ?_)
  all_goals refine l_nil ?_
  all_goals (refine k_block ?_)
  all_goals
    refine k_loopF [5, 6, 8, 9, 10, 11, 12, 13, 14, 15, 16, 17, 18, 19, 20, 21, 22, 23, 24, 25, 26, 27, 28, 29, 30] (fun z : Nat × Option Addr × List Pr × Nat => [(6, .int .i64 ((z.1 : Nat) : Int)), (5, .slice z.2.1 z.2.2.1.length z.2.2.2)]) (fun z => z.1 ≤ l.length ∧ z.2.2.1.length ≤ z.2.2.2 ∧ z.2.2.1 = l.take z.1 ∧ z.2.2.1.length = z.1 ∧ ∀ j, j < z.1 → sless (l.getD j (⟨#[]⟩, 0)).1 p.1 = true) (fun z => [(x3, .cells ⟨[.string p.1, .int .u64 p.2]⟩ 37 (0, 0))]) (fun _ => _) (fun z => [⟨z.2.1, prC z.2.2.1, z.2.2.2, 37, 2⟩]) (fun z => l.length - z.1) ((0, none, [], 0)) (by decide) (fun _ => by exact rfl) ?_ (⟨Nat.zero_le _, Nat.le_refl _, rfl, rfl, fun j hj => absurd hj (Nat.not_lt_zero j)⟩) (fun w hw => (hw.nilOwn 37 2).back) (fun z f hx => ?_)
    · repeat (first | exact knows_nil _ | refine knows_cons (by first | exact rfl | (conv => { lhs; whnf }; simp; done)) ?_)
    dsimp only [mkU, List.map, List.cons_append, List.nil_append]
    all_goals (refine k_seq ?_)
    all_goals (refine k_seq ?_)
    all_goals refine k_drawF (.one 0 [] (.one 1 [] (.one 2 [] (.one 3 [] (.one 4 [] (.one 5 [] (.one 6 [] (.one 7 [] (.one 8 [] (.one 9 [] (.one 10 [] (.one 11 [] (.one 12 [] (.one 13 [] .nil)))))))))))))) ?_
    all_goals (refine r_move (i := 0) ?_)
    all_goals (refine r_move (i := 1) ?_)
    all_goals (refine r_len (i := 2) ?_)
    all_goals (refine r_lss (i := 3) ?_)
    all_goals (refine r_move (i := 4) ?_)
    all_goals (first | refine r_un (i := 5) ?_ | (refine r_move (i := 5) ?_) | (refine r_case (g := 12) (by exact rfl) (fun g12 => ?_) (fun g12 => ?_) <;> (first | replace g12 := of_decide_eq_true g12 | replace g12 := of_decide_eq_false g12 | skip) <;> (first | refine r_un (i := 5) ?_ | (refine r_move (i := 5) ?_))))
    all_goals (first | refine r_un (i := 6) ?_ | (refine r_move (i := 6) ?_) | (refine r_case (g := 12) (by exact rfl) (fun g12 => ?_) (fun g12 => ?_) <;> (first | replace g12 := of_decide_eq_true g12 | replace g12 := of_decide_eq_false g12 | skip) <;> (first | refine r_un (i := 6) ?_ | (refine r_move (i := 6) ?_))))
    all_goals (first | refine r_un (i := 7) ?_ | (refine r_indexAddr (i := 7) ?_) | (refine r_case (g := 12) (by exact rfl) (fun g12 => ?_) (fun g12 => ?_) <;> (first | replace g12 := of_decide_eq_true g12 | replace g12 := of_decide_eq_false g12 | skip) <;> (first | refine r_un (i := 7) ?_ | (refine r_indexAddr (i := 7) ?_))))
    all_goals (first | refine r_un (i := 8) ?_ | (refine r_fieldAddr (i := 8) ?_) | (refine r_case (g := 12) (by exact rfl) (fun g12 => ?_) (fun g12 => ?_) <;> (first | replace g12 := of_decide_eq_true g12 | replace g12 := of_decide_eq_false g12 | skip) <;> (first | refine r_un (i := 8) ?_ | (refine r_fieldAddr (i := 8) ?_))))
    all_goals (first | refine r_un (i := 9) ?_ | (refine r_load (i := 9) ?_) | (refine r_case (g := 12) (by exact rfl) (fun g12 => ?_) (fun g12 => ?_) <;> (first | replace g12 := of_decide_eq_true g12 | replace g12 := of_decide_eq_false g12 | skip) <;> (first | refine r_un (i := 9) ?_ | (refine r_load (i := 9) ?_))))
    all_goals (first | refine r_un (i := 10) ?_ | (refine r_fieldAddr (i := 10) ?_) | (refine r_case (g := 12) (by exact rfl) (fun g12 => ?_) (fun g12 => ?_) <;> (first | replace g12 := of_decide_eq_true g12 | replace g12 := of_decide_eq_false g12 | skip) <;> (first | refine r_un (i := 10) ?_ | (refine r_fieldAddr (i := 10) ?_))))
    all_goals (first | refine r_un (i := 11) ?_ | (refine r_load (i := 11) ?_) | (refine r_case (g := 12) (by exact rfl) (fun g12 => ?_) (fun g12 => ?_) <;> (first | replace g12 := of_decide_eq_true g12 | replace g12 := of_decide_eq_false g12 | skip) <;> (first | refine r_un (i := 11) ?_ | (refine r_load (i := 11) ?_))))
    all_goals (first | refine r_un (i := 12) ?_ | (refine r_lssStr (i := 12) ?_) | (refine r_case (g := 12) (by exact rfl) (fun g12 => ?_) (fun g12 => ?_) <;> (first | replace g12 := of_decide_eq_true g12 | replace g12 := of_decide_eq_false g12 | skip) <;> (first | refine r_un (i := 12) ?_ | (refine r_lssStr (i := 12) ?_))))
    all_goals (refine r_pick (i := 13) ?_)
    all_goals refine r_fin ?_
    all_goals
      refine k_cond (by exact rfl) (fun c21 => ?_) (fun c21 => ?_)
      · try (exact absurd c21 (by decide))
        all_goals (first | replace c21 := of_decide_eq_true c21 | replace c21 := sbeq_t c21 | replace c21 := sbne_t c21 | replace c21 := ibeq_t c21 | replace c21 := ibne_t c21 | replace c21 := ndec_t c21 | replace c21 := not_t c21 | skip)
        all_goals (refine k_skip ?_)
        all_goals (refine k_seq ?_)
        all_goals (refine k_block ?_)
        all_goals refine k_region ?_
        all_goals refine j_move ?_
        all_goals refine j_move ?_
        all_goals refine j_move ?_
        all_goals refine j_indexAddr ?_
        all_goals refine j_load ?_
        all_goals refine j_buildSlice (fun x29 => ?_)
        all_goals (refine j_own (by first | exact Loud.convOF (o_appP1 (by exact rfl) (by exact rfl) (by repeat (first | exact OAt.head | apply OAt.tail)) rfl (by first | exact .new .head | exact .new (.tail .head) | exact .new (.tail (.tail .head)) | exact .new (.tail (.tail (.tail .head))) | exact .new (.tail (.tail (.tail (.tail .head)))) | exact .new (.tail (.tail (.tail (.tail (.tail .head))))) | exact .new (.tail (.tail (.tail (.tail (.tail (.tail .head)))))) | exact .new (.tail (.tail (.tail (.tail (.tail (.tail (.tail .head))))))) | exact .new (.tail (.tail (.tail (.tail (.tail (.tail (.tail (.tail .head)))))))) | exact .new (.tail (.tail (.tail (.tail (.tail (.tail (.tail (.tail (.tail .head))))))))) | exact .old .head | exact .old (.tail .head) | exact .old (.tail (.tail .head)) | exact .old (.tail (.tail (.tail .head))) | exact .old (.tail (.tail (.tail (.tail .head)))) | exact .old (.tail (.tail (.tail (.tail (.tail .head))))) | exact .own .head | exact .own (.tail .head) | exact .own (.tail (.tail .head)) | exact .own (.tail (.tail (.tail .head))) | exact .own (.tail (.tail (.tail (.tail .head)))) | exact .own (.tail (.tail (.tail (.tail (.tail .head))))) | exact .own (.tail (.tail (.tail (.tail (.tail (.tail .head)))))) | exact .own (.tail (.tail (.tail (.tail (.tail (.tail (.tail .head)))))))) (by exact elem_pairT rfl) (by exact sl_of rfl) (by omega)) (by intro x; simp only [setO]; exact rfl) | exact Loud.convOF (o_appP (l2 := l.drop z.2.2.1.length) (by exact rfl) (by exact rfl) (by repeat (first | exact OAt.head | apply OAt.tail)) (by simp; done) (by first | exact .new .head | exact .new (.tail .head) | exact .new (.tail (.tail .head)) | exact .new (.tail (.tail (.tail .head))) | exact .new (.tail (.tail (.tail (.tail .head)))) | exact .new (.tail (.tail (.tail (.tail (.tail .head))))) | exact .new (.tail (.tail (.tail (.tail (.tail (.tail .head)))))) | exact .new (.tail (.tail (.tail (.tail (.tail (.tail (.tail .head))))))) | exact .new (.tail (.tail (.tail (.tail (.tail (.tail (.tail (.tail .head)))))))) | exact .new (.tail (.tail (.tail (.tail (.tail (.tail (.tail (.tail (.tail .head))))))))) | exact .old .head | exact .old (.tail .head) | exact .old (.tail (.tail .head)) | exact .old (.tail (.tail (.tail .head))) | exact .old (.tail (.tail (.tail (.tail .head)))) | exact .old (.tail (.tail (.tail (.tail (.tail .head))))) | exact .own .head | exact .own (.tail .head) | exact .own (.tail (.tail .head)) | exact .own (.tail (.tail (.tail .head))) | exact .own (.tail (.tail (.tail (.tail .head)))) | exact .own (.tail (.tail (.tail (.tail (.tail .head))))) | exact .own (.tail (.tail (.tail (.tail (.tail (.tail .head)))))) | exact .own (.tail (.tail (.tail (.tail (.tail (.tail (.tail .head)))))))) (by rw [List.length_drop]) (by exact elem_pairT rfl) (by exact sl_of rfl) (by omega)) (by intro x; simp only [setO]; exact rfl)) (fun x30 => ?_); try (refine l_fact (fun h30 => ?_)))
        all_goals refine j_assignL (fun _ => ?_)
        all_goals refine l_nil ?_
        all_goals (refine k_blk ?_)
        all_goals refine k_region ?_
        all_goals refine j_move ?_
        all_goals refine j_inc ?_
        all_goals refine j_assignL (fun _ => ?_)
        all_goals refine l_nil ?_
        all_goals
          refine k_roundF ((z.1 + 1, x30.1, z.2.2.1 ++ [l.getD z.1 (⟨#[]⟩, 0)], x30.2)) ?_ ?_ (by repeat (first | (with_reducible exact Pre.refl) | refine Pre.cons (by exact rfl) ?_)) ?_ (fun w hw => hw.back (hO := by exact List.Sublist.refl _))
          · first | omega | (simp only []; omega)
          · repeat' (first | exact knows_nil _ | refine knows_cons ?_ ?_)
            all_goals (first | exact rfl | (conv => { lhs; whnf }; simp; done) | (conv => { lhs; whnf }; congr 1; omega))
          · obtain ⟨q1, q2, q3, q4, q5⟩ := hx
            refine ⟨by show z.1 + 1 ≤ l.length; omega, by simp only [List.length_append, List.length_cons, List.length_nil]; omega, by rw [take_snoc (by omega), ← q3], by simp only [List.length_append, List.length_cons, List.length_nil]; omega, fun j hj => ?_⟩
            rcases Nat.lt_succ_iff_lt_or_eq.1 hj with h | rfl
            · exact q5 j h
            · exact c21
      · try (exact absurd c21 (by decide))
        all_goals (first | replace c21 := of_decide_eq_false c21 | replace c21 := sbeq_f c21 | replace c21 := sbne_f c21 | replace c21 := ibeq_f c21 | replace c21 := ibne_f c21 | replace c21 := ndec_f c21 | replace c21 := not_f c21 | skip)
        all_goals
          refine k_mono (fun w hw => hw.tailP (k := z.2.2.1.length) (c := c) (by first | exact .new .head | exact .new (.tail .head) | exact .new (.tail (.tail .head)) | exact .new (.tail (.tail (.tail .head))) | exact .new (.tail (.tail (.tail (.tail .head)))) | exact .new (.tail (.tail (.tail (.tail (.tail .head))))) | exact .new (.tail (.tail (.tail (.tail (.tail (.tail .head)))))) | exact .new (.tail (.tail (.tail (.tail (.tail (.tail (.tail .head))))))) | exact .new (.tail (.tail (.tail (.tail (.tail (.tail (.tail (.tail .head)))))))) | exact .new (.tail (.tail (.tail (.tail (.tail (.tail (.tail (.tail (.tail .head))))))))) | exact .old .head | exact .old (.tail .head) | exact .old (.tail (.tail .head)) | exact .old (.tail (.tail (.tail .head))) | exact .old (.tail (.tail (.tail (.tail .head)))) | exact .old (.tail (.tail (.tail (.tail (.tail .head))))) | exact .own .head | exact .own (.tail .head) | exact .own (.tail (.tail .head)) | exact .own (.tail (.tail (.tail .head))) | exact .own (.tail (.tail (.tail (.tail .head)))) | exact .own (.tail (.tail (.tail (.tail (.tail .head))))) | exact .own (.tail (.tail (.tail (.tail (.tail (.tail .head)))))) | exact .own (.tail (.tail (.tail (.tail (.tail (.tail (.tail .head)))))))) hc) ?_
        all_goals (refine k_exit rfl ?_)
        all_goals (refine k_seq ?_)
        all_goals refine k_region ?_
        all_goals refine j_move ?_
        all_goals refine j_len ?_
        all_goals refine j_assignL (fun _ => ?_)
        all_goals refine l_nil ?_
        all_goals (refine k_seq ?_)
        all_goals refine k_drawF (.one 0 [] (.one 1 [] (.one 4 [] (.one 5 [] (.one 6 [] (.one 2 [] (.one 3 [1] (.one 7 [1] (.one 8 [] .nil))))))))) ?_
        all_goals (refine r_move (i := 0) ?_)
        all_goals (refine r_load (i := 1) ?_)
        all_goals (refine r_move (i := 4) ?_)
        all_goals (refine r_move (i := 5) ?_)
        all_goals (refine r_ownP (i := 6) (hq := (o_tailQP (k := z.2.2.1.length) (by exact rfl) (by exact rfl) (by exact sl_of rfl) (by exact sz_of rfl) (by omega) (by omega))) (h := ?_))
        all_goals (refine r_buildSlice (i := 2) (hfire := (fun _ => .nil)) (h := fun x35 => ?_))
        all_goals ((refine r_own (i := 3) (hq := (by first | exact Loud.convOF (o_appP1 (by exact rfl) (by exact rfl) (by repeat (first | exact OAt.head | apply OAt.tail)) rfl (by first | exact .new .head | exact .new (.tail .head) | exact .new (.tail (.tail .head)) | exact .new (.tail (.tail (.tail .head))) | exact .new (.tail (.tail (.tail (.tail .head)))) | exact .new (.tail (.tail (.tail (.tail (.tail .head))))) | exact .new (.tail (.tail (.tail (.tail (.tail (.tail .head)))))) | exact .new (.tail (.tail (.tail (.tail (.tail (.tail (.tail .head))))))) | exact .new (.tail (.tail (.tail (.tail (.tail (.tail (.tail (.tail .head)))))))) | exact .new (.tail (.tail (.tail (.tail (.tail (.tail (.tail (.tail (.tail .head))))))))) | exact .old .head | exact .old (.tail .head) | exact .old (.tail (.tail .head)) | exact .old (.tail (.tail (.tail .head))) | exact .old (.tail (.tail (.tail (.tail .head)))) | exact .old (.tail (.tail (.tail (.tail (.tail .head))))) | exact .own .head | exact .own (.tail .head) | exact .own (.tail (.tail .head)) | exact .own (.tail (.tail (.tail .head))) | exact .own (.tail (.tail (.tail (.tail .head)))) | exact .own (.tail (.tail (.tail (.tail (.tail .head))))) | exact .own (.tail (.tail (.tail (.tail (.tail (.tail .head)))))) | exact .own (.tail (.tail (.tail (.tail (.tail (.tail (.tail .head)))))))) (by exact elem_pairT rfl) (by exact sl_of rfl) (by omega)) (by intro x; simp only [setO]; exact rfl) | exact Loud.convOF (o_appP (l2 := l.drop z.2.2.1.length) (by exact rfl) (by exact rfl) (by repeat (first | exact OAt.head | apply OAt.tail)) (by simp; done) (by first | exact .new .head | exact .new (.tail .head) | exact .new (.tail (.tail .head)) | exact .new (.tail (.tail (.tail .head))) | exact .new (.tail (.tail (.tail (.tail .head)))) | exact .new (.tail (.tail (.tail (.tail (.tail .head))))) | exact .new (.tail (.tail (.tail (.tail (.tail (.tail .head)))))) | exact .new (.tail (.tail (.tail (.tail (.tail (.tail (.tail .head))))))) | exact .new (.tail (.tail (.tail (.tail (.tail (.tail (.tail (.tail .head)))))))) | exact .new (.tail (.tail (.tail (.tail (.tail (.tail (.tail (.tail (.tail .head))))))))) | exact .old .head | exact .old (.tail .head) | exact .old (.tail (.tail .head)) | exact .old (.tail (.tail (.tail .head))) | exact .old (.tail (.tail (.tail (.tail .head)))) | exact .old (.tail (.tail (.tail (.tail (.tail .head))))) | exact .own .head | exact .own (.tail .head) | exact .own (.tail (.tail .head)) | exact .own (.tail (.tail (.tail .head))) | exact .own (.tail (.tail (.tail (.tail .head)))) | exact .own (.tail (.tail (.tail (.tail (.tail .head))))) | exact .own (.tail (.tail (.tail (.tail (.tail (.tail .head)))))) | exact .own (.tail (.tail (.tail (.tail (.tail (.tail (.tail .head)))))))) (by rw [List.length_drop]) (by exact elem_pairT rfl) (by exact sl_of rfl) (by omega)) (by intro x; simp only [setO]; exact rfl))) (hfire := (fun _ => by first | (refine FireAll.cons (by first | exact a_load | exact a_un) ?_; exact FireAll.nil) | (refine fireall_fact ?_; refine FireAll.cons (by first | exact a_load | exact a_un) ?_; exact FireAll.nil))) (h := fun x36 => ?_); try (refine r_fact (fun h36 => ?_))))
        all_goals ((refine r_own (i := 7) (hq := (by first | exact Loud.convOF (o_appP1 (by exact rfl) (by exact rfl) (by repeat (first | exact OAt.head | apply OAt.tail)) rfl (by first | exact .new .head | exact .new (.tail .head) | exact .new (.tail (.tail .head)) | exact .new (.tail (.tail (.tail .head))) | exact .new (.tail (.tail (.tail (.tail .head)))) | exact .new (.tail (.tail (.tail (.tail (.tail .head))))) | exact .new (.tail (.tail (.tail (.tail (.tail (.tail .head)))))) | exact .new (.tail (.tail (.tail (.tail (.tail (.tail (.tail .head))))))) | exact .new (.tail (.tail (.tail (.tail (.tail (.tail (.tail (.tail .head)))))))) | exact .new (.tail (.tail (.tail (.tail (.tail (.tail (.tail (.tail (.tail .head))))))))) | exact .old .head | exact .old (.tail .head) | exact .old (.tail (.tail .head)) | exact .old (.tail (.tail (.tail .head))) | exact .old (.tail (.tail (.tail (.tail .head)))) | exact .old (.tail (.tail (.tail (.tail (.tail .head))))) | exact .own .head | exact .own (.tail .head) | exact .own (.tail (.tail .head)) | exact .own (.tail (.tail (.tail .head))) | exact .own (.tail (.tail (.tail (.tail .head)))) | exact .own (.tail (.tail (.tail (.tail (.tail .head))))) | exact .own (.tail (.tail (.tail (.tail (.tail (.tail .head)))))) | exact .own (.tail (.tail (.tail (.tail (.tail (.tail (.tail .head)))))))) (by exact elem_pairT rfl) (by exact sl_of rfl) (by omega)) (by intro x; simp only [setO]; exact rfl) | exact Loud.convOF (o_appP (l2 := l.drop z.2.2.1.length) (by exact rfl) (by exact rfl) (by repeat (first | exact OAt.head | apply OAt.tail)) (by simp; done) (by first | exact .new .head | exact .new (.tail .head) | exact .new (.tail (.tail .head)) | exact .new (.tail (.tail (.tail .head))) | exact .new (.tail (.tail (.tail (.tail .head)))) | exact .new (.tail (.tail (.tail (.tail (.tail .head))))) | exact .new (.tail (.tail (.tail (.tail (.tail (.tail .head)))))) | exact .new (.tail (.tail (.tail (.tail (.tail (.tail (.tail .head))))))) | exact .new (.tail (.tail (.tail (.tail (.tail (.tail (.tail (.tail .head)))))))) | exact .new (.tail (.tail (.tail (.tail (.tail (.tail (.tail (.tail (.tail .head))))))))) | exact .old .head | exact .old (.tail .head) | exact .old (.tail (.tail .head)) | exact .old (.tail (.tail (.tail .head))) | exact .old (.tail (.tail (.tail (.tail .head)))) | exact .old (.tail (.tail (.tail (.tail (.tail .head))))) | exact .own .head | exact .own (.tail .head) | exact .own (.tail (.tail .head)) | exact .own (.tail (.tail (.tail .head))) | exact .own (.tail (.tail (.tail (.tail .head)))) | exact .own (.tail (.tail (.tail (.tail (.tail .head))))) | exact .own (.tail (.tail (.tail (.tail (.tail (.tail .head)))))) | exact .own (.tail (.tail (.tail (.tail (.tail (.tail (.tail .head)))))))) (by rw [List.length_drop]) (by exact elem_pairT rfl) (by exact sl_of rfl) (by omega)) (by intro x; simp only [setO]; exact rfl))) (hfire := (fun _ => by first | (refine FireAll.cons (by first | exact a_load | exact a_un) ?_; exact FireAll.nil) | (refine fireall_fact ?_; refine FireAll.cons (by first | exact a_load | exact a_un) ?_; exact FireAll.nil))) (h := fun x40 => ?_); try (refine r_fact (fun h40 => ?_))))
        all_goals (refine r_assignL (i := 8) (hfire := (fun _ => .nil)) (h := fun _ => ?_))
        all_goals refine r_fin ?_
        all_goals
          refine k_retvF Try.results108 (.tmp (by conv => { lhs; whnf }) .nil) (fun w hw => ?_)
          obtain ⟨q1, q2, q3, q4, q5⟩ := hx
          have hp : PosAt l p.1 z.1 := ⟨q1, q5, by first | exact bs_dn hs c21 | (intro j h1 h2; omega)⟩
          have e : putL l p.1 p.2 = z.2.2.1 ++ [(p.1, p.2)] ++ l.drop z.2.2.1.length := by
            rw [put_new hp fun hh => ?_, q4, ← q3, List.append_assoc]
            · rfl
            · exact hn _ (by rw [getD_get hh.1]; exact List.getElem_mem hh.1) hh.2
          have e2 : (z.2.2.1 ++ [(p.1, p.2)] ++ l.drop z.2.2.1.length).length = z.2.2.1.length + 1 + (l.length - z.2.2.1.length) := by rw [List.length_append, List.length_append, List.length_drop]; rfl
          rw [e]
          exact ⟨x40, by rw [e2]; rfl, by rw [e2]; exact h40, hw.finH⟩
theorem prWithout_f (k : ByteArray) (ha : Cl w a (prC l)) (hlen : l.length ≤ 1000000000) :
    Calls Try.prog 109 #[.slice a l.length c, .string k] w (PRes w (dropL l k)) := (prWithout_c k ha hlen).mono fun _ _ h => h.res
theorem prWith_f (p : Pr) (ha : Cl w a (prC l)) (hc : l.length ≤ c) (hs : SA l) (hn : ∀ q ∈ l, q.1 ≠ p.1) (hlen : l.length ≤ 1000000000) :
    Calls Try.prog 108 #[.slice a l.length c, .agg ⟨[.string p.1, .int .u64 p.2]⟩] w (PRes w (putL l p.1 p.2)) := (prWith_c p ha hc hs hn hlen).mono fun _ _ h => h.res
theorem dropL_not {l : List Pr} {k : ByteArray} : ∀ q ∈ dropL l k, q.1 ≠ k := fun q hq => by simpa using (List.mem_filter.1 hq).2
theorem dropL_le (l : List Pr) (k : ByteArray) : (dropL l k).length ≤ l.length := List.length_filter_le _ _
theorem refPut_c (k : ByteArray) (v : Int) (ha : Cl w a (prC l)) (hlen : l.length ≤ 1000000000) :
    Calls Try.prog 111 #[.slice a l.length c, .string k, .int .u64 v] w (PRes w (putO l k v)) := by
  have hdl := dropL_le l k
  refine enter Try.func111 Try.ntmps111 rfl rfl (SF.s1 ha) ?_
  simp only [mkS]
  all_goals (refine k_seq ?_)
  all_goals refine k_region ?_
  all_goals refine j_assignL (fun _ => ?_)
  all_goals refine l_nil ?_
  all_goals (refine k_seq ?_)
  all_goals (refine k_seq ?_)
  all_goals refine k_region ?_
  all_goals refine j_move ?_
  all_goals (refine j_own (c0 (V := .bool) (hc := fun w1 hw => refPrValid_c (hw.cl (by first | exact .new .head | exact .new (.tail .head) | exact .new (.tail (.tail .head)) | exact .new (.tail (.tail (.tail .head))) | exact .new (.tail (.tail (.tail (.tail .head)))) | exact .new (.tail (.tail (.tail (.tail (.tail .head))))) | exact .new (.tail (.tail (.tail (.tail (.tail (.tail .head)))))) | exact .new (.tail (.tail (.tail (.tail (.tail (.tail (.tail .head))))))) | exact .new (.tail (.tail (.tail (.tail (.tail (.tail (.tail (.tail .head)))))))) | exact .new (.tail (.tail (.tail (.tail (.tail (.tail (.tail (.tail (.tail .head))))))))) | exact .old .head | exact .old (.tail .head) | exact .old (.tail (.tail .head)) | exact .old (.tail (.tail (.tail .head))) | exact .old (.tail (.tail (.tail (.tail .head)))) | exact .old (.tail (.tail (.tail (.tail (.tail .head))))) | exact .own .head | exact .own (.tail .head) | exact .own (.tail (.tail .head)) | exact .own (.tail (.tail (.tail .head))) | exact .own (.tail (.tail (.tail (.tail .head)))) | exact .own (.tail (.tail (.tail (.tail (.tail .head))))) | exact .own (.tail (.tail (.tail (.tail (.tail (.tail .head)))))) | exact .own (.tail (.tail (.tail (.tail (.tail (.tail (.tail .head))))))))) (by omega))) (fun x8 => ?_); try (refine l_fact (fun h8 => ?_)))
  all_goals refine j_not ?_
  all_goals refine l_nil ?_
  all_goals
    refine k_cond (by exact rfl) (fun c9 => ?_) (fun c9 => ?_)
    · try (exact absurd c9 (by decide))
      all_goals (first | replace c9 := of_decide_eq_true c9 | replace c9 := sbeq_t c9 | replace c9 := sbne_t c9 | replace c9 := ibeq_t c9 | replace c9 := ibne_t c9 | replace c9 := ndec_t c9 | replace c9 := not_t c9 | skip)
      all_goals (refine k_seq ?_)
      all_goals refine k_region ?_
      all_goals refine j_assignL (fun _ => ?_)
      all_goals refine l_nil ?_
      all_goals
        refine k_retvF Try.results111 (.tmp (by conv => { lhs; whnf }) .nil) (fun w hw => ?_)
        rw [show putO l k v = [] from if_neg fun hs => by rw [h8.2 (asc_sa.2 hs)] at c9; cases c9]; exact ⟨(none, 0), rfl, Nat.le_refl _, (hw.fnil none).fin⟩
    · try (exact absurd c9 (by decide))
      all_goals (first | replace c9 := of_decide_eq_false c9 | replace c9 := sbeq_f c9 | replace c9 := sbne_f c9 | replace c9 := ibeq_f c9 | replace c9 := ibne_f c9 | replace c9 := ndec_f c9 | replace c9 := not_f c9 | skip)
      all_goals
        have hs : SA l := asc_sa.1 (h8.1 (by simpa using c9))
      all_goals (refine k_skip ?_)
      all_goals (refine k_seq ?_)
      all_goals refine k_region ?_
      all_goals refine j_move ?_
      all_goals refine j_move ?_
      all_goals (refine j_own (cF (hc := fun w1 hw => prWithout_f k (hw.cl (by first | exact .new .head | exact .new (.tail .head) | exact .new (.tail (.tail .head)) | exact .new (.tail (.tail (.tail .head))) | exact .new (.tail (.tail (.tail (.tail .head)))) | exact .new (.tail (.tail (.tail (.tail (.tail .head))))) | exact .new (.tail (.tail (.tail (.tail (.tail (.tail .head)))))) | exact .new (.tail (.tail (.tail (.tail (.tail (.tail (.tail .head))))))) | exact .new (.tail (.tail (.tail (.tail (.tail (.tail (.tail (.tail .head)))))))) | exact .new (.tail (.tail (.tail (.tail (.tail (.tail (.tail (.tail (.tail .head))))))))) | exact .old .head | exact .old (.tail .head) | exact .old (.tail (.tail .head)) | exact .old (.tail (.tail (.tail .head))) | exact .old (.tail (.tail (.tail (.tail .head)))) | exact .old (.tail (.tail (.tail (.tail (.tail .head))))) | exact .own .head | exact .own (.tail .head) | exact .own (.tail (.tail .head)) | exact .own (.tail (.tail (.tail .head))) | exact .own (.tail (.tail (.tail (.tail .head)))) | exact .own (.tail (.tail (.tail (.tail (.tail .head))))) | exact .own (.tail (.tail (.tail (.tail (.tail (.tail .head)))))) | exact .own (.tail (.tail (.tail (.tail (.tail (.tail (.tail .head))))))))) hlen)) (fun x12 => ?_); try (refine l_fact (fun h12 => ?_)))
      all_goals refine j_move ?_
      all_goals refine j_move ?_
      all_goals refine j_build ?_
      all_goals (refine j_own (cF (hc := fun w1 hw => prWith_f (k, v) (hw.cl (by first | exact .new .head | exact .new (.tail .head) | exact .new (.tail (.tail .head)) | exact .new (.tail (.tail (.tail .head))) | exact .new (.tail (.tail (.tail (.tail .head)))) | exact .new (.tail (.tail (.tail (.tail (.tail .head))))) | exact .new (.tail (.tail (.tail (.tail (.tail (.tail .head)))))) | exact .new (.tail (.tail (.tail (.tail (.tail (.tail (.tail .head))))))) | exact .new (.tail (.tail (.tail (.tail (.tail (.tail (.tail (.tail .head)))))))) | exact .new (.tail (.tail (.tail (.tail (.tail (.tail (.tail (.tail (.tail .head))))))))) | exact .old .head | exact .old (.tail .head) | exact .old (.tail (.tail .head)) | exact .old (.tail (.tail (.tail .head))) | exact .old (.tail (.tail (.tail (.tail .head)))) | exact .old (.tail (.tail (.tail (.tail (.tail .head))))) | exact .own .head | exact .own (.tail .head) | exact .own (.tail (.tail .head)) | exact .own (.tail (.tail (.tail .head))) | exact .own (.tail (.tail (.tail (.tail .head)))) | exact .own (.tail (.tail (.tail (.tail (.tail .head))))) | exact .own (.tail (.tail (.tail (.tail (.tail (.tail .head)))))) | exact .own (.tail (.tail (.tail (.tail (.tail (.tail (.tail .head))))))))) h12 (dropL_sa k hs) dropL_not (by omega))) (fun x16 => ?_); try (refine l_fact (fun h16 => ?_)))
      all_goals refine j_assignL (fun _ => ?_)
      all_goals refine l_nil ?_
      all_goals
        refine k_retvF Try.results111 (.tmp (by conv => { lhs; whnf }) .nil) (fun w hw => ?_)
        rw [show putO l k v = putL (dropL l k) k v from (if_pos hs).trans (put_drop hs k v).symm]; exact ⟨x16, rfl, h16, hw.fin⟩
theorem refDrop_c (k : ByteArray) (ha : Cl w a (prC l)) (hlen : l.length ≤ 1000000000) :
    Calls Try.prog 112 #[.slice a l.length c, .string k] w (PRes w (dropO l k)) := by
  refine enter Try.func112 Try.ntmps112 rfl rfl (SF.s1 ha) ?_
  simp only [mkS]
  all_goals (refine k_seq ?_)
  all_goals refine k_region ?_
  all_goals refine j_assignL (fun _ => ?_)
  all_goals refine l_nil ?_
  all_goals (refine k_seq ?_)
  all_goals (refine k_seq ?_)
  all_goals refine k_region ?_
  all_goals refine j_move ?_
  all_goals (refine j_own (c0 (V := .bool) (hc := fun w1 hw => refPrValid_c (hw.cl (by first | exact .new .head | exact .new (.tail .head) | exact .new (.tail (.tail .head)) | exact .new (.tail (.tail (.tail .head))) | exact .new (.tail (.tail (.tail (.tail .head)))) | exact .new (.tail (.tail (.tail (.tail (.tail .head))))) | exact .new (.tail (.tail (.tail (.tail (.tail (.tail .head)))))) | exact .new (.tail (.tail (.tail (.tail (.tail (.tail (.tail .head))))))) | exact .new (.tail (.tail (.tail (.tail (.tail (.tail (.tail (.tail .head)))))))) | exact .new (.tail (.tail (.tail (.tail (.tail (.tail (.tail (.tail (.tail .head))))))))) | exact .old .head | exact .old (.tail .head) | exact .old (.tail (.tail .head)) | exact .old (.tail (.tail (.tail .head))) | exact .old (.tail (.tail (.tail (.tail .head)))) | exact .old (.tail (.tail (.tail (.tail (.tail .head))))) | exact .own .head | exact .own (.tail .head) | exact .own (.tail (.tail .head)) | exact .own (.tail (.tail (.tail .head))) | exact .own (.tail (.tail (.tail (.tail .head)))) | exact .own (.tail (.tail (.tail (.tail (.tail .head))))) | exact .own (.tail (.tail (.tail (.tail (.tail (.tail .head)))))) | exact .own (.tail (.tail (.tail (.tail (.tail (.tail (.tail .head))))))))) (by omega))) (fun x6 => ?_); try (refine l_fact (fun h6 => ?_)))
  all_goals refine j_not ?_
  all_goals refine l_nil ?_
  all_goals
    refine k_cond (by exact rfl) (fun c7 => ?_) (fun c7 => ?_)
    · try (exact absurd c7 (by decide))
      all_goals (first | replace c7 := of_decide_eq_true c7 | replace c7 := sbeq_t c7 | replace c7 := sbne_t c7 | replace c7 := ibeq_t c7 | replace c7 := ibne_t c7 | replace c7 := ndec_t c7 | replace c7 := not_t c7 | skip)
      all_goals (refine k_seq ?_)
      all_goals refine k_region ?_
      all_goals refine j_assignL (fun _ => ?_)
      all_goals refine l_nil ?_
      all_goals
        refine k_retvF Try.results112 (.tmp (by conv => { lhs; whnf }) .nil) (fun w hw => ?_)
        rw [show dropO l k = [] from if_neg fun hs => by rw [h6.2 (asc_sa.2 hs)] at c7; cases c7]; exact ⟨(none, 0), rfl, Nat.le_refl _, (hw.fnil none).fin⟩
    · try (exact absurd c7 (by decide))
      all_goals (first | replace c7 := of_decide_eq_false c7 | replace c7 := sbeq_f c7 | replace c7 := sbne_f c7 | replace c7 := ibeq_f c7 | replace c7 := ibne_f c7 | replace c7 := ndec_f c7 | replace c7 := not_f c7 | skip)
      all_goals
        have hs : SA l := asc_sa.1 (h6.1 (by simpa using c7))
      all_goals (refine k_skip ?_)
      all_goals (refine k_seq ?_)
      all_goals refine k_region ?_
      all_goals refine j_move ?_
      all_goals refine j_move ?_
      all_goals (refine j_own (cF (hc := fun w1 hw => prWithout_f k (hw.cl (by first | exact .new .head | exact .new (.tail .head) | exact .new (.tail (.tail .head)) | exact .new (.tail (.tail (.tail .head))) | exact .new (.tail (.tail (.tail (.tail .head)))) | exact .new (.tail (.tail (.tail (.tail (.tail .head))))) | exact .new (.tail (.tail (.tail (.tail (.tail (.tail .head)))))) | exact .new (.tail (.tail (.tail (.tail (.tail (.tail (.tail .head))))))) | exact .new (.tail (.tail (.tail (.tail (.tail (.tail (.tail (.tail .head)))))))) | exact .new (.tail (.tail (.tail (.tail (.tail (.tail (.tail (.tail (.tail .head))))))))) | exact .old .head | exact .old (.tail .head) | exact .old (.tail (.tail .head)) | exact .old (.tail (.tail (.tail .head))) | exact .old (.tail (.tail (.tail (.tail .head)))) | exact .old (.tail (.tail (.tail (.tail (.tail .head))))) | exact .own .head | exact .own (.tail .head) | exact .own (.tail (.tail .head)) | exact .own (.tail (.tail (.tail .head))) | exact .own (.tail (.tail (.tail (.tail .head)))) | exact .own (.tail (.tail (.tail (.tail (.tail .head))))) | exact .own (.tail (.tail (.tail (.tail (.tail (.tail .head)))))) | exact .own (.tail (.tail (.tail (.tail (.tail (.tail (.tail .head))))))))) hlen)) (fun x10 => ?_); try (refine l_fact (fun h10 => ?_)))
      all_goals refine j_assignL (fun _ => ?_)
      all_goals refine l_nil ?_
      all_goals
        refine k_retvF Try.results112 (.tmp (by conv => { lhs; whnf }) .nil) (fun w hw => ?_)
        rw [show dropO l k = dropL l k from if_pos hs]; exact ⟨x10, rfl, h10, hw.fin⟩
theorem refOf_c (ha : Cl w a (prC l)) (hlen : l.length ≤ 1000000000) :
    Calls Try.prog 59 #[.slice a l.length c] w (PRes w (ofL l)) := by
  refine enter Try.func59 Try.ntmps59 rfl rfl (SF.s1 ha) ?_
  simp only [mkS]
  all_goals (refine k_seq ?_)
  all_goals refine k_region ?_
  all_goals refine j_assignL (fun _ => ?_)
  all_goals refine l_nil ?_
  all_goals (refine k_seq ?_)
  all_goals refine k_region ?_
  all_goals refine j_assignL (fun _ => ?_)
  all_goals refine l_nil ?_
  all_goals (refine k_seq ?_)
  all_goals (refine k_seq ?_)
  all_goals refine k_region ?_
  all_goals refine j_assignL (fun _ => ?_)
  all_goals refine l_nil ?_
  all_goals (refine k_block ?_)
  all_goals
    refine k_loopF [3, 4, 5, 6, 7, 8, 9, 10, 11, 12, 13, 14, 15, 16, 17, 18, 19, 20, 21, 22] (fun z : Nat × Option Addr × List Pr × Nat => [(4, .int .i64 ((z.1 : Nat) : Int)), (3, .slice z.2.1 z.2.2.1.length z.2.2.2)]) (fun z => z.1 ≤ l.length ∧ z.2.2.1.length ≤ z.2.2.2 ∧ z.2.2.1 = ofL (l.take z.1) ∧ z.2.2.1.length ≤ z.1 ∧ SA z.2.2.1) (fun _ => _) (fun z => [(z.2.1, prC z.2.2.1)]) (fun _ => _) (fun z => l.length - z.1) ((0, none, [], 0)) (by decide) (fun _ => by exact rfl) ?_ (⟨Nat.zero_le _, Nat.le_refl _, rfl, Nat.le_refl _, List.Pairwise.nil⟩) (fun w hw => (hw.fnil none).back) (fun z f hx => ?_)
    · repeat (first | exact knows_nil _ | refine knows_cons (by first | exact rfl | (conv => { lhs; whnf }; simp; done)) ?_)
    dsimp only [mkU, List.map, List.cons_append, List.nil_append]
    all_goals (refine k_seq ?_)
    all_goals (refine k_seq ?_)
    all_goals refine k_region ?_
    all_goals refine j_move ?_
    all_goals refine j_move ?_
    all_goals refine j_len ?_
    all_goals refine j_lss ?_
    all_goals refine l_nil ?_
    all_goals
      refine k_cond (by exact rfl) (fun c8 => ?_) (fun c8 => ?_)
      · try (exact absurd c8 (by decide))
        all_goals (first | replace c8 := of_decide_eq_true c8 | replace c8 := sbeq_t c8 | replace c8 := sbne_t c8 | replace c8 := ibeq_t c8 | replace c8 := ibne_t c8 | replace c8 := ndec_t c8 | replace c8 := not_t c8 | skip)
        all_goals
          have hdl := dropL_le z.2.2.1 (l.getD z.1 (⟨#[]⟩, 0)).1
        all_goals (refine k_skip ?_)
        all_goals (refine k_seq ?_)
        all_goals (refine k_block ?_)
        all_goals refine k_drawF (.one 0 [] (.one 1 [] (.one 2 [] (.one 3 [] (.one 4 [] (.one 5 [] (.one 7 [] (.one 8 [] (.one 9 [] (.one 10 [] (.one 6 [3, 9, 10] (.one 11 [3, 5, 9] (.one 12 [] .nil))))))))))))) ?_
        all_goals (refine r_move (i := 0) ?_)
        all_goals (refine r_move (i := 1) ?_)
        all_goals (refine r_move (i := 2) ?_)
        all_goals (refine r_indexAddr (i := 3) ?_)
        all_goals (refine r_fieldAddr (i := 4) ?_)
        all_goals (refine r_load (i := 5) ?_)
        all_goals (refine r_move (i := 7) ?_)
        all_goals (refine r_move (i := 8) ?_)
        all_goals (refine r_indexAddr (i := 9) ?_)
        all_goals (refine r_load (i := 10) ?_)
        all_goals ((refine r_own (i := 6) (hq := (cF (hc := fun w1 hw => prWithout_f (l.getD z.1 (⟨#[]⟩, 0)).1 (hw.cl (by first | exact .new .head | exact .new (.tail .head) | exact .new (.tail (.tail .head)) | exact .new (.tail (.tail (.tail .head))) | exact .new (.tail (.tail (.tail (.tail .head)))) | exact .new (.tail (.tail (.tail (.tail (.tail .head))))) | exact .new (.tail (.tail (.tail (.tail (.tail (.tail .head)))))) | exact .new (.tail (.tail (.tail (.tail (.tail (.tail (.tail .head))))))) | exact .new (.tail (.tail (.tail (.tail (.tail (.tail (.tail (.tail .head)))))))) | exact .new (.tail (.tail (.tail (.tail (.tail (.tail (.tail (.tail (.tail .head))))))))) | exact .old .head | exact .old (.tail .head) | exact .old (.tail (.tail .head)) | exact .old (.tail (.tail (.tail .head))) | exact .old (.tail (.tail (.tail (.tail .head)))) | exact .old (.tail (.tail (.tail (.tail (.tail .head))))) | exact .own .head | exact .own (.tail .head) | exact .own (.tail (.tail .head)) | exact .own (.tail (.tail (.tail .head))) | exact .own (.tail (.tail (.tail (.tail .head)))) | exact .own (.tail (.tail (.tail (.tail (.tail .head))))) | exact .own (.tail (.tail (.tail (.tail (.tail (.tail .head)))))) | exact .own (.tail (.tail (.tail (.tail (.tail (.tail (.tail .head))))))))) (by omega)))) (hfire := (fun _ => by first | (refine FireAll.cons (by first | exact a_indexAddr | exact a_un) ?_; refine FireAll.cons (by first | exact a_indexAddr | exact a_un) ?_; refine FireAll.cons (by first | exact a_load | exact a_un) ?_; exact FireAll.nil) | (refine fireall_fact ?_; refine FireAll.cons (by first | exact a_indexAddr | exact a_un) ?_; refine FireAll.cons (by first | exact a_indexAddr | exact a_un) ?_; refine FireAll.cons (by first | exact a_load | exact a_un) ?_; exact FireAll.nil))) (h := fun x17 => ?_); try (refine r_fact (fun h17 => ?_))))
        all_goals ((refine r_own (i := 11) (hq := (cF (hc := fun w1 hw => prWith_f (l.getD z.1 (⟨#[]⟩, 0)) (hw.cl (by first | exact .new .head | exact .new (.tail .head) | exact .new (.tail (.tail .head)) | exact .new (.tail (.tail (.tail .head))) | exact .new (.tail (.tail (.tail (.tail .head)))) | exact .new (.tail (.tail (.tail (.tail (.tail .head))))) | exact .new (.tail (.tail (.tail (.tail (.tail (.tail .head)))))) | exact .new (.tail (.tail (.tail (.tail (.tail (.tail (.tail .head))))))) | exact .new (.tail (.tail (.tail (.tail (.tail (.tail (.tail (.tail .head)))))))) | exact .new (.tail (.tail (.tail (.tail (.tail (.tail (.tail (.tail (.tail .head))))))))) | exact .old .head | exact .old (.tail .head) | exact .old (.tail (.tail .head)) | exact .old (.tail (.tail (.tail .head))) | exact .old (.tail (.tail (.tail (.tail .head)))) | exact .old (.tail (.tail (.tail (.tail (.tail .head))))) | exact .own .head | exact .own (.tail .head) | exact .own (.tail (.tail .head)) | exact .own (.tail (.tail (.tail .head))) | exact .own (.tail (.tail (.tail (.tail .head)))) | exact .own (.tail (.tail (.tail (.tail (.tail .head))))) | exact .own (.tail (.tail (.tail (.tail (.tail (.tail .head)))))) | exact .own (.tail (.tail (.tail (.tail (.tail (.tail (.tail .head))))))))) h17 (dropL_sa _ hx.2.2.2.2) dropL_not (by omega)))) (hfire := (fun _ => by first | (refine FireAll.cons (by first | exact a_indexAddr | exact a_un) ?_; refine FireAll.cons (by first | exact a_load | exact a_un) ?_; refine FireAll.cons (by first | exact a_indexAddr | exact a_un) ?_; exact FireAll.nil) | (refine fireall_fact ?_; refine FireAll.cons (by first | exact a_indexAddr | exact a_un) ?_; refine FireAll.cons (by first | exact a_load | exact a_un) ?_; refine FireAll.cons (by first | exact a_indexAddr | exact a_un) ?_; exact FireAll.nil))) (h := fun x22 => ?_); try (refine r_fact (fun h22 => ?_))))
        all_goals (refine r_assignL (i := 12) (hfire := (fun _ => .nil)) (h := fun _ => ?_))
        all_goals refine r_fin ?_
        all_goals (refine k_blk ?_)
        all_goals refine k_region ?_
        all_goals refine j_move ?_
        all_goals refine j_inc ?_
        all_goals refine j_assignL (fun _ => ?_)
        all_goals refine l_nil ?_
        all_goals
          refine k_roundF ((z.1 + 1, x22.1, putL (dropL z.2.2.1 (l.getD z.1 (⟨#[]⟩, 0)).1) (l.getD z.1 (⟨#[]⟩, 0)).1 (l.getD z.1 (⟨#[]⟩, 0)).2, x22.2)) ?_ ?_ (by repeat (first | (with_reducible exact Pre.refl) | refine Pre.cons (by exact rfl) ?_)) ?_ (fun w hw => hw.back)
          · first | omega | (simp only []; omega)
          · repeat' (first | exact knows_nil _ | refine knows_cons ?_ ?_)
            all_goals (first | exact rfl | (conv => { lhs; whnf }; simp; done) | (conv => { lhs; whnf }; congr 1; omega))
          · obtain ⟨q1, q2, q3, q4, q5⟩ := hx
            have e := put_drop q5 (l.getD z.1 (⟨#[]⟩, 0)).1 (l.getD z.1 (⟨#[]⟩, 0)).2
            have hl := put_len (k := (l.getD z.1 (⟨#[]⟩, 0)).1) (v := (l.getD z.1 (⟨#[]⟩, 0)).2) q5
            rw [e] at h22
            refine ⟨by show z.1 + 1 ≤ l.length; omega, by show (putL _ _ _).length ≤ _; rw [e]; exact h22, ?_, ?_, ?_⟩
            · show putL _ _ _ = _
              rw [e, take_snoc (by omega), ofL_snoc, ← q3]
            · show (putL _ _ _).length ≤ z.1 + 1
              rw [e, hl]; split <;> omega
            · show SA (putL _ _ _)
              rw [e]; exact putL_sa q5
      · try (exact absurd c8 (by decide))
        all_goals (first | replace c8 := of_decide_eq_false c8 | replace c8 := sbeq_f c8 | replace c8 := sbne_f c8 | replace c8 := ibeq_f c8 | replace c8 := ibne_f c8 | replace c8 := ndec_f c8 | replace c8 := not_f c8 | skip)
        all_goals (refine k_exit rfl ?_)
        all_goals (refine k_seq ?_)
        all_goals refine k_region ?_
        all_goals refine j_move ?_
        all_goals refine j_assignL (fun _ => ?_)
        all_goals refine l_nil ?_
        all_goals
          refine k_retvF Try.results59 (.tmp (by conv => { lhs; whnf }) .nil) (fun w hw => ?_)
          obtain ⟨q1, q2, q3, q4, q5⟩ := hx
          have e : z.2.2.1 = ofL l := by rw [q3, List.take_of_length_le (by omega)]
          rw [← e]
          exact ⟨(z.2.1, z.2.2.2), rfl, q2, hw.fin⟩
end
end Go.Proofs.Ythmagkjcangnfaa
