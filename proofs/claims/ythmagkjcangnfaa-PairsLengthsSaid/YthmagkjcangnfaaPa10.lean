/- Pairs: Of. -/
import Derived.Test.YthmagkjcangnfaaPa9
set_option linter.unusedSimpArgs false
set_option linter.unusedVariables false
namespace Go.Proofs.Ythmagkjcangnfaa
open Go.RowKit Go.Ct
section
variable {ys l : List Pr} {p a : Option Addr} {c N : Nat} {w : World}
theorem drop_get {ys : List Pr} {k : Nat} (h : k < ys.length) : ys.drop k = ys.getD k (⟨#[]⟩, 0) :: ys.drop (k + 1) := by
  rw [List.drop_eq_getElem_cons h, getD_get h]
theorem lasts_skip {ys : List Pr} {k : Nat} (h : k + 1 < ys.length) (e : (ys.getD (k + 1) (⟨#[]⟩, 0)).1 = (ys.getD k (⟨#[]⟩, 0)).1) : lastsL (ys.drop k) = lastsL (ys.drop (k + 1)) := by
  rw [drop_get (by omega), drop_get h, lastsL, if_pos e]
theorem lasts_keep {ys : List Pr} {k : Nat} (h : k < ys.length) (hn : ¬ (k + 1 < ys.length ∧ (ys.getD (k + 1) (⟨#[]⟩, 0)).1 = (ys.getD k (⟨#[]⟩, 0)).1)) : lastsL (ys.drop k) = ys.getD k (⟨#[]⟩, 0) :: lastsL (ys.drop (k + 1)) := by
  rw [drop_get h]
  by_cases h1 : k + 1 < ys.length
  · rw [drop_get h1, lastsL, if_neg fun e => hn ⟨h1, e⟩]
  · rw [List.drop_eq_nil_of_le (by omega)]; rfl
theorem prOf_o (ha : Cl w a (prC l)) (hc : l.length ≤ c) (hlen : l.length ≤ 39) :
    Calls Try.prog 54 #[.slice a l.length c] w (POwn w (ofL l)) := by
  refine enter Try.func54 Try.ntmps54 rfl rfl (SF.s1 ha) ?_
  simp only [mkS]
  all_goals (refine k_seq ?_)
  all_goals refine k_region ?_
  all_goals refine j_assignL (fun _ => ?_)
  all_goals refine l_nil ?_
  all_goals (refine k_seq ?_)
  all_goals refine k_region ?_
  all_goals refine j_move ?_
  all_goals refine j_len ?_
  all_goals refine j_makeSlice (fun x9 => ?_)
  all_goals refine j_assignL (fun _ => ?_)
  all_goals refine l_nil ?_
  all_goals (refine k_seq ?_)
  all_goals refine k_region ?_
  all_goals refine j_move ?_
  all_goals refine j_move ?_
  all_goals refine j_copy (fun x12 => ?_)
  all_goals refine l_nil ?_
  all_goals (refine k_seq ?_)
  all_goals refine k_region ?_
  all_goals refine j_move ?_
  all_goals (refine j_own (cFO (ho := (by repeat (first | exact OAt.head | apply OAt.tail))) (hc := fun w1 hw => sortStable_c (hw.ow (by repeat (first | exact OAt.head | apply OAt.tail))) rfl hlen)) (fun x14 => ?_); try (refine l_fact (fun h14 => ?_)))
  all_goals refine l_nil ?_
  all_goals (refine k_seq ?_)
  all_goals refine k_region ?_
  all_goals refine j_move ?_
  all_goals refine j_len ?_
  all_goals refine j_own (o_makeP (m := 0) (k := l.length) (by exact rfl) (by exact rfl) (by exact elem_pairT rfl) (by omega) (by omega)) (fun x17 => ?_)
  all_goals refine j_assignL (fun _ => ?_)
  all_goals refine l_nil ?_
  all_goals (refine k_seq ?_)
  all_goals (refine k_seq ?_)
  all_goals refine k_region ?_
  all_goals refine j_move ?_
  all_goals refine j_len ?_
  all_goals refine j_move ?_
  all_goals refine l_nil ?_
  all_goals (refine k_block ?_)
  all_goals
    have hl14 := h14.2.len
    refine k_loopF [4, 5, 6, 20, 21, 22, 23, 24, 25, 26, 27, 28, 29, 30, 31, 32, 33, 34, 35, 36, 37, 38, 39, 40, 41, 42, 43, 44, 45] (fun z : Nat × Option Addr × List Pr × Nat => [(20, .int .i64 ((z.1 : Nat) : Int)), (4, .slice z.2.1 z.2.2.1.length z.2.2.2)]) (fun z => z.1 ≤ l.length ∧ z.2.2.1.length ≤ z.2.2.2 ∧ z.2.2.1 ++ lastsL (x14.drop z.1) = lastsL x14 ∧ z.2.2.1.length ≤ z.1) (fun _ => _) (fun _ => _) (fun z => [⟨z.2.1, prC z.2.2.1, z.2.2.2, 37, 2⟩, ⟨some ⟨x9, 0, none⟩, prC x14, l.length, 37, 2⟩]) (fun z => l.length - z.1) ((0, some ⟨x17, 0, none⟩, [], l.length)) (by decide) (fun _ => by exact rfl) ?_ (⟨Nat.zero_le _, Nat.zero_le _, rfl, Nat.le_refl _⟩) (fun w hw => hw.back) (fun z f hx => ?_)
    · repeat (first | exact knows_nil _ | refine knows_cons (by first | exact rfl | (conv => { lhs; whnf }; simp; done)) ?_)
    dsimp only [mkU, List.map, List.cons_append, List.nil_append]
    obtain ⟨q1, q2, q3, q4⟩ := hx
    all_goals (refine k_seq ?_)
    all_goals refine k_region ?_
    all_goals refine j_lss ?_
    all_goals refine l_nil ?_
    all_goals (refine k_seq ?_)
    all_goals
      refine k_cond (by exact rfl) (fun c21 => ?_) (fun c21 => ?_)
      · try (exact absurd c21 (by decide))
        all_goals (first | replace c21 := of_decide_eq_true c21 | replace c21 := sbeq_t c21 | replace c21 := sbne_t c21 | replace c21 := ibeq_t c21 | replace c21 := ibne_t c21 | replace c21 := ndec_t c21 | replace c21 := not_t c21 | skip)
        all_goals (refine k_skip ?_)
        all_goals (refine k_seq ?_)
        all_goals (refine k_block ?_)
        all_goals (refine k_seq ?_)
        all_goals refine k_region ?_
        all_goals refine j_move ?_
        all_goals refine j_indexAddr ?_
        all_goals refine j_load ?_
        all_goals refine j_alloc (fun x6 => ?_)
        all_goals refine j_assignL (fun _ => ?_)
        all_goals refine j_store (fun _ => ?_)
        all_goals refine l_nil ?_
        all_goals (refine k_seq ?_)
        all_goals (refine k_seq ?_)
        all_goals refine k_drawF (.one 0 [] (.one 1 [] (.one 2 [] (.one 3 [] (.one 4 [] (.one 5 [] (.one 6 [] (.one 7 [] (.one 8 [] (.one 9 [] (.one 10 [] (.one 11 [] (.one 12 [] (.one 13 [] (.one 14 [] (.one 15 [] .nil)))))))))))))))) ?_
        all_goals (refine r_move (i := 0) ?_)
        all_goals (refine r_inc (i := 1) ?_)
        all_goals (refine r_move (i := 2) ?_)
        all_goals (refine r_len (i := 3) ?_)
        all_goals (refine r_lss (i := 4) ?_)
        all_goals (refine r_move (i := 5) ?_)
        all_goals (first | refine r_un (i := 6) ?_ | (refine r_move (i := 6) ?_) | (refine r_case (g := 30) (by exact rfl) (fun g30 => ?_) (fun g30 => ?_) <;> (first | replace g30 := of_decide_eq_true g30 | replace g30 := of_decide_eq_false g30 | skip) <;> (first | refine r_un (i := 6) ?_ | (refine r_move (i := 6) ?_))))
        all_goals (first | refine r_un (i := 7) ?_ | (refine r_move (i := 7) ?_) | (refine r_case (g := 30) (by exact rfl) (fun g30 => ?_) (fun g30 => ?_) <;> (first | replace g30 := of_decide_eq_true g30 | replace g30 := of_decide_eq_false g30 | skip) <;> (first | refine r_un (i := 7) ?_ | (refine r_move (i := 7) ?_))))
        all_goals (first | refine r_un (i := 8) ?_ | (refine r_inc (i := 8) ?_) | (refine r_case (g := 30) (by exact rfl) (fun g30 => ?_) (fun g30 => ?_) <;> (first | replace g30 := of_decide_eq_true g30 | replace g30 := of_decide_eq_false g30 | skip) <;> (first | refine r_un (i := 8) ?_ | (refine r_inc (i := 8) ?_))))
        all_goals (first | refine r_un (i := 9) ?_ | (refine r_indexAddr (i := 9) ?_) | (refine r_case (g := 30) (by exact rfl) (fun g30 => ?_) (fun g30 => ?_) <;> (first | replace g30 := of_decide_eq_true g30 | replace g30 := of_decide_eq_false g30 | skip) <;> (first | refine r_un (i := 9) ?_ | (refine r_indexAddr (i := 9) ?_))))
        all_goals (first | refine r_un (i := 10) ?_ | (refine r_fieldAddr (i := 10) ?_) | (refine r_case (g := 30) (by exact rfl) (fun g30 => ?_) (fun g30 => ?_) <;> (first | replace g30 := of_decide_eq_true g30 | replace g30 := of_decide_eq_false g30 | skip) <;> (first | refine r_un (i := 10) ?_ | (refine r_fieldAddr (i := 10) ?_))))
        all_goals (first | refine r_un (i := 11) ?_ | (refine r_load (i := 11) ?_) | (refine r_case (g := 30) (by exact rfl) (fun g30 => ?_) (fun g30 => ?_) <;> (first | replace g30 := of_decide_eq_true g30 | replace g30 := of_decide_eq_false g30 | skip) <;> (first | refine r_un (i := 11) ?_ | (refine r_load (i := 11) ?_))))
        all_goals (first | refine r_un (i := 12) ?_ | (refine r_fieldAddr (i := 12) ?_) | (refine r_case (g := 30) (by exact rfl) (fun g30 => ?_) (fun g30 => ?_) <;> (first | replace g30 := of_decide_eq_true g30 | replace g30 := of_decide_eq_false g30 | skip) <;> (first | refine r_un (i := 12) ?_ | (refine r_fieldAddr (i := 12) ?_))))
        all_goals (first | refine r_un (i := 13) ?_ | (refine r_load (i := 13) ?_) | (refine r_case (g := 30) (by exact rfl) (fun g30 => ?_) (fun g30 => ?_) <;> (first | replace g30 := of_decide_eq_true g30 | replace g30 := of_decide_eq_false g30 | skip) <;> (first | refine r_un (i := 13) ?_ | (refine r_load (i := 13) ?_))))
        all_goals (first | refine r_un (i := 14) ?_ | (refine r_seq (i := 14) ?_) | (refine r_case (g := 30) (by exact rfl) (fun g30 => ?_) (fun g30 => ?_) <;> (first | replace g30 := of_decide_eq_true g30 | replace g30 := of_decide_eq_false g30 | skip) <;> (first | refine r_un (i := 14) ?_ | (refine r_seq (i := 14) ?_))))
        all_goals (refine r_pick (i := 15) ?_)
        all_goals refine r_fin ?_
        all_goals
          refine k_cond (by exact rfl) (fun c40 => ?_) (fun c40 => ?_)
          · try (exact absurd c40 (by decide))
            all_goals (first | replace c40 := of_decide_eq_true c40 | replace c40 := sbeq_t c40 | replace c40 := sbne_t c40 | replace c40 := ibeq_t c40 | replace c40 := ibne_t c40 | replace c40 := ndec_t c40 | replace c40 := not_t c40 | skip)
            all_goals (refine k_exit rfl ?_)
            all_goals refine k_region ?_
            all_goals refine j_inc ?_
            all_goals refine j_move ?_
            all_goals refine l_nil ?_
            all_goals
              refine k_roundF ((by first | exact (z.1 + 1, x44.1, z.2.2.1 ++ [x14.getD z.1 (⟨#[]⟩, 0)], x44.2) | exact (z.1 + 1, z.2.1, z.2.2.1, z.2.2.2))) ?_ ?_ (by repeat (first | (with_reducible exact Pre.refl) | refine Pre.cons (by exact rfl) ?_)) ?_ (fun w hw => by first | exact hw.back (hO := by exact List.Sublist.refl _) | (rw [show z.2.2.1.length + 1 = (z.2.2.1 ++ [x14.getD z.1 (⟨#[]⟩, 0)]).length by simp] at hw; exact hw.back (hO := by exact List.Sublist.refl _)))
              · first | omega | (simp only []; omega)
              · repeat' (first | exact knows_nil _ | refine knows_cons ?_ ?_)
                all_goals (first | exact rfl | (conv => { lhs; whnf }; simp; done) | (conv => { lhs; whnf }; congr 1; omega))
              · first
                | (rw [lasts_skip (by omega) (by assumption)] at q3; exact ⟨by show z.1 + 1 ≤ l.length; omega, q2, q3, by show z.2.2.1.length ≤ z.1 + 1; omega⟩)
                | (rw [lasts_keep (by omega) (by first | (rintro ⟨s1, s2⟩; omega) | (rintro ⟨s1, s2⟩; exact absurd s2 (by assumption)))] at q3; exact ⟨by show z.1 + 1 ≤ l.length; omega, by simp only [List.length_append, List.length_cons, List.length_nil]; omega, by show z.2.2.1 ++ [x14.getD z.1 (⟨#[]⟩, 0)] ++ _ = _; rw [List.append_assoc]; exact q3, by simp only [List.length_append, List.length_cons, List.length_nil]; omega⟩)
          · try (exact absurd c40 (by decide))
            all_goals (first | replace c40 := of_decide_eq_false c40 | replace c40 := sbeq_f c40 | replace c40 := sbne_f c40 | replace c40 := ibeq_f c40 | replace c40 := ibne_f c40 | replace c40 := ndec_f c40 | replace c40 := not_f c40 | skip)
            all_goals (refine k_skip ?_)
            all_goals refine k_region ?_
            all_goals refine j_move ?_
            all_goals refine j_load ?_
            all_goals refine j_buildSlice (fun x43 => ?_)
            all_goals (refine j_append (fun x44 => ?_); try (refine l_fact (fun h44 => ?_)))
            all_goals refine j_assignL (fun _ => ?_)
            all_goals refine l_nil ?_
            all_goals (refine k_blk ?_)
            all_goals refine k_region ?_
            all_goals refine j_inc ?_
            all_goals refine j_move ?_
            all_goals refine l_nil ?_
            all_goals
              refine k_roundF ((by first | exact (z.1 + 1, x44.1, z.2.2.1 ++ [x14.getD z.1 (⟨#[]⟩, 0)], x44.2) | exact (z.1 + 1, z.2.1, z.2.2.1, z.2.2.2))) ?_ ?_ (by repeat (first | (with_reducible exact Pre.refl) | refine Pre.cons (by exact rfl) ?_)) ?_ (fun w hw => by first | exact hw.back (hO := by exact List.Sublist.refl _) | (rw [show z.2.2.1.length + 1 = (z.2.2.1 ++ [x14.getD z.1 (⟨#[]⟩, 0)]).length by simp] at hw; exact hw.back (hO := by exact List.Sublist.refl _)))
              · first | omega | (simp only []; omega)
              · repeat' (first | exact knows_nil _ | refine knows_cons ?_ ?_)
                all_goals (first | exact rfl | (conv => { lhs; whnf }; simp; done) | (conv => { lhs; whnf }; congr 1; omega))
              · first
                | (rw [lasts_skip (by omega) (by assumption)] at q3; exact ⟨by show z.1 + 1 ≤ l.length; omega, q2, q3, by show z.2.2.1.length ≤ z.1 + 1; omega⟩)
                | (rw [lasts_keep (by omega) (by first | (rintro ⟨s1, s2⟩; omega) | (rintro ⟨s1, s2⟩; exact absurd s2 (by assumption)))] at q3; exact ⟨by show z.1 + 1 ≤ l.length; omega, by simp only [List.length_append, List.length_cons, List.length_nil]; omega, by show z.2.2.1 ++ [x14.getD z.1 (⟨#[]⟩, 0)] ++ _ = _; rw [List.append_assoc]; exact q3, by simp only [List.length_append, List.length_cons, List.length_nil]; omega⟩)
      · try (exact absurd c21 (by decide))
        all_goals (first | replace c21 := of_decide_eq_false c21 | replace c21 := sbeq_f c21 | replace c21 := sbne_f c21 | replace c21 := ibeq_f c21 | replace c21 := ibne_f c21 | replace c21 := ndec_f c21 | replace c21 := not_f c21 | skip)
        all_goals (refine k_exit rfl ?_)
        all_goals (refine k_seq ?_)
        all_goals refine k_region ?_
        all_goals refine j_move ?_
        all_goals refine j_assignL (fun _ => ?_)
        all_goals refine l_nil ?_
        all_goals
          refine k_retvF Try.results54 (.tmp (by conv => { lhs; whnf }) .nil) (fun w hw => ?_)
          have e : z.2.2.1 = ofL l := by
            rw [List.drop_eq_nil_of_le (by omega), show lastsL [] = [] from rfl, List.append_nil] at q3
            rw [q3]
            exact lasts_of (SR.ws (by rw [hl14]; exact h14.1)) h14.2.stb
          rw [← e]
          exact ⟨(z.2.1, z.2.2.2), rfl, q2, hw.finH⟩
end
end Go.Proofs.Ythmagkjcangnfaa
