import Derived.Test.YtmogngagpphnhaaSpec
import Derived.Test.YtmogngagpphnhaaAuto
set_option linter.unusedSimpArgs false
set_option linter.unusedVariables false
namespace Go.Proofs.Ytmogngagpphnhaa
open Go.RowKit Go.Ct

theorem own_c (n : Nd) (w : World) : Calls Try.prog 123 #[n.v] w fun e w' => e = .returned n.own.v ∧ St w [] [] w' := by
  refine enter Try.func123 Try.ntmps123 rfl rfl (SF.s0 w) ?_
  simp only [mkS]
  all_goals (refine k_seq ?_)
  all_goals refine k_region ?_
  all_goals refine j_box (fun x1 => ?_)
  all_goals refine j_alloc (fun x2 => ?_)
  all_goals refine l_nil ?_
  all_goals (refine k_seq ?_)
  all_goals refine k_region ?_
  all_goals refine j_fieldAddr ?_
  all_goals refine j_load ?_
  all_goals refine j_build ?_
  all_goals refine j_alloc (fun x3 => ?_)
  all_goals refine j_store (fun _ => ?_)
  all_goals refine l_nil ?_
  all_goals (refine k_seq ?_)
  all_goals (refine k_seq ?_)
  all_goals refine k_region ?_
  all_goals refine j_fieldAddr ?_
  all_goals refine j_load ?_
  all_goals refine l_nil ?_
  all_goals (refine k_block ?_)
  all_goals (refine k_seq ?_)
  all_goals (refine k_block ?_)
  all_goals (refine k_seq ?_)
  all_goals (refine k_block ?_)
  all_goals (refine k_seq ?_)
  all_goals (refine k_block ?_)
  all_goals (refine k_seq ?_)
  all_goals (refine k_block ?_)
  all_goals (refine k_seq ?_)
  all_goals (refine k_block ?_)
  all_goals (refine k_seq ?_)
  all_goals (refine k_block ?_)
  all_goals (refine k_seq ?_)
  all_goals (refine k_block ?_)
  all_goals (refine k_seq ?_)
  all_goals (refine k_seq ?_)
  all_goals (refine k_seq ?_)
  all_goals refine k_region ?_
  all_goals refine j_eql ?_
  all_goals refine j_assignL (fun _ => ?_)
  all_goals refine l_nil ?_
  all_goals
    refine k_cond (by exact rfl) (fun c9 => ?_) (fun c9 => ?_)
    · try (exact absurd c9 (by decide))
      all_goals (first | replace c9 := of_decide_eq_true c9 | replace c9 := sbeq_t c9 | replace c9 := sbne_t c9 | replace c9 := ibeq_t c9 | replace c9 := ibne_t c9 | replace c9 := ndec_t c9 | replace c9 := not_t c9 | skip)
      all_goals (refine k_exit rfl ?_)
      all_goals (refine k_seq ?_)
      all_goals refine k_drawF (.one 0 [] (.one 1 [] (.one 2 [] (.one 3 [] (.one 4 [] (.one 5 [3] (.one 6 [] (.one 7 [] .nil)))))))) ?_
      all_goals (refine r_fieldAddr (i := 0) ?_)
      all_goals (refine r_load (i := 1) ?_)
      all_goals (refine r_fieldAddr (i := 2) ?_)
      all_goals (refine r_load (i := 3) ?_)
      all_goals (refine r_fieldAddr (i := 4) ?_)
      all_goals (refine r_store (i := 5) (hfire := (fun _ => by first | (refine FireAll.cons (by first | exact a_load | exact a_un) ?_; exact FireAll.nil) | (refine fireall_fact ?_; refine FireAll.cons (by first | exact a_load | exact a_un) ?_; exact FireAll.nil))) (h := fun _ => ?_))
      all_goals (refine r_fieldAddr (i := 6) ?_)
      all_goals (refine r_store (i := 7) (hfire := (fun _ => .nil)) (h := fun _ => ?_))
      all_goals refine r_fin ?_
      all_goals (refine k_exit rfl ?_)
      all_goals (refine k_seq ?_)
      all_goals refine k_region ?_
      all_goals refine j_load ?_
      all_goals refine j_store (fun _ => ?_)
      all_goals refine l_nil ?_
      all_goals
        refine k_retvF Try.results123 (.cell (by exact rfl) (by repeat (first | exact At.head | apply At.tail)) (by exact agg_of rfl) .nil) (fun w hw => ?_)
        exact ⟨by simp only [Nd.own, beq_iff_eq, *, if_true, if_false]; rfl, hw.done⟩
    · try (exact absurd c9 (by decide))
      all_goals (first | replace c9 := of_decide_eq_false c9 | replace c9 := sbeq_f c9 | replace c9 := sbne_f c9 | replace c9 := ibeq_f c9 | replace c9 := ibne_f c9 | replace c9 := ndec_f c9 | replace c9 := not_f c9 | skip)
      all_goals (refine k_skip ?_)
      all_goals (refine k_seq ?_)
      all_goals (refine k_seq ?_)
      all_goals refine k_region ?_
      all_goals refine j_eql ?_
      all_goals refine j_assignL (fun _ => ?_)
      all_goals refine l_nil ?_
      all_goals
        refine k_cond (by exact rfl) (fun c11 => ?_) (fun c11 => ?_)
        · try (exact absurd c11 (by decide))
          all_goals (first | replace c11 := of_decide_eq_true c11 | replace c11 := sbeq_t c11 | replace c11 := sbne_t c11 | replace c11 := ibeq_t c11 | replace c11 := ibne_t c11 | replace c11 := ndec_t c11 | replace c11 := not_t c11 | skip)
          all_goals (refine k_exit rfl ?_)
          all_goals (refine k_seq ?_)
          all_goals refine k_drawF (.one 0 [] (.one 1 [] (.one 2 [] (.one 3 [] (.one 4 [] (.one 5 [] (.one 6 [] (.one 7 [3, 5] (.one 8 [] (.one 9 [5] (.one 10 [] (.one 11 [] .nil)))))))))))) ?_
          all_goals (refine r_fieldAddr (i := 0) ?_)
          all_goals (refine r_load (i := 1) ?_)
          all_goals (refine r_fieldAddr (i := 2) ?_)
          all_goals (refine r_load (i := 3) ?_)
          all_goals (refine r_fieldAddr (i := 4) ?_)
          all_goals (refine r_load (i := 5) ?_)
          all_goals (refine r_fieldAddr (i := 6) ?_)
          all_goals (refine r_store (i := 7) (hfire := (fun _ => by first | (refine FireAll.cons (by first | exact a_load | exact a_un) ?_; refine FireAll.cons (by first | exact a_load | exact a_un) ?_; exact FireAll.nil) | (refine fireall_fact ?_; refine FireAll.cons (by first | exact a_load | exact a_un) ?_; refine FireAll.cons (by first | exact a_load | exact a_un) ?_; exact FireAll.nil))) (h := fun _ => ?_))
          all_goals (refine r_fieldAddr (i := 8) ?_)
          all_goals (refine r_store (i := 9) (hfire := (fun _ => by first | (refine FireAll.cons (by first | exact a_load | exact a_un) ?_; exact FireAll.nil) | (refine fireall_fact ?_; refine FireAll.cons (by first | exact a_load | exact a_un) ?_; exact FireAll.nil))) (h := fun _ => ?_))
          all_goals (refine r_fieldAddr (i := 10) ?_)
          all_goals (refine r_store (i := 11) (hfire := (fun _ => .nil)) (h := fun _ => ?_))
          all_goals refine r_fin ?_
          all_goals (refine k_exit rfl ?_)
          all_goals (refine k_seq ?_)
          all_goals refine k_region ?_
          all_goals refine j_load ?_
          all_goals refine j_store (fun _ => ?_)
          all_goals refine l_nil ?_
          all_goals
            refine k_retvF Try.results123 (.cell (by exact rfl) (by repeat (first | exact At.head | apply At.tail)) (by exact agg_of rfl) .nil) (fun w hw => ?_)
            exact ⟨by simp only [Nd.own, beq_iff_eq, *, if_true, if_false]; rfl, hw.done⟩
        · try (exact absurd c11 (by decide))
          all_goals (first | replace c11 := of_decide_eq_false c11 | replace c11 := sbeq_f c11 | replace c11 := sbne_f c11 | replace c11 := ibeq_f c11 | replace c11 := ibne_f c11 | replace c11 := ndec_f c11 | replace c11 := not_f c11 | skip)
          all_goals (refine k_skip ?_)
          all_goals (refine k_seq ?_)
          all_goals (refine k_seq ?_)
          all_goals refine k_region ?_
          all_goals refine j_eql ?_
          all_goals refine j_assignL (fun _ => ?_)
          all_goals refine l_nil ?_
          all_goals
            refine k_cond (by exact rfl) (fun c13 => ?_) (fun c13 => ?_)
            · try (exact absurd c13 (by decide))
              all_goals (first | replace c13 := of_decide_eq_true c13 | replace c13 := sbeq_t c13 | replace c13 := sbne_t c13 | replace c13 := ibeq_t c13 | replace c13 := ibne_t c13 | replace c13 := ndec_t c13 | replace c13 := not_t c13 | skip)
              all_goals (refine k_exit rfl ?_)
              all_goals refine k_region ?_
              all_goals refine j_fieldAddr ?_
              all_goals refine j_load ?_
              all_goals refine j_fieldAddr ?_
              all_goals refine j_store (fun _ => ?_)
              all_goals refine l_nil ?_
              all_goals (refine k_blk ?_)
              all_goals (refine k_seq ?_)
              all_goals refine k_drawF (.one 0 [] (.one 1 [] (.one 2 [] (.one 3 [] (.one 4 [] (.one 5 [] (.one 6 [] (.one 7 [3, 5] (.one 8 [] (.one 9 [5] (.one 10 [] (.one 11 [] .nil)))))))))))) ?_
              all_goals (refine r_fieldAddr (i := 0) ?_)
              all_goals (refine r_load (i := 1) ?_)
              all_goals (refine r_fieldAddr (i := 2) ?_)
              all_goals (refine r_load (i := 3) ?_)
              all_goals (refine r_fieldAddr (i := 4) ?_)
              all_goals (refine r_load (i := 5) ?_)
              all_goals (refine r_fieldAddr (i := 6) ?_)
              all_goals (refine r_store (i := 7) (hfire := (fun _ => by first | (refine FireAll.cons (by first | exact a_load | exact a_un) ?_; refine FireAll.cons (by first | exact a_load | exact a_un) ?_; exact FireAll.nil) | (refine fireall_fact ?_; refine FireAll.cons (by first | exact a_load | exact a_un) ?_; refine FireAll.cons (by first | exact a_load | exact a_un) ?_; exact FireAll.nil))) (h := fun _ => ?_))
              all_goals (refine r_fieldAddr (i := 8) ?_)
              all_goals (refine r_store (i := 9) (hfire := (fun _ => by first | (refine FireAll.cons (by first | exact a_load | exact a_un) ?_; exact FireAll.nil) | (refine fireall_fact ?_; refine FireAll.cons (by first | exact a_load | exact a_un) ?_; exact FireAll.nil))) (h := fun _ => ?_))
              all_goals (refine r_fieldAddr (i := 10) ?_)
              all_goals (refine r_store (i := 11) (hfire := (fun _ => .nil)) (h := fun _ => ?_))
              all_goals refine r_fin ?_
              all_goals (refine k_exit rfl ?_)
              all_goals (refine k_seq ?_)
              all_goals refine k_region ?_
              all_goals refine j_load ?_
              all_goals refine j_store (fun _ => ?_)
              all_goals refine l_nil ?_
              all_goals
                refine k_retvF Try.results123 (.cell (by exact rfl) (by repeat (first | exact At.head | apply At.tail)) (by exact agg_of rfl) .nil) (fun w hw => ?_)
                exact ⟨by simp only [Nd.own, beq_iff_eq, *, if_true, if_false]; rfl, hw.done⟩
            · try (exact absurd c13 (by decide))
              all_goals (first | replace c13 := of_decide_eq_false c13 | replace c13 := sbeq_f c13 | replace c13 := sbne_f c13 | replace c13 := ibeq_f c13 | replace c13 := ibne_f c13 | replace c13 := ndec_f c13 | replace c13 := not_f c13 | skip)
              all_goals (refine k_skip ?_)
              all_goals (refine k_seq ?_)
              all_goals (refine k_seq ?_)
              all_goals refine k_region ?_
              all_goals refine j_eql ?_
              all_goals refine j_assignL (fun _ => ?_)
              all_goals refine l_nil ?_
              all_goals
                refine k_cond (by exact rfl) (fun c15 => ?_) (fun c15 => ?_)
                · try (exact absurd c15 (by decide))
                  all_goals (first | replace c15 := of_decide_eq_true c15 | replace c15 := sbeq_t c15 | replace c15 := sbne_t c15 | replace c15 := ibeq_t c15 | replace c15 := ibne_t c15 | replace c15 := ndec_t c15 | replace c15 := not_t c15 | skip)
                  all_goals (refine k_exit rfl ?_)
                  all_goals (refine k_seq ?_)
                  all_goals refine k_drawF (.one 0 [] (.one 1 [] (.one 2 [] (.one 3 [] (.one 4 [] (.one 5 [] (.one 6 [] (.one 7 [3, 5] (.one 8 [] (.one 9 [5] (.one 10 [] (.one 11 [] .nil)))))))))))) ?_
                  all_goals (refine r_fieldAddr (i := 0) ?_)
                  all_goals (refine r_load (i := 1) ?_)
                  all_goals (refine r_fieldAddr (i := 2) ?_)
                  all_goals (refine r_load (i := 3) ?_)
                  all_goals (refine r_fieldAddr (i := 4) ?_)
                  all_goals (refine r_load (i := 5) ?_)
                  all_goals (refine r_fieldAddr (i := 6) ?_)
                  all_goals (refine r_store (i := 7) (hfire := (fun _ => by first | (refine FireAll.cons (by first | exact a_load | exact a_un) ?_; refine FireAll.cons (by first | exact a_load | exact a_un) ?_; exact FireAll.nil) | (refine fireall_fact ?_; refine FireAll.cons (by first | exact a_load | exact a_un) ?_; refine FireAll.cons (by first | exact a_load | exact a_un) ?_; exact FireAll.nil))) (h := fun _ => ?_))
                  all_goals (refine r_fieldAddr (i := 8) ?_)
                  all_goals (refine r_store (i := 9) (hfire := (fun _ => by first | (refine FireAll.cons (by first | exact a_load | exact a_un) ?_; exact FireAll.nil) | (refine fireall_fact ?_; refine FireAll.cons (by first | exact a_load | exact a_un) ?_; exact FireAll.nil))) (h := fun _ => ?_))
                  all_goals (refine r_fieldAddr (i := 10) ?_)
                  all_goals (refine r_store (i := 11) (hfire := (fun _ => .nil)) (h := fun _ => ?_))
                  all_goals refine r_fin ?_
                  all_goals (refine k_exit rfl ?_)
                  all_goals (refine k_seq ?_)
                  all_goals refine k_region ?_
                  all_goals refine j_load ?_
                  all_goals refine j_store (fun _ => ?_)
                  all_goals refine l_nil ?_
                  all_goals
                    refine k_retvF Try.results123 (.cell (by exact rfl) (by repeat (first | exact At.head | apply At.tail)) (by exact agg_of rfl) .nil) (fun w hw => ?_)
                    exact ⟨by simp only [Nd.own, beq_iff_eq, *, if_true, if_false]; rfl, hw.done⟩
                · try (exact absurd c15 (by decide))
                  all_goals (first | replace c15 := of_decide_eq_false c15 | replace c15 := sbeq_f c15 | replace c15 := sbne_f c15 | replace c15 := ibeq_f c15 | replace c15 := ibne_f c15 | replace c15 := ndec_f c15 | replace c15 := not_f c15 | skip)
                  all_goals (refine k_skip ?_)
                  all_goals (refine k_seq ?_)
                  all_goals (refine k_seq ?_)
                  all_goals refine k_region ?_
                  all_goals refine j_eql ?_
                  all_goals refine j_assignL (fun _ => ?_)
                  all_goals refine l_nil ?_
                  all_goals
                    refine k_cond (by exact rfl) (fun c17 => ?_) (fun c17 => ?_)
                    · try (exact absurd c17 (by decide))
                      all_goals (first | replace c17 := of_decide_eq_true c17 | replace c17 := sbeq_t c17 | replace c17 := sbne_t c17 | replace c17 := ibeq_t c17 | replace c17 := ibne_t c17 | replace c17 := ndec_t c17 | replace c17 := not_t c17 | skip)
                      all_goals (refine k_exit rfl ?_)
                      all_goals (refine k_seq ?_)
                      all_goals refine k_drawF (.one 0 [] (.one 1 [] (.one 2 [] (.one 3 [] (.one 4 [] (.one 5 [] (.one 6 [] (.one 7 [3, 5] (.one 8 [] (.one 9 [5] (.one 10 [] (.one 11 [] .nil)))))))))))) ?_
                      all_goals (refine r_fieldAddr (i := 0) ?_)
                      all_goals (refine r_load (i := 1) ?_)
                      all_goals (refine r_fieldAddr (i := 2) ?_)
                      all_goals (refine r_load (i := 3) ?_)
                      all_goals (refine r_fieldAddr (i := 4) ?_)
                      all_goals (refine r_load (i := 5) ?_)
                      all_goals (refine r_fieldAddr (i := 6) ?_)
                      all_goals (refine r_store (i := 7) (hfire := (fun _ => by first | (refine FireAll.cons (by first | exact a_load | exact a_un) ?_; refine FireAll.cons (by first | exact a_load | exact a_un) ?_; exact FireAll.nil) | (refine fireall_fact ?_; refine FireAll.cons (by first | exact a_load | exact a_un) ?_; refine FireAll.cons (by first | exact a_load | exact a_un) ?_; exact FireAll.nil))) (h := fun _ => ?_))
                      all_goals (refine r_fieldAddr (i := 8) ?_)
                      all_goals (refine r_store (i := 9) (hfire := (fun _ => by first | (refine FireAll.cons (by first | exact a_load | exact a_un) ?_; exact FireAll.nil) | (refine fireall_fact ?_; refine FireAll.cons (by first | exact a_load | exact a_un) ?_; exact FireAll.nil))) (h := fun _ => ?_))
                      all_goals (refine r_fieldAddr (i := 10) ?_)
                      all_goals (refine r_store (i := 11) (hfire := (fun _ => .nil)) (h := fun _ => ?_))
                      all_goals refine r_fin ?_
                      all_goals (refine k_exit rfl ?_)
                      all_goals (refine k_seq ?_)
                      all_goals refine k_region ?_
                      all_goals refine j_load ?_
                      all_goals refine j_store (fun _ => ?_)
                      all_goals refine l_nil ?_
                      all_goals
                        refine k_retvF Try.results123 (.cell (by exact rfl) (by repeat (first | exact At.head | apply At.tail)) (by exact agg_of rfl) .nil) (fun w hw => ?_)
                        exact ⟨by simp only [Nd.own, beq_iff_eq, *, if_true, if_false]; rfl, hw.done⟩
                    · try (exact absurd c17 (by decide))
                      all_goals (first | replace c17 := of_decide_eq_false c17 | replace c17 := sbeq_f c17 | replace c17 := sbne_f c17 | replace c17 := ibeq_f c17 | replace c17 := ibne_f c17 | replace c17 := ndec_f c17 | replace c17 := not_f c17 | skip)
                      all_goals (refine k_skip ?_)
                      all_goals (refine k_seq ?_)
                      all_goals (refine k_seq ?_)
                      all_goals refine k_region ?_
                      all_goals refine j_eql ?_
                      all_goals refine j_assignL (fun _ => ?_)
                      all_goals refine l_nil ?_
                      all_goals
                        refine k_cond (by exact rfl) (fun c19 => ?_) (fun c19 => ?_)
                        · try (exact absurd c19 (by decide))
                          all_goals (first | replace c19 := of_decide_eq_true c19 | replace c19 := sbeq_t c19 | replace c19 := sbne_t c19 | replace c19 := ibeq_t c19 | replace c19 := ibne_t c19 | replace c19 := ndec_t c19 | replace c19 := not_t c19 | skip)
                          all_goals (refine k_exit rfl ?_)
                          all_goals refine k_drawF (.one 0 [] (.one 1 [] (.one 2 [] (.one 3 [] (.one 4 [] (.one 5 [] (.one 6 [] (.one 7 [3, 5] (.one 8 [] (.one 9 [5] (.one 10 [] (.one 11 [] .nil)))))))))))) ?_
                          all_goals (refine r_fieldAddr (i := 0) ?_)
                          all_goals (refine r_load (i := 1) ?_)
                          all_goals (refine r_fieldAddr (i := 2) ?_)
                          all_goals (refine r_load (i := 3) ?_)
                          all_goals (refine r_fieldAddr (i := 4) ?_)
                          all_goals (refine r_load (i := 5) ?_)
                          all_goals (refine r_fieldAddr (i := 6) ?_)
                          all_goals (refine r_store (i := 7) (hfire := (fun _ => by first | (refine FireAll.cons (by first | exact a_load | exact a_un) ?_; refine FireAll.cons (by first | exact a_load | exact a_un) ?_; exact FireAll.nil) | (refine fireall_fact ?_; refine FireAll.cons (by first | exact a_load | exact a_un) ?_; refine FireAll.cons (by first | exact a_load | exact a_un) ?_; exact FireAll.nil))) (h := fun _ => ?_))
                          all_goals (refine r_fieldAddr (i := 8) ?_)
                          all_goals (refine r_store (i := 9) (hfire := (fun _ => by first | (refine FireAll.cons (by first | exact a_load | exact a_un) ?_; exact FireAll.nil) | (refine fireall_fact ?_; refine FireAll.cons (by first | exact a_load | exact a_un) ?_; exact FireAll.nil))) (h := fun _ => ?_))
                          all_goals (refine r_fieldAddr (i := 10) ?_)
                          all_goals (refine r_store (i := 11) (hfire := (fun _ => .nil)) (h := fun _ => ?_))
                          all_goals refine r_fin ?_
                          all_goals (refine k_blk ?_)
                          all_goals (refine k_seq ?_)
                          all_goals refine k_region ?_
                          all_goals refine j_fieldAddr ?_
                          all_goals refine j_load ?_
                          all_goals refine j_fieldAddr ?_
                          all_goals refine j_store (fun _ => ?_)
                          all_goals refine l_nil ?_
                          all_goals (refine k_exit rfl ?_)
                          all_goals (refine k_seq ?_)
                          all_goals refine k_region ?_
                          all_goals refine j_load ?_
                          all_goals refine j_store (fun _ => ?_)
                          all_goals refine l_nil ?_
                          all_goals
                            refine k_retvF Try.results123 (.cell (by exact rfl) (by repeat (first | exact At.head | apply At.tail)) (by exact agg_of rfl) .nil) (fun w hw => ?_)
                            exact ⟨by simp only [Nd.own, beq_iff_eq, *, if_true, if_false]; rfl, hw.done⟩
                        · try (exact absurd c19 (by decide))
                          all_goals (first | replace c19 := of_decide_eq_false c19 | replace c19 := sbeq_f c19 | replace c19 := sbne_f c19 | replace c19 := ibeq_f c19 | replace c19 := ibne_f c19 | replace c19 := ndec_f c19 | replace c19 := not_f c19 | skip)
                          all_goals (refine k_skip ?_)
                          all_goals (refine k_seq ?_)
                          all_goals refine k_region ?_
                          all_goals refine j_eql ?_
                          all_goals refine j_assignL (fun _ => ?_)
                          all_goals refine l_nil ?_
                          all_goals
                            refine k_cond (by exact rfl) (fun c21 => ?_) (fun c21 => ?_)
                            · try (exact absurd c21 (by decide))
                              all_goals (first | replace c21 := of_decide_eq_true c21 | replace c21 := sbeq_t c21 | replace c21 := sbne_t c21 | replace c21 := ibeq_t c21 | replace c21 := ibne_t c21 | replace c21 := ndec_t c21 | replace c21 := not_t c21 | skip)
                              all_goals (refine k_exit rfl ?_)
                              all_goals (refine k_seq ?_)
                              all_goals refine k_region ?_
                              all_goals refine j_fieldAddr ?_
                              all_goals refine j_load ?_
                              all_goals refine j_fieldAddr ?_
                              all_goals refine j_store (fun _ => ?_)
                              all_goals refine l_nil ?_
                              all_goals (refine k_exit rfl ?_)
                              all_goals (refine k_seq ?_)
                              all_goals refine k_region ?_
                              all_goals refine j_load ?_
                              all_goals refine j_store (fun _ => ?_)
                              all_goals refine l_nil ?_
                              all_goals
                                refine k_retvF Try.results123 (.cell (by exact rfl) (by repeat (first | exact At.head | apply At.tail)) (by exact agg_of rfl) .nil) (fun w hw => ?_)
                                exact ⟨by simp only [Nd.own, beq_iff_eq, *, if_true, if_false]; rfl, hw.done⟩
                            · try (exact absurd c21 (by decide))
                              all_goals (first | replace c21 := of_decide_eq_false c21 | replace c21 := sbeq_f c21 | replace c21 := sbne_f c21 | replace c21 := ibeq_f c21 | replace c21 := ibne_f c21 | replace c21 := ndec_f c21 | replace c21 := not_f c21 | skip)
                              all_goals (refine k_skip ?_)
                              all_goals (refine k_exit rfl ?_)
                              all_goals (refine k_seq ?_)
                              all_goals refine k_region ?_
                              all_goals refine j_load ?_
                              all_goals refine j_store (fun _ => ?_)
                              all_goals refine l_nil ?_
                              all_goals
                                refine k_retvF Try.results123 (.cell (by exact rfl) (by repeat (first | exact At.head | apply At.tail)) (by exact agg_of rfl) .nil) (fun w hw => ?_)
                                exact ⟨by simp only [Nd.own, beq_iff_eq, *, if_true, if_false]; rfl, hw.done⟩
end Go.Proofs.Ytmogngagpphnhaa
