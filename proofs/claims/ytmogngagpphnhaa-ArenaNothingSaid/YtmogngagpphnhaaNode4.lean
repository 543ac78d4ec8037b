/- node.Valid. -/
import Derived.Test.YtmogngagpphnhaaNode1
import Derived.Test.YtmogngagpphnhaaNode2
import Derived.Test.YtmogngagpphnhaaSlices2
set_option linter.unusedSimpArgs false
set_option linter.unusedVariables false
namespace Go.Proofs.Ytmogngagpphnhaa
open Go.RowKit Go.Ct

theorem ones_c (b : Int) (w : World) : Calls Try.prog 141 #[.int .u64 b] w fun e w' => e = .returned (.int .i64 (rOnes b)) ∧ St w [] [] w' := by
  refine enter Try.func141 Try.ntmps141 rfl rfl (SF.s0 w) ?_
  simp only [mkS]
  all_goals (refine k_seq ?_)
  all_goals refine k_region ?_
  all_goals refine j_assignL (fun _ => ?_)
  all_goals refine l_nil ?_
  all_goals (refine k_seq ?_)
  all_goals refine k_region ?_
  all_goals refine j_move ?_
  all_goals refine j_shr ?_
  all_goals refine j_and ?_
  all_goals refine j_move ?_
  all_goals refine j_and ?_
  all_goals refine j_add ?_
  all_goals refine j_assignL (fun _ => ?_)
  all_goals refine l_nil ?_
  all_goals (refine k_seq ?_)
  all_goals refine k_region ?_
  all_goals refine j_move ?_
  all_goals refine j_shr ?_
  all_goals refine j_and ?_
  all_goals refine j_move ?_
  all_goals refine j_and ?_
  all_goals refine j_add ?_
  all_goals refine j_assignL (fun _ => ?_)
  all_goals refine l_nil ?_
  all_goals (refine k_seq ?_)
  all_goals refine k_region ?_
  all_goals refine j_move ?_
  all_goals refine j_shr ?_
  all_goals refine j_move ?_
  all_goals refine j_add ?_
  all_goals refine j_and ?_
  all_goals refine j_assignL (fun _ => ?_)
  all_goals refine l_nil ?_
  all_goals (refine k_seq ?_)
  all_goals refine k_region ?_
  all_goals refine j_move ?_
  all_goals refine j_move ?_
  all_goals refine j_shr ?_
  all_goals refine j_add ?_
  all_goals refine j_assignL (fun _ => ?_)
  all_goals refine l_nil ?_
  all_goals (refine k_seq ?_)
  all_goals refine k_region ?_
  all_goals refine j_move ?_
  all_goals refine j_move ?_
  all_goals refine j_shr ?_
  all_goals refine j_add ?_
  all_goals refine j_assignL (fun _ => ?_)
  all_goals refine l_nil ?_
  all_goals (refine k_seq ?_)
  all_goals refine k_region ?_
  all_goals refine j_move ?_
  all_goals refine j_move ?_
  all_goals refine j_shr ?_
  all_goals refine j_add ?_
  all_goals refine j_assignL (fun _ => ?_)
  all_goals refine l_nil ?_
  all_goals (refine k_seq ?_)
  all_goals refine k_region ?_
  all_goals refine j_move ?_
  all_goals refine j_convert ?_
  all_goals refine j_and ?_
  all_goals refine j_assignL (fun _ => ?_)
  all_goals refine l_nil ?_
  all_goals
    refine k_retvF Try.results141 (.tmp (by conv => { lhs; whnf }) .nil) (fun w hw => ?_)
    exact ⟨rfl, hw.done⟩
theorem count_c (b : Int) (w : World) : Calls Try.prog 124 #[.int .u64 b] w fun e w' => e = .returned (.int .i64 (rOnes b)) ∧ St w [] [] w' := by
  refine enter Try.func124 Try.ntmps124 rfl rfl (SF.s0 w) ?_
  simp only [mkS]
  all_goals (refine k_seq ?_)
  all_goals refine k_region ?_
  all_goals refine j_assignL (fun _ => ?_)
  all_goals refine l_nil ?_
  all_goals (refine k_seq ?_)
  all_goals refine k_region ?_
  all_goals refine j_move ?_
  all_goals (refine j_own (cV (hc := fun w1 hw => ones_c b w1)) (fun x4 => ?_); try (refine l_fact (fun h4 => ?_)))
  all_goals refine j_assignL (fun _ => ?_)
  all_goals refine l_nil ?_
  all_goals
    refine k_retvF Try.results124 (.tmp (by conv => { lhs; whnf }) .nil) (fun w hw => ?_)
    exact ⟨rfl, hw.done⟩
theorem ndValid_c {n : Nd} {xs : List Int} {ys : List Pr} {w : World} (hr : Rep w n xs ys) :
    Calls Try.prog 99 #[n.v] w fun e w' => ∃ r : Bool, e = .returned (.bool r) ∧ (r = true ↔ NdValid n xs ys) ∧ St w [] [] w' := by
  have e1 := hr.brN; have e2 := hr.prN
  refine enter Try.func99 Try.ntmps99 rfl rfl (SF.s0 w) ?_
  simp only [mkS]
  all_goals (refine k_seq ?_)
  all_goals refine k_region ?_
  all_goals refine j_box (fun x1 => ?_)
  all_goals refine j_assignL (fun _ => ?_)
  all_goals refine l_nil ?_
  all_goals (refine k_seq ?_)
  all_goals (refine k_seq ?_)
  all_goals refine k_drawF (.one 0 [] (.one 1 [] (.one 2 [0] (.one 3 [] (.one 4 [] .nil))))) ?_
  all_goals (refine r_load (i := 0) ?_)
  all_goals (refine r_load (i := 1) ?_)
  all_goals ((refine r_own (i := 2) (hq := (cV (hc := fun w1 hw => own_c n w1))) (hfire := (fun _ => by first | (refine FireAll.cons (by first | exact a_load | exact a_un) ?_; exact FireAll.nil) | (refine fireall_fact ?_; refine FireAll.cons (by first | exact a_load | exact a_un) ?_; exact FireAll.nil))) (h := fun x5 => ?_); try (refine r_fact (fun h5 => ?_))))
  all_goals ((refine r_own (i := 3) (hq := (c0 (V := .bool) (hc := fun w1 hw => ndEq_c (hr.keep0 hw.st) (hr.keep0 hw.st).own))) (hfire := (fun _ => .nil)) (h := fun x6 => ?_); try (refine r_fact (fun h6 => ?_))))
  all_goals (refine r_not (i := 4) ?_)
  all_goals refine r_fin ?_
  all_goals
    refine k_cond (by exact rfl) (fun c7 => ?_) (fun c7 => ?_)
    · try (exact absurd c7 (by decide))
      all_goals (first | replace c7 := of_decide_eq_true c7 | replace c7 := sbeq_t c7 | replace c7 := sbne_t c7 | replace c7 := ibeq_t c7 | replace c7 := ibne_t c7 | replace c7 := ndec_t c7 | replace c7 := not_t c7 | skip)
      all_goals (refine k_seq ?_)
      all_goals refine k_region ?_
      all_goals refine j_assignL (fun _ => ?_)
      all_goals refine l_nil ?_
      all_goals
        refine k_retvF Try.results99 (.tmp (by conv => { lhs; whnf }) .nil) (fun w hw => ?_)
        refine ⟨_, rfl, ?_, hw.done⟩
        first | (simp_all [NdValid]; done) | (simp_all [NdValid]; omega)
    · try (exact absurd c7 (by decide))
      all_goals (first | replace c7 := of_decide_eq_false c7 | replace c7 := sbeq_f c7 | replace c7 := sbne_f c7 | replace c7 := ibeq_f c7 | replace c7 := ibne_f c7 | replace c7 := ndec_f c7 | replace c7 := not_f c7 | skip)
      all_goals (refine k_skip ?_)
      all_goals (refine k_seq ?_)
      all_goals (refine k_seq ?_)
      all_goals refine k_region ?_
      all_goals refine j_fieldAddr ?_
      all_goals refine j_load ?_
      all_goals refine j_lss ?_
      all_goals refine j_move ?_
      all_goals (first | refine j_un ?_ | (refine j_yes ?_; refine j_fieldAddr ?_) | (refine l_case (g := 11) (by exact rfl) (fun g11 => ?_) (fun g11 => ?_) <;> (first | replace g11 := of_decide_eq_true g11 | replace g11 := of_decide_eq_false g11 | replace g11 := ndec_t g11 | replace g11 := ndec_f g11 | replace g11 := ibne_t g11 | replace g11 := ibne_f g11 | replace g11 := ibeq_t g11 | replace g11 := ibeq_f g11 | replace g11 := not_t g11 | replace g11 := not_f g11 | skip) <;> (first | refine j_un ?_ | (refine j_yes ?_; refine j_fieldAddr ?_))))
      all_goals (first | refine j_un ?_ | (refine j_yes ?_; refine j_load ?_))
      all_goals (first | refine j_un ?_ | (refine j_yes ?_; refine j_lss ?_))
      all_goals refine j_pick ?_
      all_goals refine j_move ?_
      all_goals (first | refine j_un ?_ | (refine j_yes ?_; refine j_fieldAddr ?_) | (refine l_case (g := 16) (by exact rfl) (fun g16 => ?_) (fun g16 => ?_) <;> (first | replace g16 := of_decide_eq_true g16 | replace g16 := of_decide_eq_false g16 | replace g16 := ndec_t g16 | replace g16 := ndec_f g16 | replace g16 := ibne_t g16 | replace g16 := ibne_f g16 | replace g16 := ibeq_t g16 | replace g16 := ibeq_f g16 | replace g16 := not_t g16 | replace g16 := not_f g16 | skip) <;> (first | refine j_un ?_ | (refine j_yes ?_; refine j_fieldAddr ?_))))
      all_goals (first | refine j_un ?_ | (refine j_yes ?_; refine j_load ?_))
      all_goals (first | refine j_un ?_ | (refine j_yes ?_; refine j_lss ?_))
      all_goals refine j_pick ?_
      all_goals refine l_nil ?_
      all_goals
        refine k_cond (by exact rfl) (fun c20 => ?_) (fun c20 => ?_)
        · try (exact absurd c20 (by decide))
          all_goals (first | replace c20 := of_decide_eq_true c20 | replace c20 := sbeq_t c20 | replace c20 := sbne_t c20 | replace c20 := ibeq_t c20 | replace c20 := ibne_t c20 | replace c20 := ndec_t c20 | replace c20 := not_t c20 | skip)
          all_goals (refine k_seq ?_)
          all_goals refine k_region ?_
          all_goals refine j_assignL (fun _ => ?_)
          all_goals refine l_nil ?_
          all_goals
            refine k_retvF Try.results99 (.tmp (by conv => { lhs; whnf }) .nil) (fun w hw => ?_)
            refine ⟨_, rfl, ?_, hw.done⟩
            first | (simp_all [NdValid]; done) | (simp_all [NdValid]; omega)
        · try (exact absurd c20 (by decide))
          all_goals (first | replace c20 := of_decide_eq_false c20 | replace c20 := sbeq_f c20 | replace c20 := sbne_f c20 | replace c20 := ibeq_f c20 | replace c20 := ibne_f c20 | replace c20 := ndec_f c20 | replace c20 := not_f c20 | skip)
          all_goals (refine k_skip ?_)
          all_goals (refine k_seq ?_)
          all_goals (refine k_seq ?_)
          all_goals refine k_region ?_
          all_goals refine j_fieldAddr ?_
          all_goals refine j_load ?_
          all_goals refine l_nil ?_
          all_goals (refine k_block ?_)
          all_goals (refine k_seq ?_)
          all_goals (refine k_block ?_)
          all_goals (refine k_seq ?_)
          all_goals (refine k_block ?_)
          all_goals (refine k_seq ?_)
          all_goals (refine k_block ?_)
          all_goals (refine k_seq ?_)
          all_goals (refine k_block ?_)
          all_goals (refine k_block ?_)
          all_goals (refine k_seq ?_)
          all_goals (refine k_block ?_)
          all_goals (refine k_seq ?_)
          all_goals (refine k_block ?_)
          all_goals (refine k_seq ?_)
          all_goals (refine k_block ?_)
          all_goals (refine k_seq ?_)
          all_goals (refine k_seq ?_)
          all_goals (refine k_seq ?_)
          all_goals refine k_region ?_
          all_goals refine j_eql ?_
          all_goals refine j_assignL (fun _ => ?_)
          all_goals refine l_nil ?_
          all_goals
            refine k_cond (by exact rfl) (fun c23 => ?_) (fun c23 => ?_)
            · try (exact absurd c23 (by decide))
              all_goals (first | replace c23 := of_decide_eq_true c23 | replace c23 := sbeq_t c23 | replace c23 := sbne_t c23 | replace c23 := ibeq_t c23 | replace c23 := ibne_t c23 | replace c23 := ndec_t c23 | replace c23 := not_t c23 | skip)
              all_goals (refine k_exit rfl ?_)
              all_goals (refine k_seq ?_)
              all_goals (refine k_seq ?_)
              all_goals refine k_region ?_
              all_goals refine j_assignL (fun _ => ?_)
              all_goals refine l_nil ?_
              all_goals
                refine k_retvF Try.results99 (.tmp (by conv => { lhs; whnf }) .nil) (fun w hw => ?_)
                refine ⟨_, rfl, ?_, hw.done⟩
                first | (simp_all [NdValid]; done) | (simp_all [NdValid]; omega)
            · try (exact absurd c23 (by decide))
              all_goals (first | replace c23 := of_decide_eq_false c23 | replace c23 := sbeq_f c23 | replace c23 := sbne_f c23 | replace c23 := ibeq_f c23 | replace c23 := ibne_f c23 | replace c23 := ndec_f c23 | replace c23 := not_f c23 | skip)
              all_goals (refine k_skip ?_)
              all_goals (refine k_seq ?_)
              all_goals (refine k_seq ?_)
              all_goals refine k_region ?_
              all_goals refine j_eql ?_
              all_goals refine j_assignL (fun _ => ?_)
              all_goals refine l_nil ?_
              all_goals
                refine k_cond (by exact rfl) (fun c25 => ?_) (fun c25 => ?_)
                · try (exact absurd c25 (by decide))
                  all_goals (first | replace c25 := of_decide_eq_true c25 | replace c25 := sbeq_t c25 | replace c25 := sbne_t c25 | replace c25 := ibeq_t c25 | replace c25 := ibne_t c25 | replace c25 := ndec_t c25 | replace c25 := not_t c25 | skip)
                  all_goals (refine k_exit rfl ?_)
                  all_goals (refine k_seq ?_)
                  all_goals (refine k_seq ?_)
                  all_goals refine k_region ?_
                  all_goals refine j_fieldAddr ?_
                  all_goals refine j_load ?_
                  all_goals refine j_geq ?_
                  all_goals refine j_assignL (fun _ => ?_)
                  all_goals refine l_nil ?_
                  all_goals
                    refine k_retvF Try.results99 (.tmp (by conv => { lhs; whnf }) .nil) (fun w hw => ?_)
                    refine ⟨_, rfl, ?_, hw.done⟩
                    first | (simp_all [NdValid]; done) | (simp_all [NdValid]; omega)
                · try (exact absurd c25 (by decide))
                  all_goals (first | replace c25 := of_decide_eq_false c25 | replace c25 := sbeq_f c25 | replace c25 := sbne_f c25 | replace c25 := ibeq_f c25 | replace c25 := ibne_f c25 | replace c25 := ndec_f c25 | replace c25 := not_f c25 | skip)
                  all_goals (refine k_skip ?_)
                  all_goals (refine k_seq ?_)
                  all_goals (refine k_seq ?_)
                  all_goals refine k_region ?_
                  all_goals refine j_eql ?_
                  all_goals refine j_assignL (fun _ => ?_)
                  all_goals refine l_nil ?_
                  all_goals
                    refine k_cond (by exact rfl) (fun c27 => ?_) (fun c27 => ?_)
                    · try (exact absurd c27 (by decide))
                      all_goals (first | replace c27 := of_decide_eq_true c27 | replace c27 := sbeq_t c27 | replace c27 := sbne_t c27 | replace c27 := ibeq_t c27 | replace c27 := ibne_t c27 | replace c27 := ndec_t c27 | replace c27 := not_t c27 | skip)
                      all_goals (refine k_exit rfl ?_)
                      all_goals (refine k_seq ?_)
                      all_goals (refine k_seq ?_)
                      all_goals refine k_drawF (.one 0 [] (.one 1 [] (.one 2 [] (.one 3 [] (.one 4 [] (.one 5 [1] (.one 6 [] (.one 7 [] (.one 8 [] (.one 9 [] (.one 10 [] (.one 11 [] (.one 12 [] .nil))))))))))))) ?_
                      all_goals (refine r_fieldAddr (i := 0) ?_)
                      all_goals (refine r_load (i := 1) ?_)
                      all_goals (refine r_len (i := 2) ?_)
                      all_goals (refine r_fieldAddr (i := 3) ?_)
                      all_goals (refine r_load (i := 4) ?_)
                      all_goals ((refine r_own (i := 5) (hq := (cV (hc := fun w1 hw => count_c n.bm w1))) (hfire := (fun _ => by first | (refine FireAll.cons (by first | exact a_load | exact a_un) ?_; exact FireAll.nil) | (refine fireall_fact ?_; refine FireAll.cons (by first | exact a_load | exact a_un) ?_; exact FireAll.nil))) (h := fun x47 => ?_); try (refine r_fact (fun h47 => ?_))))
                      all_goals (refine r_eql (i := 6) ?_)
                      all_goals (refine r_move (i := 7) ?_)
                      all_goals (first | refine r_un (i := 8) ?_ | (refine r_fieldAddr (i := 8) ?_) | (refine r_case (g := 49) (by exact rfl) (fun g49 => ?_) (fun g49 => ?_) <;> (first | replace g49 := of_decide_eq_true g49 | replace g49 := of_decide_eq_false g49 | replace g49 := ndec_t g49 | replace g49 := ndec_f g49 | replace g49 := ibne_t g49 | replace g49 := ibne_f g49 | replace g49 := ibeq_t g49 | replace g49 := ibeq_f g49 | replace g49 := not_t g49 | replace g49 := not_f g49 | skip) <;> (first | refine r_un (i := 8) ?_ | (refine r_fieldAddr (i := 8) ?_))))
                      all_goals (first | refine r_un (i := 9) ?_ | (refine r_load (i := 9) ?_) | (refine r_case (g := 49) (by exact rfl) (fun g49 => ?_) (fun g49 => ?_) <;> (first | replace g49 := of_decide_eq_true g49 | replace g49 := of_decide_eq_false g49 | replace g49 := ndec_t g49 | replace g49 := ndec_f g49 | replace g49 := ibne_t g49 | replace g49 := ibne_f g49 | replace g49 := ibeq_t g49 | replace g49 := ibeq_f g49 | replace g49 := not_t g49 | replace g49 := not_f g49 | skip) <;> (first | refine r_un (i := 9) ?_ | (refine r_load (i := 9) ?_))))
                      all_goals (first | refine r_un (i := 10) ?_ | ((refine r_own (i := 10) (hq := (c0 (V := .bool) (hc := fun w1 hw => by rw [e1]; exact allNodes_c (hr.br.keep0 hw.st) hr.brS))) (hfire := (fun _ => .nil)) (h := fun x52 => ?_); try (refine r_fact (fun h52 => ?_)))) | (refine r_case (g := 49) (by exact rfl) (fun g49 => ?_) (fun g49 => ?_) <;> (first | replace g49 := of_decide_eq_true g49 | replace g49 := of_decide_eq_false g49 | replace g49 := ndec_t g49 | replace g49 := ndec_f g49 | replace g49 := ibne_t g49 | replace g49 := ibne_f g49 | replace g49 := ibeq_t g49 | replace g49 := ibeq_f g49 | replace g49 := not_t g49 | replace g49 := not_f g49 | skip) <;> (first | refine r_un (i := 10) ?_ | ((refine r_own (i := 10) (hq := (c0 (V := .bool) (hc := fun w1 hw => by rw [e1]; exact allNodes_c (hr.br.keep0 hw.st) hr.brS))) (hfire := (fun _ => .nil)) (h := fun x52 => ?_); try (refine r_fact (fun h52 => ?_)))))))
                      all_goals (refine r_pick (i := 11) ?_)
                      all_goals (refine r_assignL (i := 12) (hfire := (fun _ => .nil)) (h := fun _ => ?_))
                      all_goals refine r_fin ?_
                      all_goals
                        refine k_retvF Try.results99 (.tmp (by conv => { lhs; whnf }) .nil) (fun w hw => ?_)
                        refine ⟨_, rfl, ?_, hw.done⟩
                        first | (simp_all [NdValid]; done) | (simp_all [NdValid]; omega)
                    · try (exact absurd c27 (by decide))
                      all_goals (first | replace c27 := of_decide_eq_false c27 | replace c27 := sbeq_f c27 | replace c27 := sbne_f c27 | replace c27 := ibeq_f c27 | replace c27 := ibne_f c27 | replace c27 := ndec_f c27 | replace c27 := not_f c27 | skip)
                      all_goals (refine k_skip ?_)
                      all_goals (refine k_seq ?_)
                      all_goals (refine k_seq ?_)
                      all_goals refine k_region ?_
                      all_goals refine j_eql ?_
                      all_goals refine j_assignL (fun _ => ?_)
                      all_goals refine l_nil ?_
                      all_goals
                        refine k_cond (by exact rfl) (fun c29 => ?_) (fun c29 => ?_)
                        · try (exact absurd c29 (by decide))
                          all_goals (first | replace c29 := of_decide_eq_true c29 | replace c29 := sbeq_t c29 | replace c29 := sbne_t c29 | replace c29 := ibeq_t c29 | replace c29 := ibne_t c29 | replace c29 := ndec_t c29 | replace c29 := not_t c29 | skip)
                          all_goals (refine k_exit rfl ?_)
                          all_goals (refine k_blk ?_)
                          all_goals (refine k_seq ?_)
                          all_goals (refine k_seq ?_)
                          all_goals refine k_region ?_
                          all_goals refine j_fieldAddr ?_
                          all_goals refine j_load ?_
                          all_goals refine j_lenStr ?_
                          all_goals refine j_leq ?_
                          all_goals refine j_assignL (fun _ => ?_)
                          all_goals refine l_nil ?_
                          all_goals
                            refine k_retvF Try.results99 (.tmp (by conv => { lhs; whnf }) .nil) (fun w hw => ?_)
                            refine ⟨_, rfl, ?_, hw.done⟩
                            first | (simp_all [NdValid]; done) | (simp_all [NdValid]; omega)
                        · try (exact absurd c29 (by decide))
                          all_goals (first | replace c29 := of_decide_eq_false c29 | replace c29 := sbeq_f c29 | replace c29 := sbne_f c29 | replace c29 := ibeq_f c29 | replace c29 := ibne_f c29 | replace c29 := ndec_f c29 | replace c29 := not_f c29 | skip)
                          all_goals (refine k_skip ?_)
                          all_goals (refine k_seq ?_)
                          all_goals (refine k_seq ?_)
                          all_goals refine k_region ?_
                          all_goals refine j_eql ?_
                          all_goals refine j_assignL (fun _ => ?_)
                          all_goals refine l_nil ?_
                          all_goals
                            refine k_cond (by exact rfl) (fun c31 => ?_) (fun c31 => ?_)
                            · try (exact absurd c31 (by decide))
                              all_goals (first | replace c31 := of_decide_eq_true c31 | replace c31 := sbeq_t c31 | replace c31 := sbne_t c31 | replace c31 := ibeq_t c31 | replace c31 := ibne_t c31 | replace c31 := ndec_t c31 | replace c31 := not_t c31 | skip)
                              all_goals (refine k_exit rfl ?_)
                              all_goals (refine k_seq ?_)
                              all_goals (refine k_seq ?_)
                              all_goals refine k_region ?_
                              all_goals refine j_fieldAddr ?_
                              all_goals refine j_load ?_
                              all_goals refine j_lenStr ?_
                              all_goals refine j_leq ?_
                              all_goals refine j_assignL (fun _ => ?_)
                              all_goals refine l_nil ?_
                              all_goals
                                refine k_retvF Try.results99 (.tmp (by conv => { lhs; whnf }) .nil) (fun w hw => ?_)
                                refine ⟨_, rfl, ?_, hw.done⟩
                                first | (simp_all [NdValid]; done) | (simp_all [NdValid]; omega)
                            · try (exact absurd c31 (by decide))
                              all_goals (first | replace c31 := of_decide_eq_false c31 | replace c31 := sbeq_f c31 | replace c31 := sbne_f c31 | replace c31 := ibeq_f c31 | replace c31 := ibne_f c31 | replace c31 := ndec_f c31 | replace c31 := not_f c31 | skip)
                              all_goals (refine k_skip ?_)
                              all_goals (refine k_seq ?_)
                              all_goals (refine k_seq ?_)
                              all_goals refine k_region ?_
                              all_goals refine j_eql ?_
                              all_goals refine j_assignL (fun _ => ?_)
                              all_goals refine l_nil ?_
                              all_goals
                                refine k_cond (by exact rfl) (fun c33 => ?_) (fun c33 => ?_)
                                · try (exact absurd c33 (by decide))
                                  all_goals (first | replace c33 := of_decide_eq_true c33 | replace c33 := sbeq_t c33 | replace c33 := sbne_t c33 | replace c33 := ibeq_t c33 | replace c33 := ibne_t c33 | replace c33 := ndec_t c33 | replace c33 := not_t c33 | skip)
                                  all_goals (refine k_exit rfl ?_)
                                  all_goals (refine k_seq ?_)
                                  all_goals (refine k_seq ?_)
                                  all_goals refine k_region ?_
                                  all_goals refine j_fieldAddr ?_
                                  all_goals refine j_load ?_
                                  all_goals refine j_len ?_
                                  all_goals refine j_geq ?_
                                  all_goals refine j_move ?_
                                  all_goals (first | refine j_un ?_ | (refine j_yes ?_; refine j_fieldAddr ?_) | (refine l_case (g := 62) (by exact rfl) (fun g62 => ?_) (fun g62 => ?_) <;> (first | replace g62 := of_decide_eq_true g62 | replace g62 := of_decide_eq_false g62 | replace g62 := ndec_t g62 | replace g62 := ndec_f g62 | replace g62 := ibne_t g62 | replace g62 := ibne_f g62 | replace g62 := ibeq_t g62 | replace g62 := ibeq_f g62 | replace g62 := not_t g62 | replace g62 := not_f g62 | skip) <;> (first | refine j_un ?_ | (refine j_yes ?_; refine j_fieldAddr ?_))))
                                  all_goals (first | refine j_un ?_ | (refine j_yes ?_; refine j_load ?_))
                                  all_goals (first | refine j_un ?_ | (refine j_yes ?_; (refine j_own (c0 (V := .bool) (hc := fun w1 hw => by rw [e2]; exact prValid_c (hr.pr.keep0 hw.st) hr.prS)) (fun x65 => ?_); try (refine l_fact (fun h65 => ?_)))))
                                  all_goals refine j_pick ?_
                                  all_goals refine j_move ?_
                                  all_goals (first | refine j_un ?_ | (refine j_yes ?_; refine j_fieldAddr ?_) | (refine l_case (g := 67) (by exact rfl) (fun g67 => ?_) (fun g67 => ?_) <;> (first | replace g67 := of_decide_eq_true g67 | replace g67 := of_decide_eq_false g67 | replace g67 := ndec_t g67 | replace g67 := ndec_f g67 | replace g67 := ibne_t g67 | replace g67 := ibne_f g67 | replace g67 := ibeq_t g67 | replace g67 := ibeq_f g67 | replace g67 := not_t g67 | replace g67 := not_f g67 | skip) <;> (first | refine j_un ?_ | (refine j_yes ?_; refine j_fieldAddr ?_))))
                                  all_goals (first | refine j_un ?_ | (refine j_yes ?_; refine j_load ?_))
                                  all_goals (first | refine j_un ?_ | (refine j_yes ?_; (refine j_own (c0 (V := .bool) (hc := fun w1 hw => by rw [e2]; exact shortKeys_c (hr.pr.keep0 hw.st) hr.prS)) (fun x70 => ?_); try (refine l_fact (fun h70 => ?_)))))
                                  all_goals refine j_pick ?_
                                  all_goals refine j_assignL (fun _ => ?_)
                                  all_goals refine l_nil ?_
                                  all_goals
                                    refine k_retvF Try.results99 (.tmp (by conv => { lhs; whnf }) .nil) (fun w hw => ?_)
                                    refine ⟨_, rfl, ?_, hw.done⟩
                                    first | (simp_all [NdValid]; done) | (simp_all [NdValid]; omega)
                                · try (exact absurd c33 (by decide))
                                  all_goals (first | replace c33 := of_decide_eq_false c33 | replace c33 := sbeq_f c33 | replace c33 := sbne_f c33 | replace c33 := ibeq_f c33 | replace c33 := ibne_f c33 | replace c33 := ndec_f c33 | replace c33 := not_f c33 | skip)
                                  all_goals (refine k_skip ?_)
                                  all_goals (refine k_seq ?_)
                                  all_goals (refine k_seq ?_)
                                  all_goals refine k_region ?_
                                  all_goals refine j_eql ?_
                                  all_goals refine j_assignL (fun _ => ?_)
                                  all_goals refine l_nil ?_
                                  all_goals
                                    refine k_cond (by exact rfl) (fun c35 => ?_) (fun c35 => ?_)
                                    · try (exact absurd c35 (by decide))
                                      all_goals (first | replace c35 := of_decide_eq_true c35 | replace c35 := sbeq_t c35 | replace c35 := sbne_t c35 | replace c35 := ibeq_t c35 | replace c35 := ibne_t c35 | replace c35 := ndec_t c35 | replace c35 := not_t c35 | skip)
                                      all_goals (refine k_exit rfl ?_)
                                      all_goals (refine k_seq ?_)
                                      all_goals refine k_region ?_
                                      all_goals refine j_fieldAddr ?_
                                      all_goals refine j_load ?_
                                      all_goals refine j_lss ?_
                                      all_goals refine j_move ?_
                                      all_goals (first | refine j_un ?_ | (refine j_yes ?_; refine j_fieldAddr ?_) | (refine l_case (g := 75) (by exact rfl) (fun g75 => ?_) (fun g75 => ?_) <;> (first | replace g75 := of_decide_eq_true g75 | replace g75 := of_decide_eq_false g75 | replace g75 := ndec_t g75 | replace g75 := ndec_f g75 | replace g75 := ibne_t g75 | replace g75 := ibne_f g75 | replace g75 := ibeq_t g75 | replace g75 := ibeq_f g75 | replace g75 := not_t g75 | replace g75 := not_f g75 | skip) <;> (first | refine j_un ?_ | (refine j_yes ?_; refine j_fieldAddr ?_))))
                                      all_goals (first | refine j_un ?_ | (refine j_yes ?_; refine j_load ?_))
                                      all_goals (first | refine j_un ?_ | (refine j_yes ?_; refine j_lss ?_))
                                      all_goals refine j_pick ?_
                                      all_goals refine l_nil ?_
                                      all_goals
                                        refine k_cond (by exact rfl) (fun c79 => ?_) (fun c79 => ?_)
                                        · try (exact absurd c79 (by decide))
                                          all_goals (first | replace c79 := of_decide_eq_true c79 | replace c79 := sbeq_t c79 | replace c79 := sbne_t c79 | replace c79 := ibeq_t c79 | replace c79 := ibne_t c79 | replace c79 := ndec_t c79 | replace c79 := not_t c79 | skip)
                                          all_goals (refine k_seq ?_)
                                          all_goals refine k_region ?_
                                          all_goals refine j_assignL (fun _ => ?_)
                                          all_goals refine l_nil ?_
                                          all_goals
                                            refine k_retvF Try.results99 (.tmp (by conv => { lhs; whnf }) .nil) (fun w hw => ?_)
                                            refine ⟨_, rfl, ?_, hw.done⟩
                                            first | (simp_all [NdValid]; done) | (simp_all [NdValid]; omega)
                                        · try (exact absurd c79 (by decide))
                                          all_goals (first | replace c79 := of_decide_eq_false c79 | replace c79 := sbeq_f c79 | replace c79 := sbne_f c79 | replace c79 := ibeq_f c79 | replace c79 := ibne_f c79 | replace c79 := ndec_f c79 | replace c79 := not_f c79 | skip)
                                          all_goals (refine k_skip ?_)
                                          all_goals (refine k_blk ?_)
                                          all_goals (refine k_seq ?_)
                                          all_goals (refine k_seq ?_)
                                          all_goals refine k_region ?_
                                          all_goals refine j_fieldAddr ?_
                                          all_goals refine j_load ?_
                                          all_goals refine j_geq ?_
                                          all_goals refine j_assignL (fun _ => ?_)
                                          all_goals refine l_nil ?_
                                          all_goals
                                            refine k_retvF Try.results99 (.tmp (by conv => { lhs; whnf }) .nil) (fun w hw => ?_)
                                            refine ⟨_, rfl, ?_, hw.done⟩
                                            first | (simp_all [NdValid]; done) | (simp_all [NdValid]; omega)
                                    · try (exact absurd c35 (by decide))
                                      all_goals (first | replace c35 := of_decide_eq_false c35 | replace c35 := sbeq_f c35 | replace c35 := sbne_f c35 | replace c35 := ibeq_f c35 | replace c35 := ibne_f c35 | replace c35 := ndec_f c35 | replace c35 := not_f c35 | skip)
                                      all_goals (refine k_skip ?_)
                                      all_goals (refine k_seq ?_)
                                      all_goals refine k_region ?_
                                      all_goals refine j_eql ?_
                                      all_goals refine j_assignL (fun _ => ?_)
                                      all_goals refine l_nil ?_
                                      all_goals
                                        refine k_cond (by exact rfl) (fun c37 => ?_) (fun c37 => ?_)
                                        · try (exact absurd c37 (by decide))
                                          all_goals (first | replace c37 := of_decide_eq_true c37 | replace c37 := sbeq_t c37 | replace c37 := sbne_t c37 | replace c37 := ibeq_t c37 | replace c37 := ibne_t c37 | replace c37 := ndec_t c37 | replace c37 := not_t c37 | skip)
                                          all_goals (refine k_exit rfl ?_)
                                          all_goals (refine k_seq ?_)
                                          all_goals (refine k_seq ?_)
                                          all_goals refine k_region ?_
                                          all_goals refine j_fieldAddr ?_
                                          all_goals refine j_load ?_
                                          all_goals refine j_geq ?_
                                          all_goals refine j_assignL (fun _ => ?_)
                                          all_goals refine l_nil ?_
                                          all_goals
                                            refine k_retvF Try.results99 (.tmp (by conv => { lhs; whnf }) .nil) (fun w hw => ?_)
                                            refine ⟨_, rfl, ?_, hw.done⟩
                                            first | (simp_all [NdValid]; done) | (simp_all [NdValid]; omega)
                                        · try (exact absurd c37 (by decide))
                                          all_goals (first | replace c37 := of_decide_eq_false c37 | replace c37 := sbeq_f c37 | replace c37 := sbne_f c37 | replace c37 := ibeq_f c37 | replace c37 := ibne_f c37 | replace c37 := ndec_f c37 | replace c37 := not_f c37 | skip)
                                          all_goals (refine k_skip ?_)
                                          all_goals (refine k_exit rfl ?_)
                                          all_goals (refine k_seq ?_)
                                          all_goals refine k_region ?_
                                          all_goals refine j_assignL (fun _ => ?_)
                                          all_goals refine l_nil ?_
                                          all_goals
                                            refine k_retvF Try.results99 (.tmp (by conv => { lhs; whnf }) .nil) (fun w hw => ?_)
                                            refine ⟨_, rfl, ?_, hw.done⟩
                                            first | (simp_all [NdValid]; done) | (simp_all [NdValid]; omega)
end Go.Proofs.Ytmogngagpphnhaa
