/- Lists and the smallest functions of nodes. -/
import Derived.Test.YtpfjjagcmjmfpaaSpec
import Derived.Test.YtpfjjagcmjmfpaaAuto
set_option linter.unusedSimpArgs false
set_option linter.unusedVariables false
namespace Go.Proofs.Ytpfjjagcmjmfpaa
open Go.RowKit Go.Ct

theorem own_c (n : Nd) (w : World) : Calls Try.prog 53 #[n.v] w fun e w' => e = .returned n.own.v ∧ St w [] [] w' := by
  refine enter Try.func53 Try.ntmps53 rfl rfl (SF.s0 w) ?_
  simp only [mkS]
  all_goals (refine k_seq ?_; refine k_region ?_; refine j_box (fun x1 => ?_); refine j_alloc (fun x2 => ?_); refine l_nil ?_; refine k_seq ?_; refine k_region ?_; refine j_fieldAddr ?_; refine j_load ?_; refine j_build ?_; refine j_alloc (fun x3 => ?_); refine j_store (fun _ => ?_); refine l_nil ?_; refine k_seq ?_; refine k_seq ?_; refine k_region ?_; refine j_fieldAddr ?_; refine j_load ?_; refine l_nil ?_; refine k_block ?_; refine k_seq ?_; refine k_block ?_; refine k_seq ?_; refine k_block ?_; refine k_seq ?_; refine k_block ?_; refine k_seq ?_; refine k_block ?_; refine k_seq ?_; refine k_block ?_; refine k_seq ?_; refine k_block ?_; refine k_seq ?_; refine k_block ?_; refine k_seq ?_; refine k_seq ?_; refine k_seq ?_; refine k_region ?_; refine j_eql ?_; refine j_assignL (fun _ => ?_); refine l_nil ?_)
  all_goals
   refine k_if (fun c9 => ?_) (fun c9 => ?_)
   · try (exact absurd c9 (by decide))
     all_goals (revert c9; (first | refine cv1 ?_ | refine cv3 ?_ | refine cv5 ?_ | refine cv7 ?_ | refine cv9 ?_ | refine cvb ?_ | refine cvd ?_ | skip); intro c9)
     all_goals (refine k_exit rfl ?_; refine k_seq ?_; refine k_drawF (.one 0 [] (.one 1 [] (.one 2 [] (.one 3 [] (.one 4 [] (.one 5 [3] (.one 6 [] (.one 7 [] .nil)))))))) ?_; refine r_fieldAddr (i := 0) ?_; refine r_load (i := 1) ?_; refine r_fieldAddr (i := 2) ?_; refine r_load (i := 3) ?_; refine r_fieldAddr (i := 4) ?_; refine r_store (i := 5) (hfire := (fun _ => by first | (refine FireAll.cons (by first | exact a_load | exact a_un) ?_; exact FireAll.nil) | (refine fireall_fact ?_; refine FireAll.cons (by first | exact a_load | exact a_un) ?_; exact FireAll.nil))) (h := fun _ => ?_); refine r_fieldAddr (i := 6) ?_; refine r_store (i := 7) (hfire := (fun _ => .nil)) (h := fun _ => ?_); refine r_fin ?_; refine k_exit rfl ?_; refine k_seq ?_; refine k_region ?_; refine j_load ?_; refine j_store (fun _ => ?_); refine l_nil ?_)
     all_goals
      refine k_retvF Try.results53 (.cell (by exact rfl) (by repeat (first | exact At.head | apply At.tail)) (by exact agg_of rfl) .nil) (fun w hw => ?_)
      exact ⟨by simp only [Nd.own, beq_iff_eq, *, if_true, if_false]; rfl, hw.done⟩
   · try (exact absurd c9 (by decide))
     all_goals (revert c9; (first | refine cv2 ?_ | refine cv4 ?_ | refine cv6 ?_ | refine cv8 ?_ | refine cva ?_ | refine cvc ?_ | refine cve ?_ | skip); intro c9)
     all_goals (refine k_skip ?_; refine k_seq ?_; refine k_seq ?_; refine k_region ?_; refine j_eql ?_; refine j_assignL (fun _ => ?_); refine l_nil ?_)
     all_goals
      refine k_if (fun c11 => ?_) (fun c11 => ?_)
      · try (exact absurd c11 (by decide))
        all_goals (revert c11; (first | refine cv1 ?_ | refine cv3 ?_ | refine cv5 ?_ | refine cv7 ?_ | refine cv9 ?_ | refine cvb ?_ | refine cvd ?_ | skip); intro c11)
        all_goals (refine k_exit rfl ?_; refine k_seq ?_; refine k_drawF (.one 0 [] (.one 1 [] (.one 2 [] (.one 3 [] (.one 4 [] (.one 5 [] (.one 6 [] (.one 7 [3, 5] (.one 8 [] (.one 9 [5] (.one 10 [] (.one 11 [] .nil)))))))))))) ?_; refine r_fieldAddr (i := 0) ?_; refine r_load (i := 1) ?_; refine r_fieldAddr (i := 2) ?_; refine r_load (i := 3) ?_; refine r_fieldAddr (i := 4) ?_; refine r_load (i := 5) ?_; refine r_fieldAddr (i := 6) ?_; refine r_store (i := 7) (hfire := (fun _ => by first | ((repeat (first | exact FireAll.nil | refine FireAll.cons (by first | exact a_load | exact a_un) ?_)); done) | (refine fireall_fact ?_; (repeat (first | exact FireAll.nil | refine FireAll.cons (by first | exact a_load | exact a_un) ?_)); done))) (h := fun _ => ?_); refine r_fieldAddr (i := 8) ?_; refine r_store (i := 9) (hfire := (fun _ => by first | (refine FireAll.cons (by first | exact a_load | exact a_un) ?_; exact FireAll.nil) | (refine fireall_fact ?_; refine FireAll.cons (by first | exact a_load | exact a_un) ?_; exact FireAll.nil))) (h := fun _ => ?_); refine r_fieldAddr (i := 10) ?_; refine r_store (i := 11) (hfire := (fun _ => .nil)) (h := fun _ => ?_); refine r_fin ?_; refine k_exit rfl ?_; refine k_seq ?_; refine k_region ?_; refine j_load ?_; refine j_store (fun _ => ?_); refine l_nil ?_)
        all_goals
         refine k_retvF Try.results53 (.cell (by exact rfl) (by repeat (first | exact At.head | apply At.tail)) (by exact agg_of rfl) .nil) (fun w hw => ?_)
         exact ⟨by simp only [Nd.own, beq_iff_eq, *, if_true, if_false]; rfl, hw.done⟩
      · try (exact absurd c11 (by decide))
        all_goals (revert c11; (first | refine cv2 ?_ | refine cv4 ?_ | refine cv6 ?_ | refine cv8 ?_ | refine cva ?_ | refine cvc ?_ | refine cve ?_ | skip); intro c11)
        all_goals (refine k_skip ?_; refine k_seq ?_; refine k_seq ?_; refine k_region ?_; refine j_eql ?_; refine j_assignL (fun _ => ?_); refine l_nil ?_)
        all_goals
         refine k_if (fun c13 => ?_) (fun c13 => ?_)
         · try (exact absurd c13 (by decide))
           all_goals (revert c13; (first | refine cv1 ?_ | refine cv3 ?_ | refine cv5 ?_ | refine cv7 ?_ | refine cv9 ?_ | refine cvb ?_ | refine cvd ?_ | skip); intro c13)
           all_goals (refine k_exit rfl ?_; refine k_region ?_; refine j_fieldAddr ?_; refine j_load ?_; refine j_fieldAddr ?_; refine j_store (fun _ => ?_); refine l_nil ?_; refine k_blk ?_; refine k_seq ?_; refine k_drawF (.one 0 [] (.one 1 [] (.one 2 [] (.one 3 [] (.one 4 [] (.one 5 [] (.one 6 [] (.one 7 [3, 5] (.one 8 [] (.one 9 [5] (.one 10 [] (.one 11 [] .nil)))))))))))) ?_; refine r_fieldAddr (i := 0) ?_; refine r_load (i := 1) ?_; refine r_fieldAddr (i := 2) ?_; refine r_load (i := 3) ?_; refine r_fieldAddr (i := 4) ?_; refine r_load (i := 5) ?_; refine r_fieldAddr (i := 6) ?_; refine r_store (i := 7) (hfire := (fun _ => by first | ((repeat (first | exact FireAll.nil | refine FireAll.cons (by first | exact a_load | exact a_un) ?_)); done) | (refine fireall_fact ?_; (repeat (first | exact FireAll.nil | refine FireAll.cons (by first | exact a_load | exact a_un) ?_)); done))) (h := fun _ => ?_); refine r_fieldAddr (i := 8) ?_; refine r_store (i := 9) (hfire := (fun _ => by first | (refine FireAll.cons (by first | exact a_load | exact a_un) ?_; exact FireAll.nil) | (refine fireall_fact ?_; refine FireAll.cons (by first | exact a_load | exact a_un) ?_; exact FireAll.nil))) (h := fun _ => ?_); refine r_fieldAddr (i := 10) ?_; refine r_store (i := 11) (hfire := (fun _ => .nil)) (h := fun _ => ?_); refine r_fin ?_; refine k_exit rfl ?_; refine k_seq ?_; refine k_region ?_; refine j_load ?_; refine j_store (fun _ => ?_); refine l_nil ?_)
           all_goals
            refine k_retvF Try.results53 (.cell (by exact rfl) (by repeat (first | exact At.head | apply At.tail)) (by exact agg_of rfl) .nil) (fun w hw => ?_)
            exact ⟨by simp only [Nd.own, beq_iff_eq, *, if_true, if_false]; rfl, hw.done⟩
         · try (exact absurd c13 (by decide))
           all_goals (revert c13; (first | refine cv2 ?_ | refine cv4 ?_ | refine cv6 ?_ | refine cv8 ?_ | refine cva ?_ | refine cvc ?_ | refine cve ?_ | skip); intro c13)
           all_goals (refine k_skip ?_; refine k_seq ?_; refine k_seq ?_; refine k_region ?_; refine j_eql ?_; refine j_assignL (fun _ => ?_); refine l_nil ?_)
           all_goals
            refine k_if (fun c15 => ?_) (fun c15 => ?_)
            · try (exact absurd c15 (by decide))
              all_goals (revert c15; (first | refine cv1 ?_ | refine cv3 ?_ | refine cv5 ?_ | refine cv7 ?_ | refine cv9 ?_ | refine cvb ?_ | refine cvd ?_ | skip); intro c15)
              all_goals (refine k_exit rfl ?_; refine k_seq ?_; refine k_drawF (.one 0 [] (.one 1 [] (.one 2 [] (.one 3 [] (.one 4 [] (.one 5 [] (.one 6 [] (.one 7 [3, 5] (.one 8 [] (.one 9 [5] (.one 10 [] (.one 11 [] .nil)))))))))))) ?_; refine r_fieldAddr (i := 0) ?_; refine r_load (i := 1) ?_; refine r_fieldAddr (i := 2) ?_; refine r_load (i := 3) ?_; refine r_fieldAddr (i := 4) ?_; refine r_load (i := 5) ?_; refine r_fieldAddr (i := 6) ?_; refine r_store (i := 7) (hfire := (fun _ => by first | ((repeat (first | exact FireAll.nil | refine FireAll.cons (by first | exact a_load | exact a_un) ?_)); done) | (refine fireall_fact ?_; (repeat (first | exact FireAll.nil | refine FireAll.cons (by first | exact a_load | exact a_un) ?_)); done))) (h := fun _ => ?_); refine r_fieldAddr (i := 8) ?_; refine r_store (i := 9) (hfire := (fun _ => by first | (refine FireAll.cons (by first | exact a_load | exact a_un) ?_; exact FireAll.nil) | (refine fireall_fact ?_; refine FireAll.cons (by first | exact a_load | exact a_un) ?_; exact FireAll.nil))) (h := fun _ => ?_); refine r_fieldAddr (i := 10) ?_; refine r_store (i := 11) (hfire := (fun _ => .nil)) (h := fun _ => ?_); refine r_fin ?_; refine k_exit rfl ?_; refine k_seq ?_; refine k_region ?_; refine j_load ?_; refine j_store (fun _ => ?_); refine l_nil ?_)
              all_goals
               refine k_retvF Try.results53 (.cell (by exact rfl) (by repeat (first | exact At.head | apply At.tail)) (by exact agg_of rfl) .nil) (fun w hw => ?_)
               exact ⟨by simp only [Nd.own, beq_iff_eq, *, if_true, if_false]; rfl, hw.done⟩
            · try (exact absurd c15 (by decide))
              all_goals (revert c15; (first | refine cv2 ?_ | refine cv4 ?_ | refine cv6 ?_ | refine cv8 ?_ | refine cva ?_ | refine cvc ?_ | refine cve ?_ | skip); intro c15)
              all_goals (refine k_skip ?_; refine k_seq ?_; refine k_seq ?_; refine k_region ?_; refine j_eql ?_; refine j_assignL (fun _ => ?_); refine l_nil ?_)
              all_goals
               refine k_if (fun c17 => ?_) (fun c17 => ?_)
               · try (exact absurd c17 (by decide))
                 all_goals (revert c17; (first | refine cv1 ?_ | refine cv3 ?_ | refine cv5 ?_ | refine cv7 ?_ | refine cv9 ?_ | refine cvb ?_ | refine cvd ?_ | skip); intro c17)
                 all_goals (refine k_exit rfl ?_; refine k_seq ?_; refine k_drawF (.one 0 [] (.one 1 [] (.one 2 [] (.one 3 [] (.one 4 [] (.one 5 [] (.one 6 [] (.one 7 [3, 5] (.one 8 [] (.one 9 [5] (.one 10 [] (.one 11 [] .nil)))))))))))) ?_; refine r_fieldAddr (i := 0) ?_; refine r_load (i := 1) ?_; refine r_fieldAddr (i := 2) ?_; refine r_load (i := 3) ?_; refine r_fieldAddr (i := 4) ?_; refine r_load (i := 5) ?_; refine r_fieldAddr (i := 6) ?_; refine r_store (i := 7) (hfire := (fun _ => by first | ((repeat (first | exact FireAll.nil | refine FireAll.cons (by first | exact a_load | exact a_un) ?_)); done) | (refine fireall_fact ?_; (repeat (first | exact FireAll.nil | refine FireAll.cons (by first | exact a_load | exact a_un) ?_)); done))) (h := fun _ => ?_); refine r_fieldAddr (i := 8) ?_; refine r_store (i := 9) (hfire := (fun _ => by first | (refine FireAll.cons (by first | exact a_load | exact a_un) ?_; exact FireAll.nil) | (refine fireall_fact ?_; refine FireAll.cons (by first | exact a_load | exact a_un) ?_; exact FireAll.nil))) (h := fun _ => ?_); refine r_fieldAddr (i := 10) ?_; refine r_store (i := 11) (hfire := (fun _ => .nil)) (h := fun _ => ?_); refine r_fin ?_; refine k_exit rfl ?_; refine k_seq ?_; refine k_region ?_; refine j_load ?_; refine j_store (fun _ => ?_); refine l_nil ?_)
                 all_goals
                  refine k_retvF Try.results53 (.cell (by exact rfl) (by repeat (first | exact At.head | apply At.tail)) (by exact agg_of rfl) .nil) (fun w hw => ?_)
                  exact ⟨by simp only [Nd.own, beq_iff_eq, *, if_true, if_false]; rfl, hw.done⟩
               · try (exact absurd c17 (by decide))
                 all_goals (revert c17; (first | refine cv2 ?_ | refine cv4 ?_ | refine cv6 ?_ | refine cv8 ?_ | refine cva ?_ | refine cvc ?_ | refine cve ?_ | skip); intro c17)
                 all_goals (refine k_skip ?_; refine k_seq ?_; refine k_seq ?_; refine k_region ?_; refine j_eql ?_; refine j_assignL (fun _ => ?_); refine l_nil ?_)
                 all_goals
                  refine k_if (fun c19 => ?_) (fun c19 => ?_)
                  · try (exact absurd c19 (by decide))
                    all_goals (revert c19; (first | refine cv1 ?_ | refine cv3 ?_ | refine cv5 ?_ | refine cv7 ?_ | refine cv9 ?_ | refine cvb ?_ | refine cvd ?_ | skip); intro c19)
                    all_goals (refine k_exit rfl ?_; refine k_drawF (.one 0 [] (.one 1 [] (.one 2 [] (.one 3 [] (.one 4 [] (.one 5 [] (.one 6 [] (.one 7 [3, 5] (.one 8 [] (.one 9 [5] (.one 10 [] (.one 11 [] .nil)))))))))))) ?_; refine r_fieldAddr (i := 0) ?_; refine r_load (i := 1) ?_; refine r_fieldAddr (i := 2) ?_; refine r_load (i := 3) ?_; refine r_fieldAddr (i := 4) ?_; refine r_load (i := 5) ?_; refine r_fieldAddr (i := 6) ?_; refine r_store (i := 7) (hfire := (fun _ => by first | ((repeat (first | exact FireAll.nil | refine FireAll.cons (by first | exact a_load | exact a_un) ?_)); done) | (refine fireall_fact ?_; (repeat (first | exact FireAll.nil | refine FireAll.cons (by first | exact a_load | exact a_un) ?_)); done))) (h := fun _ => ?_); refine r_fieldAddr (i := 8) ?_; refine r_store (i := 9) (hfire := (fun _ => by first | (refine FireAll.cons (by first | exact a_load | exact a_un) ?_; exact FireAll.nil) | (refine fireall_fact ?_; refine FireAll.cons (by first | exact a_load | exact a_un) ?_; exact FireAll.nil))) (h := fun _ => ?_); refine r_fieldAddr (i := 10) ?_; refine r_store (i := 11) (hfire := (fun _ => .nil)) (h := fun _ => ?_); refine r_fin ?_; refine k_blk ?_; refine k_seq ?_; refine k_region ?_; refine j_fieldAddr ?_; refine j_load ?_; refine j_fieldAddr ?_; refine j_store (fun _ => ?_); refine l_nil ?_; refine k_exit rfl ?_; refine k_seq ?_; refine k_region ?_; refine j_load ?_; refine j_store (fun _ => ?_); refine l_nil ?_)
                    all_goals
                     refine k_retvF Try.results53 (.cell (by exact rfl) (by repeat (first | exact At.head | apply At.tail)) (by exact agg_of rfl) .nil) (fun w hw => ?_)
                     exact ⟨by simp only [Nd.own, beq_iff_eq, *, if_true, if_false]; rfl, hw.done⟩
                  · try (exact absurd c19 (by decide))
                    all_goals (revert c19; (first | refine cv2 ?_ | refine cv4 ?_ | refine cv6 ?_ | refine cv8 ?_ | refine cva ?_ | refine cvc ?_ | refine cve ?_ | skip); intro c19)
                    all_goals (refine k_skip ?_; refine k_seq ?_; refine k_region ?_; refine j_eql ?_; refine j_assignL (fun _ => ?_); refine l_nil ?_)
                    all_goals
                     refine k_if (fun c21 => ?_) (fun c21 => ?_)
                     · try (exact absurd c21 (by decide))
                       all_goals (revert c21; (first | refine cv1 ?_ | refine cv3 ?_ | refine cv5 ?_ | refine cv7 ?_ | refine cv9 ?_ | refine cvb ?_ | refine cvd ?_ | skip); intro c21)
                       all_goals (refine k_exit rfl ?_; refine k_seq ?_; refine k_region ?_; refine j_fieldAddr ?_; refine j_load ?_; refine j_fieldAddr ?_; refine j_store (fun _ => ?_); refine l_nil ?_; refine k_exit rfl ?_; refine k_seq ?_; refine k_region ?_; refine j_load ?_; refine j_store (fun _ => ?_); refine l_nil ?_)
                       all_goals
                        refine k_retvF Try.results53 (.cell (by exact rfl) (by repeat (first | exact At.head | apply At.tail)) (by exact agg_of rfl) .nil) (fun w hw => ?_)
                        exact ⟨by simp only [Nd.own, beq_iff_eq, *, if_true, if_false]; rfl, hw.done⟩
                     · try (exact absurd c21 (by decide))
                       all_goals (revert c21; (first | refine cv2 ?_ | refine cv4 ?_ | refine cv6 ?_ | refine cv8 ?_ | refine cva ?_ | refine cvc ?_ | refine cve ?_ | skip); intro c21)
                       all_goals (refine k_skip ?_; refine k_exit rfl ?_; refine k_seq ?_; refine k_region ?_; refine j_load ?_; refine j_store (fun _ => ?_); refine l_nil ?_)
                       all_goals
                        refine k_retvF Try.results53 (.cell (by exact rfl) (by repeat (first | exact At.head | apply At.tail)) (by exact agg_of rfl) .nil) (fun w hw => ?_)
                        exact ⟨by simp only [Nd.own, beq_iff_eq, *, if_true, if_false]; rfl, hw.done⟩
end Go.Proofs.Ytpfjjagcmjmfpaa
