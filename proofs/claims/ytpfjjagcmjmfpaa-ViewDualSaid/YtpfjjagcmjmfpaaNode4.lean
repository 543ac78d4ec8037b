/- node.Valid. -/
import Derived.Test.YtpfjjagcmjmfpaaNode1
import Derived.Test.YtpfjjagcmjmfpaaNode2
import Derived.Test.YtpfjjagcmjmfpaaSlices2
set_option linter.unusedSimpArgs false
set_option linter.unusedVariables false
namespace Go.Proofs.Ytpfjjagcmjmfpaa
open Go.RowKit Go.Ct

theorem ones_c (b : Int) (w : World) : Calls Try.prog 69 #[.int .u64 b] w fun e w' => e = .returned (.int .i64 (rOnes b)) ∧ St w [] [] w' := by
  refine enter Try.func69 Try.ntmps69 rfl rfl (SF.s0 w) ?_
  simp only [mkS]
  all_goals (refine k_seq ?_; refine k_region ?_; refine j_assignL (fun _ => ?_); refine l_nil ?_; refine k_seq ?_; refine k_region ?_; refine j_move ?_; refine j_shr ?_; refine j_and ?_; refine j_move ?_; refine j_and ?_; refine j_add ?_; refine j_assignL (fun _ => ?_); refine l_nil ?_; refine k_seq ?_; refine k_region ?_; refine j_move ?_; refine j_shr ?_; refine j_and ?_; refine j_move ?_; refine j_and ?_; refine j_add ?_; refine j_assignL (fun _ => ?_); refine l_nil ?_; refine k_seq ?_; refine k_region ?_; refine j_move ?_; refine j_shr ?_; refine j_move ?_; refine j_add ?_; refine j_and ?_; refine j_assignL (fun _ => ?_); refine l_nil ?_; refine k_seq ?_; refine k_region ?_; refine j_move ?_; refine j_move ?_; refine j_shr ?_; refine j_add ?_; refine j_assignL (fun _ => ?_); refine l_nil ?_; refine k_seq ?_; refine k_region ?_; refine j_move ?_; refine j_move ?_; refine j_shr ?_; refine j_add ?_; refine j_assignL (fun _ => ?_); refine l_nil ?_; refine k_seq ?_; refine k_region ?_; refine j_move ?_; refine j_move ?_; refine j_shr ?_; refine j_add ?_; refine j_assignL (fun _ => ?_); refine l_nil ?_; refine k_seq ?_; refine k_region ?_; refine j_move ?_; refine j_convert ?_; refine j_and ?_; refine j_assignL (fun _ => ?_); refine l_nil ?_)
  all_goals
   refine k_rv Try.results69 (fun w hw => ?_)
   exact ⟨rfl, hw.done⟩
theorem count_c (b : Int) (w : World) : Calls Try.prog 54 #[.int .u64 b] w fun e w' => e = .returned (.int .i64 (rOnes b)) ∧ St w [] [] w' := by
  refine enter Try.func54 Try.ntmps54 rfl rfl (SF.s0 w) ?_
  simp only [mkS]
  all_goals (refine k_seq ?_; refine k_region ?_; refine j_assignL (fun _ => ?_); refine l_nil ?_; refine k_seq ?_; refine k_region ?_; refine j_move ?_; (refine j_own (cV (hc := fun w1 hw => ones_c b w1)) (fun x4 => ?_); try (refine l_fact (fun h4 => ?_))); refine j_assignL (fun _ => ?_); refine l_nil ?_)
  all_goals
   refine k_rv Try.results54 (fun w hw => ?_)
   exact ⟨rfl, hw.done⟩
theorem ndValid_c {n : Nd} {xs : List Int} {ys : List Pr} {w : World} (hr : Rep w n xs ys) :
    Calls Try.prog 35 #[n.v] w fun e w' => ∃ r : Bool, e = .returned (.bool r) ∧ (r = true ↔ NdValid n xs ys) ∧ St w [] [] w' := by
  have e1 := hr.brN; have e2 := hr.prN
  refine enter Try.func35 Try.ntmps35 rfl rfl (SF.s0 w) ?_
  simp only [mkS]
  all_goals (refine k_seq ?_; refine k_region ?_; refine j_box (fun x1 => ?_); refine j_assignL (fun _ => ?_); refine l_nil ?_; refine k_seq ?_; refine k_seq ?_; refine k_drawF (.one 0 [] (.one 1 [] (.one 2 [0] (.one 3 [] (.one 4 [] .nil))))) ?_; refine r_load (i := 0) ?_; refine r_load (i := 1) ?_; ((refine r_own (i := 2) (hq := (cV (hc := fun w1 hw => own_c n w1))) (hfire := (fun _ => by first | (refine FireAll.cons (by first | exact a_load | exact a_un) ?_; exact FireAll.nil) | (refine fireall_fact ?_; refine FireAll.cons (by first | exact a_load | exact a_un) ?_; exact FireAll.nil))) (h := fun x5 => ?_); try (refine r_fact (fun h5 => ?_)))); ((refine r_own (i := 3) (hq := (c0 (V := .bool) (hc := fun w1 hw => ndEq_c (hr.keep0 hw.st) (hr.keep0 hw.st).own))) (hfire := (fun _ => .nil)) (h := fun x6 => ?_); try (refine r_fact (fun h6 => ?_)))); refine r_not (i := 4) ?_; refine r_fin ?_)
  all_goals
   refine k_if (fun c7 => ?_) (fun c7 => ?_)
   · try (exact absurd c7 (by decide))
     all_goals (revert c7; (first | refine cv1 ?_ | refine cv3 ?_ | refine cv5 ?_ | refine cv7 ?_ | refine cv9 ?_ | refine cvb ?_ | refine cvd ?_ | skip); intro c7)
     all_goals (refine k_seq ?_; refine k_region ?_; refine j_assignL (fun _ => ?_); refine l_nil ?_)
     all_goals
      refine k_rv Try.results35 (fun w hw => ?_)
      refine ⟨_, rfl, ?_, hw.done⟩
      first | (simp_all [NdValid]; done) | (simp_all [NdValid]; omega)
   · try (exact absurd c7 (by decide))
     all_goals (revert c7; (first | refine cv2 ?_ | refine cv4 ?_ | refine cv6 ?_ | refine cv8 ?_ | refine cva ?_ | refine cvc ?_ | refine cve ?_ | skip); intro c7)
     all_goals (refine k_skip ?_; refine k_seq ?_; refine k_seq ?_; refine k_region ?_; refine j_fieldAddr ?_; refine j_load ?_; refine j_lss ?_; refine j_move ?_)
     all_goals (first | refine j_un ?_ | (refine j_yes ?_; refine j_fieldAddr ?_) | (refine l_case (g := 11) (by exact rfl) (fun g11 => ?_) (fun g11 => ?_) <;> (revert g11; (first | refine cv1 ?_ | refine cv2 ?_ | refine cvb ?_ | refine cvc ?_ | refine cv9 ?_ | refine cva ?_ | refine cv7 ?_ | refine cv8 ?_ | refine cvd ?_ | refine cve ?_ | skip); intro g11) <;> (first | refine j_un ?_ | (refine j_yes ?_; refine j_fieldAddr ?_))))
     all_goals ((first | refine j_un ?_ | (refine j_yes ?_; refine j_load ?_)); (first | refine j_un ?_ | (refine j_yes ?_; refine j_lss ?_)); refine j_pick ?_; refine j_move ?_)
     all_goals (first | refine j_un ?_ | (refine j_yes ?_; refine j_fieldAddr ?_) | (refine l_case (g := 16) (by exact rfl) (fun g16 => ?_) (fun g16 => ?_) <;> (revert g16; (first | refine cv1 ?_ | refine cv2 ?_ | refine cvb ?_ | refine cvc ?_ | refine cv9 ?_ | refine cva ?_ | refine cv7 ?_ | refine cv8 ?_ | refine cvd ?_ | refine cve ?_ | skip); intro g16) <;> (first | refine j_un ?_ | (refine j_yes ?_; refine j_fieldAddr ?_))))
     all_goals ((first | refine j_un ?_ | (refine j_yes ?_; refine j_load ?_)); (first | refine j_un ?_ | (refine j_yes ?_; refine j_lss ?_)); refine j_pick ?_; refine l_nil ?_)
     all_goals
      refine k_if (fun c20 => ?_) (fun c20 => ?_)
      · try (exact absurd c20 (by decide))
        all_goals (revert c20; (first | refine cv1 ?_ | refine cv3 ?_ | refine cv5 ?_ | refine cv7 ?_ | refine cv9 ?_ | refine cvb ?_ | refine cvd ?_ | skip); intro c20)
        all_goals (refine k_seq ?_; refine k_region ?_; refine j_assignL (fun _ => ?_); refine l_nil ?_)
        all_goals
         refine k_rv Try.results35 (fun w hw => ?_)
         refine ⟨_, rfl, ?_, hw.done⟩
         first | (simp_all [NdValid]; done) | (simp_all [NdValid]; omega)
      · try (exact absurd c20 (by decide))
        all_goals (revert c20; (first | refine cv2 ?_ | refine cv4 ?_ | refine cv6 ?_ | refine cv8 ?_ | refine cva ?_ | refine cvc ?_ | refine cve ?_ | skip); intro c20)
        all_goals (refine k_skip ?_; refine k_seq ?_; refine k_seq ?_; refine k_region ?_; refine j_fieldAddr ?_; refine j_load ?_; refine l_nil ?_; refine k_block ?_; refine k_seq ?_; refine k_block ?_; refine k_seq ?_; refine k_block ?_; refine k_seq ?_; refine k_block ?_; refine k_seq ?_; refine k_block ?_; refine k_block ?_; refine k_seq ?_; refine k_block ?_; refine k_seq ?_; refine k_block ?_; refine k_seq ?_; refine k_block ?_; refine k_seq ?_; refine k_seq ?_; refine k_seq ?_; refine k_region ?_; refine j_eql ?_; refine j_assignL (fun _ => ?_); refine l_nil ?_)
        all_goals
         refine k_if (fun c23 => ?_) (fun c23 => ?_)
         · try (exact absurd c23 (by decide))
           all_goals (revert c23; (first | refine cv1 ?_ | refine cv3 ?_ | refine cv5 ?_ | refine cv7 ?_ | refine cv9 ?_ | refine cvb ?_ | refine cvd ?_ | skip); intro c23)
           all_goals (refine k_exit rfl ?_; refine k_seq ?_; refine k_seq ?_; refine k_region ?_; refine j_assignL (fun _ => ?_); refine l_nil ?_)
           all_goals
            refine k_rv Try.results35 (fun w hw => ?_)
            refine ⟨_, rfl, ?_, hw.done⟩
            first | (simp_all [NdValid]; done) | (simp_all [NdValid]; omega)
         · try (exact absurd c23 (by decide))
           all_goals (revert c23; (first | refine cv2 ?_ | refine cv4 ?_ | refine cv6 ?_ | refine cv8 ?_ | refine cva ?_ | refine cvc ?_ | refine cve ?_ | skip); intro c23)
           all_goals (refine k_skip ?_; refine k_seq ?_; refine k_seq ?_; refine k_region ?_; refine j_eql ?_; refine j_assignL (fun _ => ?_); refine l_nil ?_)
           all_goals
            refine k_if (fun c25 => ?_) (fun c25 => ?_)
            · try (exact absurd c25 (by decide))
              all_goals (revert c25; (first | refine cv1 ?_ | refine cv3 ?_ | refine cv5 ?_ | refine cv7 ?_ | refine cv9 ?_ | refine cvb ?_ | refine cvd ?_ | skip); intro c25)
              all_goals (refine k_exit rfl ?_; refine k_seq ?_; refine k_seq ?_; refine k_region ?_; refine j_fieldAddr ?_; refine j_load ?_; refine j_geq ?_; refine j_assignL (fun _ => ?_); refine l_nil ?_)
              all_goals
               refine k_rv Try.results35 (fun w hw => ?_)
               refine ⟨_, rfl, ?_, hw.done⟩
               first | (simp_all [NdValid]; done) | (simp_all [NdValid]; omega)
            · try (exact absurd c25 (by decide))
              all_goals (revert c25; (first | refine cv2 ?_ | refine cv4 ?_ | refine cv6 ?_ | refine cv8 ?_ | refine cva ?_ | refine cvc ?_ | refine cve ?_ | skip); intro c25)
              all_goals (refine k_skip ?_; refine k_seq ?_; refine k_seq ?_; refine k_region ?_; refine j_eql ?_; refine j_assignL (fun _ => ?_); refine l_nil ?_)
              all_goals
               refine k_if (fun c27 => ?_) (fun c27 => ?_)
               · try (exact absurd c27 (by decide))
                 all_goals (revert c27; (first | refine cv1 ?_ | refine cv3 ?_ | refine cv5 ?_ | refine cv7 ?_ | refine cv9 ?_ | refine cvb ?_ | refine cvd ?_ | skip); intro c27)
                 all_goals (refine k_exit rfl ?_; refine k_seq ?_; refine k_seq ?_; refine k_drawF (.one 0 [] (.one 1 [] (.one 2 [] (.one 3 [] (.one 4 [] (.one 5 [1] (.one 6 [] (.one 7 [] (.one 8 [] (.one 9 [] (.one 10 [] (.one 11 [] (.one 12 [] .nil))))))))))))) ?_; refine r_fieldAddr (i := 0) ?_; refine r_load (i := 1) ?_; refine r_len (i := 2) ?_; refine r_fieldAddr (i := 3) ?_; refine r_load (i := 4) ?_; ((refine r_own (i := 5) (hq := (cV (hc := fun w1 hw => count_c n.bm w1))) (hfire := (fun _ => by first | (refine FireAll.cons (by first | exact a_load | exact a_un) ?_; exact FireAll.nil) | (refine fireall_fact ?_; refine FireAll.cons (by first | exact a_load | exact a_un) ?_; exact FireAll.nil))) (h := fun x47 => ?_); try (refine r_fact (fun h47 => ?_)))); refine r_eql (i := 6) ?_; refine r_move (i := 7) ?_)
                 all_goals (first | refine r_un (i := 8) ?_ | (refine r_fieldAddr (i := 8) ?_) | (refine r_case (g := 49) (by exact rfl) (fun g49 => ?_) (fun g49 => ?_) <;> (revert g49; (first | refine cv1 ?_ | refine cv2 ?_ | refine cvb ?_ | refine cvc ?_ | refine cv9 ?_ | refine cva ?_ | refine cv7 ?_ | refine cv8 ?_ | refine cvd ?_ | refine cve ?_ | skip); intro g49) <;> (first | refine r_un (i := 8) ?_ | (refine r_fieldAddr (i := 8) ?_))))
                 all_goals ((first | refine r_un (i := 9) ?_ | (refine r_load (i := 9) ?_)); ((first | refine r_un (i := 10) ?_ | ((refine r_own (i := 10) (hq := (c0 (V := .bool) (hc := fun w1 hw => by rw [e1]; exact allNodes_c (hr.br.keep0 hw.st) hr.brS))) (hfire := (fun _ => .nil)) (h := fun x52 => ?_); try (refine r_fact (fun h52 => ?_)))))); refine r_pick (i := 11) ?_; refine r_assignL (i := 12) (hfire := (fun _ => .nil)) (h := fun _ => ?_); refine r_fin ?_)
                 all_goals
                  refine k_rv Try.results35 (fun w hw => ?_)
                  refine ⟨_, rfl, ?_, hw.done⟩
                  first | (simp_all [NdValid]; done) | (simp_all [NdValid]; omega)
               · try (exact absurd c27 (by decide))
                 all_goals (revert c27; (first | refine cv2 ?_ | refine cv4 ?_ | refine cv6 ?_ | refine cv8 ?_ | refine cva ?_ | refine cvc ?_ | refine cve ?_ | skip); intro c27)
                 all_goals (refine k_skip ?_; refine k_seq ?_; refine k_seq ?_; refine k_region ?_; refine j_eql ?_; refine j_assignL (fun _ => ?_); refine l_nil ?_)
                 all_goals
                  refine k_if (fun c29 => ?_) (fun c29 => ?_)
                  · try (exact absurd c29 (by decide))
                    all_goals (revert c29; (first | refine cv1 ?_ | refine cv3 ?_ | refine cv5 ?_ | refine cv7 ?_ | refine cv9 ?_ | refine cvb ?_ | refine cvd ?_ | skip); intro c29)
                    all_goals (refine k_exit rfl ?_; refine k_blk ?_; refine k_seq ?_; refine k_seq ?_; refine k_region ?_; refine j_fieldAddr ?_; refine j_load ?_; refine j_lenStr ?_; refine j_leq ?_; refine j_assignL (fun _ => ?_); refine l_nil ?_)
                    all_goals
                     refine k_rv Try.results35 (fun w hw => ?_)
                     refine ⟨_, rfl, ?_, hw.done⟩
                     first | (simp_all [NdValid]; done) | (simp_all [NdValid]; omega)
                  · try (exact absurd c29 (by decide))
                    all_goals (revert c29; (first | refine cv2 ?_ | refine cv4 ?_ | refine cv6 ?_ | refine cv8 ?_ | refine cva ?_ | refine cvc ?_ | refine cve ?_ | skip); intro c29)
                    all_goals (refine k_skip ?_; refine k_seq ?_; refine k_seq ?_; refine k_region ?_; refine j_eql ?_; refine j_assignL (fun _ => ?_); refine l_nil ?_)
                    all_goals
                     refine k_if (fun c31 => ?_) (fun c31 => ?_)
                     · try (exact absurd c31 (by decide))
                       all_goals (revert c31; (first | refine cv1 ?_ | refine cv3 ?_ | refine cv5 ?_ | refine cv7 ?_ | refine cv9 ?_ | refine cvb ?_ | refine cvd ?_ | skip); intro c31)
                       all_goals (refine k_exit rfl ?_; refine k_seq ?_; refine k_seq ?_; refine k_region ?_; refine j_fieldAddr ?_; refine j_load ?_; refine j_lenStr ?_; refine j_leq ?_; refine j_assignL (fun _ => ?_); refine l_nil ?_)
                       all_goals
                        refine k_rv Try.results35 (fun w hw => ?_)
                        refine ⟨_, rfl, ?_, hw.done⟩
                        first | (simp_all [NdValid]; done) | (simp_all [NdValid]; omega)
                     · try (exact absurd c31 (by decide))
                       all_goals (revert c31; (first | refine cv2 ?_ | refine cv4 ?_ | refine cv6 ?_ | refine cv8 ?_ | refine cva ?_ | refine cvc ?_ | refine cve ?_ | skip); intro c31)
                       all_goals (refine k_skip ?_; refine k_seq ?_; refine k_seq ?_; refine k_region ?_; refine j_eql ?_; refine j_assignL (fun _ => ?_); refine l_nil ?_)
                       all_goals
                        refine k_if (fun c33 => ?_) (fun c33 => ?_)
                        · try (exact absurd c33 (by decide))
                          all_goals (revert c33; (first | refine cv1 ?_ | refine cv3 ?_ | refine cv5 ?_ | refine cv7 ?_ | refine cv9 ?_ | refine cvb ?_ | refine cvd ?_ | skip); intro c33)
                          all_goals (refine k_exit rfl ?_; refine k_seq ?_; refine k_seq ?_; refine k_region ?_; refine j_fieldAddr ?_; refine j_load ?_; refine j_len ?_; refine j_geq ?_; refine j_move ?_)
                          all_goals (first | refine j_un ?_ | (refine j_yes ?_; refine j_fieldAddr ?_) | (refine l_case (g := 62) (by exact rfl) (fun g62 => ?_) (fun g62 => ?_) <;> (revert g62; (first | refine cv1 ?_ | refine cv2 ?_ | refine cvb ?_ | refine cvc ?_ | refine cv9 ?_ | refine cva ?_ | refine cv7 ?_ | refine cv8 ?_ | refine cvd ?_ | refine cve ?_ | skip); intro g62) <;> (first | refine j_un ?_ | (refine j_yes ?_; refine j_fieldAddr ?_))))
                          all_goals ((first | refine j_un ?_ | (refine j_yes ?_; refine j_load ?_)); ((first | refine j_un ?_ | (refine j_yes ?_; (refine j_own (c0 (V := .bool) (hc := fun w1 hw => by rw [e2]; exact prValid_c (hr.pr.keep0 hw.st) hr.prS)) (fun x65 => ?_); try (refine l_fact (fun h65 => ?_)))))); refine j_pick ?_; refine j_move ?_)
                          all_goals (first | refine j_un ?_ | (refine j_yes ?_; refine j_fieldAddr ?_) | (refine l_case (g := 67) (by exact rfl) (fun g67 => ?_) (fun g67 => ?_) <;> (revert g67; (first | refine cv1 ?_ | refine cv2 ?_ | refine cvb ?_ | refine cvc ?_ | refine cv9 ?_ | refine cva ?_ | refine cv7 ?_ | refine cv8 ?_ | refine cvd ?_ | refine cve ?_ | skip); intro g67) <;> (first | refine j_un ?_ | (refine j_yes ?_; refine j_fieldAddr ?_))))
                          all_goals ((first | refine j_un ?_ | (refine j_yes ?_; refine j_load ?_)); ((first | refine j_un ?_ | (refine j_yes ?_; (refine j_own (c0 (V := .bool) (hc := fun w1 hw => by rw [e2]; exact shortKeys_c (hr.pr.keep0 hw.st) hr.prS)) (fun x70 => ?_); try (refine l_fact (fun h70 => ?_)))))); refine j_pick ?_; refine j_assignL (fun _ => ?_); refine l_nil ?_)
                          all_goals
                           refine k_rv Try.results35 (fun w hw => ?_)
                           refine ⟨_, rfl, ?_, hw.done⟩
                           first | (simp_all [NdValid]; done) | (simp_all [NdValid]; omega)
                        · try (exact absurd c33 (by decide))
                          all_goals (revert c33; (first | refine cv2 ?_ | refine cv4 ?_ | refine cv6 ?_ | refine cv8 ?_ | refine cva ?_ | refine cvc ?_ | refine cve ?_ | skip); intro c33)
                          all_goals (refine k_skip ?_; refine k_seq ?_; refine k_seq ?_; refine k_region ?_; refine j_eql ?_; refine j_assignL (fun _ => ?_); refine l_nil ?_)
                          all_goals
                           refine k_if (fun c35 => ?_) (fun c35 => ?_)
                           · try (exact absurd c35 (by decide))
                             all_goals (revert c35; (first | refine cv1 ?_ | refine cv3 ?_ | refine cv5 ?_ | refine cv7 ?_ | refine cv9 ?_ | refine cvb ?_ | refine cvd ?_ | skip); intro c35)
                             all_goals (refine k_exit rfl ?_; refine k_seq ?_; refine k_region ?_; refine j_fieldAddr ?_; refine j_load ?_; refine j_lss ?_; refine j_move ?_)
                             all_goals (first | refine j_un ?_ | (refine j_yes ?_; refine j_fieldAddr ?_) | (refine l_case (g := 75) (by exact rfl) (fun g75 => ?_) (fun g75 => ?_) <;> (revert g75; (first | refine cv1 ?_ | refine cv2 ?_ | refine cvb ?_ | refine cvc ?_ | refine cv9 ?_ | refine cva ?_ | refine cv7 ?_ | refine cv8 ?_ | refine cvd ?_ | refine cve ?_ | skip); intro g75) <;> (first | refine j_un ?_ | (refine j_yes ?_; refine j_fieldAddr ?_))))
                             all_goals ((first | refine j_un ?_ | (refine j_yes ?_; refine j_load ?_)); (first | refine j_un ?_ | (refine j_yes ?_; refine j_lss ?_)); refine j_pick ?_; refine l_nil ?_)
                             all_goals
                              refine k_if (fun c79 => ?_) (fun c79 => ?_)
                              · try (exact absurd c79 (by decide))
                                all_goals (revert c79; (first | refine cv1 ?_ | refine cv3 ?_ | refine cv5 ?_ | refine cv7 ?_ | refine cv9 ?_ | refine cvb ?_ | refine cvd ?_ | skip); intro c79)
                                all_goals (refine k_seq ?_; refine k_region ?_; refine j_assignL (fun _ => ?_); refine l_nil ?_)
                                all_goals
                                 refine k_rv Try.results35 (fun w hw => ?_)
                                 refine ⟨_, rfl, ?_, hw.done⟩
                                 first | (simp_all [NdValid]; done) | (simp_all [NdValid]; omega)
                              · try (exact absurd c79 (by decide))
                                all_goals (revert c79; (first | refine cv2 ?_ | refine cv4 ?_ | refine cv6 ?_ | refine cv8 ?_ | refine cva ?_ | refine cvc ?_ | refine cve ?_ | skip); intro c79)
                                all_goals (refine k_skip ?_; refine k_blk ?_; refine k_seq ?_; refine k_seq ?_; refine k_region ?_; refine j_fieldAddr ?_; refine j_load ?_; refine j_geq ?_; refine j_assignL (fun _ => ?_); refine l_nil ?_)
                                all_goals
                                 refine k_rv Try.results35 (fun w hw => ?_)
                                 refine ⟨_, rfl, ?_, hw.done⟩
                                 first | (simp_all [NdValid]; done) | (simp_all [NdValid]; omega)
                           · try (exact absurd c35 (by decide))
                             all_goals (revert c35; (first | refine cv2 ?_ | refine cv4 ?_ | refine cv6 ?_ | refine cv8 ?_ | refine cva ?_ | refine cvc ?_ | refine cve ?_ | skip); intro c35)
                             all_goals (refine k_skip ?_; refine k_seq ?_; refine k_region ?_; refine j_eql ?_; refine j_assignL (fun _ => ?_); refine l_nil ?_)
                             all_goals
                              refine k_if (fun c37 => ?_) (fun c37 => ?_)
                              · try (exact absurd c37 (by decide))
                                all_goals (revert c37; (first | refine cv1 ?_ | refine cv3 ?_ | refine cv5 ?_ | refine cv7 ?_ | refine cv9 ?_ | refine cvb ?_ | refine cvd ?_ | skip); intro c37)
                                all_goals (refine k_exit rfl ?_; refine k_seq ?_; refine k_seq ?_; refine k_region ?_; refine j_fieldAddr ?_; refine j_load ?_; refine j_geq ?_; refine j_assignL (fun _ => ?_); refine l_nil ?_)
                                all_goals
                                 refine k_rv Try.results35 (fun w hw => ?_)
                                 refine ⟨_, rfl, ?_, hw.done⟩
                                 first | (simp_all [NdValid]; done) | (simp_all [NdValid]; omega)
                              · try (exact absurd c37 (by decide))
                                all_goals (revert c37; (first | refine cv2 ?_ | refine cv4 ?_ | refine cv6 ?_ | refine cv8 ?_ | refine cva ?_ | refine cvc ?_ | refine cve ?_ | skip); intro c37)
                                all_goals (refine k_skip ?_; refine k_exit rfl ?_; refine k_seq ?_; refine k_region ?_; refine j_assignL (fun _ => ?_); refine l_nil ?_)
                                all_goals
                                 refine k_rv Try.results35 (fun w hw => ?_)
                                 refine ⟨_, rfl, ?_, hw.done⟩
                                 first | (simp_all [NdValid]; done) | (simp_all [NdValid]; omega)
end Go.Proofs.Ytpfjjagcmjmfpaa
