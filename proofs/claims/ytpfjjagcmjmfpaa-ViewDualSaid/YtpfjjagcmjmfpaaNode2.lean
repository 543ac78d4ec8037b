/- Nodes are compared. -/
import Derived.Test.YtpfjjagcmjmfpaaSlices
set_option linter.unusedSimpArgs false
set_option linter.unusedVariables false
namespace Go.Proofs.Ytpfjjagcmjmfpaa
open Go.RowKit Go.Ct

theorem ndEq_c {a b : Nd} {x1 x2 : List Int} {y1 y2 : List Pr} {w : World} (ha : Rep w a x1 y1) (hb : Rep w b x2 y2) :
    Calls Try.prog 52 #[a.v, b.v] w fun e w' => ∃ r : Bool, e = .returned (.bool r) ∧ (r = true ↔ NdEq a b x1 x2 y1 y2) ∧ St w [] [] w' := by
  have e1 := ha.brN; have e2 := hb.brN; have e3 := ha.prN; have e4 := hb.prN
  refine enter Try.func52 Try.ntmps52 rfl rfl (SF.s0 w) ?_
  simp only [mkS]
  all_goals (refine k_seq ?_; refine k_region ?_; refine j_box (fun x2 => ?_); refine j_box (fun x3 => ?_); refine j_assignL (fun _ => ?_); refine l_nil ?_; refine k_seq ?_; refine k_regionA (by dsimp only [List.append]) ?_; refine j_fieldAddr ?_; refine j_load ?_; refine j_fieldAddr ?_; refine j_load ?_; refine j_eql ?_; refine j_move ?_)
  all_goals (first | refine j_un ?_ | (refine j_yes ?_; refine j_fieldAddr ?_) | (refine l_case (g := 10) (by exact rfl) (fun g10 => ?_) (fun g10 => ?_) <;> (revert g10; (first | refine cv1 ?_ | refine cv2 ?_ | refine cvb ?_ | refine cvc ?_ | refine cv9 ?_ | refine cva ?_ | refine cv7 ?_ | refine cv8 ?_ | refine cvd ?_ | refine cve ?_ | skip); intro g10) <;> (first | refine j_un ?_ | (refine j_yes ?_; refine j_fieldAddr ?_))))
  all_goals ((first | refine j_un ?_ | (refine j_yes ?_; refine j_load ?_)); (first | refine j_un ?_ | (refine j_yes ?_; refine j_fieldAddr ?_)); (first | refine j_un ?_ | (refine j_yes ?_; refine j_load ?_)); (first | refine j_un ?_ | (refine j_yes ?_; refine j_eql ?_)); refine j_pick ?_; refine j_move ?_)
  all_goals (first | refine j_un ?_ | (refine j_yes ?_; refine j_fieldAddr ?_) | (refine l_case (g := 17) (by exact rfl) (fun g17 => ?_) (fun g17 => ?_) <;> (revert g17; (first | refine cv1 ?_ | refine cv2 ?_ | refine cvb ?_ | refine cvc ?_ | refine cv9 ?_ | refine cva ?_ | refine cv7 ?_ | refine cv8 ?_ | refine cvd ?_ | refine cve ?_ | skip); intro g17) <;> (first | refine j_un ?_ | (refine j_yes ?_; refine j_fieldAddr ?_))))
  all_goals ((first | refine j_un ?_ | (refine j_yes ?_; refine j_load ?_)); (first | refine j_un ?_ | (refine j_yes ?_; refine j_fieldAddr ?_)); (first | refine j_un ?_ | (refine j_yes ?_; refine j_load ?_)); (first | refine j_un ?_ | (refine j_yes ?_; refine j_eql ?_)); refine j_pick ?_; refine j_move ?_)
  all_goals (first | refine j_un ?_ | (refine j_yes ?_; refine j_fieldAddr ?_) | (refine l_case (g := 24) (by exact rfl) (fun g24 => ?_) (fun g24 => ?_) <;> (revert g24; (first | refine cv1 ?_ | refine cv2 ?_ | refine cvb ?_ | refine cvc ?_ | refine cv9 ?_ | refine cva ?_ | refine cv7 ?_ | refine cv8 ?_ | refine cvd ?_ | refine cve ?_ | skip); intro g24) <;> (first | refine j_un ?_ | (refine j_yes ?_; refine j_fieldAddr ?_))))
  all_goals ((first | refine j_un ?_ | (refine j_yes ?_; refine j_load ?_)); (first | refine j_un ?_ | (refine j_yes ?_; refine j_fieldAddr ?_)); (first | refine j_un ?_ | (refine j_yes ?_; refine j_load ?_)); (first | refine j_un ?_ | (refine j_yes ?_; refine j_eql ?_)); refine j_pick ?_; refine j_move ?_)
  all_goals (first | refine j_un ?_ | (refine j_yes ?_; refine j_fieldAddr ?_) | (refine l_case (g := 31) (by exact rfl) (fun g31 => ?_) (fun g31 => ?_) <;> (revert g31; (first | refine cv1 ?_ | refine cv2 ?_ | refine cvb ?_ | refine cvc ?_ | refine cv9 ?_ | refine cva ?_ | refine cv7 ?_ | refine cv8 ?_ | refine cvd ?_ | refine cve ?_ | skip); intro g31) <;> (first | refine j_un ?_ | (refine j_yes ?_; refine j_fieldAddr ?_))))
  all_goals ((first | refine j_un ?_ | (refine j_yes ?_; refine j_load ?_)); (first | refine j_un ?_ | (refine j_yes ?_; refine j_fieldAddr ?_)); (first | refine j_un ?_ | (refine j_yes ?_; refine j_load ?_)); ((first | refine j_un ?_ | (refine j_yes ?_; (refine j_own (cV (hc := fun w1 hw => by simp only [e1, e2]; exact slRef_c (ha.br.keep0 hw.st) (hb.br.keep0 hw.st) ha.brS)) (fun x36 => ?_); try (refine l_fact (fun h36 => ?_)))))); refine j_pick ?_; refine j_move ?_)
  all_goals (first | refine j_un ?_ | (refine j_yes ?_; refine j_fieldAddr ?_) | (refine l_case (g := 38) (by exact rfl) (fun g38 => ?_) (fun g38 => ?_) <;> (revert g38; (first | refine cv1 ?_ | refine cv2 ?_ | refine cvb ?_ | refine cvc ?_ | refine cv9 ?_ | refine cva ?_ | refine cv7 ?_ | refine cv8 ?_ | refine cvd ?_ | refine cve ?_ | skip); intro g38) <;> (first | refine j_un ?_ | (refine j_yes ?_; refine j_fieldAddr ?_))))
  all_goals ((first | refine j_un ?_ | (refine j_yes ?_; refine j_load ?_)); (first | refine j_un ?_ | (refine j_yes ?_; refine j_fieldAddr ?_)); (first | refine j_un ?_ | (refine j_yes ?_; refine j_load ?_)); (first | refine j_un ?_ | (refine j_yes ?_; refine j_eql ?_)); refine j_pick ?_; refine j_move ?_)
  all_goals (first | refine j_un ?_ | (refine j_yes ?_; refine j_fieldAddr ?_) | (refine l_case (g := 45) (by exact rfl) (fun g45 => ?_) (fun g45 => ?_) <;> (revert g45; (first | refine cv1 ?_ | refine cv2 ?_ | refine cvb ?_ | refine cvc ?_ | refine cv9 ?_ | refine cva ?_ | refine cv7 ?_ | refine cv8 ?_ | refine cvd ?_ | refine cve ?_ | skip); intro g45) <;> (first | refine j_un ?_ | (refine j_yes ?_; refine j_fieldAddr ?_))))
  all_goals ((first | refine j_un ?_ | (refine j_yes ?_; refine j_load ?_)); (first | refine j_un ?_ | (refine j_yes ?_; refine j_fieldAddr ?_)); (first | refine j_un ?_ | (refine j_yes ?_; refine j_load ?_)); (first | refine j_un ?_ | (refine j_yes ?_; refine j_seq ?_)); refine j_pick ?_; refine j_move ?_)
  all_goals (first | refine j_un ?_ | (refine j_yes ?_; refine j_fieldAddr ?_) | (refine l_case (g := 52) (by exact rfl) (fun g52 => ?_) (fun g52 => ?_) <;> (revert g52; (first | refine cv1 ?_ | refine cv2 ?_ | refine cvb ?_ | refine cvc ?_ | refine cv9 ?_ | refine cva ?_ | refine cv7 ?_ | refine cv8 ?_ | refine cvd ?_ | refine cve ?_ | skip); intro g52) <;> (first | refine j_un ?_ | (refine j_yes ?_; refine j_fieldAddr ?_))))
  all_goals ((first | refine j_un ?_ | (refine j_yes ?_; refine j_load ?_)); (first | refine j_un ?_ | (refine j_yes ?_; refine j_fieldAddr ?_)); (first | refine j_un ?_ | (refine j_yes ?_; refine j_load ?_)); (first | refine j_un ?_ | (refine j_yes ?_; refine j_eql ?_)); refine j_pick ?_; refine j_move ?_)
  all_goals (first | refine j_un ?_ | (refine j_yes ?_; refine j_fieldAddr ?_) | (refine l_case (g := 59) (by exact rfl) (fun g59 => ?_) (fun g59 => ?_) <;> (revert g59; (first | refine cv1 ?_ | refine cv2 ?_ | refine cvb ?_ | refine cvc ?_ | refine cv9 ?_ | refine cva ?_ | refine cv7 ?_ | refine cv8 ?_ | refine cvd ?_ | refine cve ?_ | skip); intro g59) <;> (first | refine j_un ?_ | (refine j_yes ?_; refine j_fieldAddr ?_))))
  all_goals ((first | refine j_un ?_ | (refine j_yes ?_; refine j_load ?_)); (first | refine j_un ?_ | (refine j_yes ?_; refine j_fieldAddr ?_)); (first | refine j_un ?_ | (refine j_yes ?_; refine j_load ?_)); ((first | refine j_un ?_ | (refine j_yes ?_; (refine j_own (cV (hc := fun w1 hw => by simp only [e3, e4]; exact slPr_c (ha.pr.keep0 hw.st) (hb.pr.keep0 hw.st) ha.prS)) (fun x64 => ?_); try (refine l_fact (fun h64 => ?_)))))); refine j_pick ?_; refine j_move ?_)
  all_goals (first | refine j_un ?_ | (refine j_yes ?_; refine j_fieldAddr ?_) | (refine l_case (g := 66) (by exact rfl) (fun g66 => ?_) (fun g66 => ?_) <;> (revert g66; (first | refine cv1 ?_ | refine cv2 ?_ | refine cvb ?_ | refine cvc ?_ | refine cv9 ?_ | refine cva ?_ | refine cv7 ?_ | refine cv8 ?_ | refine cvd ?_ | refine cve ?_ | skip); intro g66) <;> (first | refine j_un ?_ | (refine j_yes ?_; refine j_fieldAddr ?_))))
  all_goals ((first | refine j_un ?_ | (refine j_yes ?_; refine j_load ?_)); (first | refine j_un ?_ | (refine j_yes ?_; refine j_fieldAddr ?_)); (first | refine j_un ?_ | (refine j_yes ?_; refine j_load ?_)); (first | refine j_un ?_ | (refine j_yes ?_; refine j_eql ?_)); refine j_pick ?_; refine j_move ?_)
  all_goals (first | refine j_un ?_ | (refine j_yes ?_; refine j_fieldAddr ?_) | (refine l_case (g := 73) (by exact rfl) (fun g73 => ?_) (fun g73 => ?_) <;> (revert g73; (first | refine cv1 ?_ | refine cv2 ?_ | refine cvb ?_ | refine cvc ?_ | refine cv9 ?_ | refine cva ?_ | refine cv7 ?_ | refine cv8 ?_ | refine cvd ?_ | refine cve ?_ | skip); intro g73) <;> (first | refine j_un ?_ | (refine j_yes ?_; refine j_fieldAddr ?_))))
  all_goals ((first | refine j_un ?_ | (refine j_yes ?_; refine j_load ?_)); (first | refine j_un ?_ | (refine j_yes ?_; refine j_fieldAddr ?_)); (first | refine j_un ?_ | (refine j_yes ?_; refine j_load ?_)); (first | refine j_un ?_ | (refine j_yes ?_; refine j_eql ?_)); refine j_pick ?_; refine j_move ?_)
  all_goals (first | refine j_un ?_ | (refine j_yes ?_; refine j_fieldAddr ?_) | (refine l_case (g := 80) (by exact rfl) (fun g80 => ?_) (fun g80 => ?_) <;> (revert g80; (first | refine cv1 ?_ | refine cv2 ?_ | refine cvb ?_ | refine cvc ?_ | refine cv9 ?_ | refine cva ?_ | refine cv7 ?_ | refine cv8 ?_ | refine cvd ?_ | refine cve ?_ | skip); intro g80) <;> (first | refine j_un ?_ | (refine j_yes ?_; refine j_fieldAddr ?_))))
  all_goals ((first | refine j_un ?_ | (refine j_yes ?_; refine j_load ?_)); (first | refine j_un ?_ | (refine j_yes ?_; refine j_fieldAddr ?_)); (first | refine j_un ?_ | (refine j_yes ?_; refine j_load ?_)); (first | refine j_un ?_ | (refine j_yes ?_; refine j_eql ?_)); refine j_pick ?_; refine j_move ?_)
  all_goals (first | refine j_un ?_ | (refine j_yes ?_; refine j_fieldAddr ?_) | (refine l_case (g := 87) (by exact rfl) (fun g87 => ?_) (fun g87 => ?_) <;> (revert g87; (first | refine cv1 ?_ | refine cv2 ?_ | refine cvb ?_ | refine cvc ?_ | refine cv9 ?_ | refine cva ?_ | refine cv7 ?_ | refine cv8 ?_ | refine cvd ?_ | refine cve ?_ | skip); intro g87) <;> (first | refine j_un ?_ | (refine j_yes ?_; refine j_fieldAddr ?_))))
  all_goals ((first | refine j_un ?_ | (refine j_yes ?_; refine j_load ?_)); (first | refine j_un ?_ | (refine j_yes ?_; refine j_fieldAddr ?_)); (first | refine j_un ?_ | (refine j_yes ?_; refine j_load ?_)); (first | refine j_un ?_ | (refine j_yes ?_; refine j_eql ?_)); refine j_pick ?_; refine j_move ?_)
  all_goals (first | refine j_un ?_ | (refine j_yes ?_; refine j_fieldAddr ?_) | (refine l_case (g := 94) (by exact rfl) (fun g94 => ?_) (fun g94 => ?_) <;> (revert g94; (first | refine cv1 ?_ | refine cv2 ?_ | refine cvb ?_ | refine cvc ?_ | refine cv9 ?_ | refine cva ?_ | refine cv7 ?_ | refine cv8 ?_ | refine cvd ?_ | refine cve ?_ | skip); intro g94) <;> (first | refine j_un ?_ | (refine j_yes ?_; refine j_fieldAddr ?_))))
  all_goals ((first | refine j_un ?_ | (refine j_yes ?_; refine j_load ?_)); (first | refine j_un ?_ | (refine j_yes ?_; refine j_fieldAddr ?_)); (first | refine j_un ?_ | (refine j_yes ?_; refine j_load ?_)); (first | refine j_un ?_ | (refine j_yes ?_; refine j_eql ?_)); refine j_pick ?_; refine j_assignL (fun _ => ?_); refine l_nil ?_)
  all_goals
   refine k_rv Try.results52 (fun w hw => ?_)
   exact ⟨_, rfl, by simp_all [NdEq], hw.done⟩
theorem main_c (a : Nd) (w : World) : Calls Try.prog 26 #[a.v] w fun e w' => ∃ r : Bool, e = .returned (.bool r) ∧ (r = true ↔ (a.kind = 3 ∨ a.kind = 5 ∨ a.kind = 6)) ∧ St w [] [] w' := by
  refine enter Try.func26 Try.ntmps26 rfl rfl (SF.s0 w) ?_
  simp only [mkS]
  all_goals (refine k_seq ?_; refine k_region ?_; refine j_box (fun x1 => ?_); refine j_assignL (fun _ => ?_); refine l_nil ?_; refine k_seq ?_; refine k_seq ?_; refine k_region ?_; refine j_fieldAddr ?_; refine j_load ?_; refine l_nil ?_; refine k_block ?_; refine k_seq ?_; refine k_seq ?_; refine k_region ?_; refine j_eql ?_; refine j_assignL (fun _ => ?_); refine l_nil ?_)
  all_goals
   refine k_if (fun c5 => ?_) (fun c5 => ?_)
   · try (exact absurd c5 (by decide))
     all_goals (revert c5; (first | refine cv1 ?_ | refine cv3 ?_ | refine cv5 ?_ | refine cv7 ?_ | refine cv9 ?_ | refine cvb ?_ | refine cvd ?_ | skip); intro c5)
     all_goals refine k_skip ?_
     all_goals
      refine k_if (fun c5 => ?_) (fun c5 => ?_)
      · try (exact absurd c5 (by decide))
        all_goals (revert c5; (first | refine cv1 ?_ | refine cv3 ?_ | refine cv5 ?_ | refine cv7 ?_ | refine cv9 ?_ | refine cvb ?_ | refine cvd ?_ | skip); intro c5)
        all_goals (refine k_seq ?_; refine k_region ?_; refine j_assignL (fun _ => ?_); refine l_nil ?_)
        all_goals
         refine k_rv Try.results26 (fun w hw => ?_)
         exact ⟨_, rfl, by simp_all, hw.done⟩
      · try (exact absurd c5 (by decide))
        all_goals (revert c5; (first | refine cv2 ?_ | refine cv4 ?_ | refine cv6 ?_ | refine cv8 ?_ | refine cva ?_ | refine cvc ?_ | refine cve ?_ | skip); intro c5)
        all_goals (refine k_skip ?_; refine k_blk ?_; refine k_seq ?_; refine k_region ?_; refine j_assignL (fun _ => ?_); refine l_nil ?_)
        all_goals
         refine k_rv Try.results26 (fun w hw => ?_)
         exact ⟨_, rfl, by simp_all, hw.done⟩
   · try (exact absurd c5 (by decide))
     all_goals (revert c5; (first | refine cv2 ?_ | refine cv4 ?_ | refine cv6 ?_ | refine cv8 ?_ | refine cva ?_ | refine cvc ?_ | refine cve ?_ | skip); intro c5)
     all_goals (refine k_seq ?_; refine k_region ?_; refine j_eql ?_; refine j_assignL (fun _ => ?_); refine l_nil ?_)
     all_goals
      refine k_if (fun c5 => ?_) (fun c5 => ?_)
      · try (exact absurd c5 (by decide))
        all_goals (revert c5; (first | refine cv1 ?_ | refine cv3 ?_ | refine cv5 ?_ | refine cv7 ?_ | refine cv9 ?_ | refine cvb ?_ | refine cvd ?_ | skip); intro c5)
        all_goals refine k_skip ?_
        all_goals
         refine k_if (fun c5 => ?_) (fun c5 => ?_)
         · try (exact absurd c5 (by decide))
           all_goals (revert c5; (first | refine cv1 ?_ | refine cv3 ?_ | refine cv5 ?_ | refine cv7 ?_ | refine cv9 ?_ | refine cvb ?_ | refine cvd ?_ | skip); intro c5)
           all_goals (refine k_seq ?_; refine k_region ?_; refine j_assignL (fun _ => ?_); refine l_nil ?_)
           all_goals
            refine k_rv Try.results26 (fun w hw => ?_)
            exact ⟨_, rfl, by simp_all, hw.done⟩
         · try (exact absurd c5 (by decide))
           all_goals (revert c5; (first | refine cv2 ?_ | refine cv4 ?_ | refine cv6 ?_ | refine cv8 ?_ | refine cva ?_ | refine cvc ?_ | refine cve ?_ | skip); intro c5)
           all_goals (refine k_skip ?_; refine k_blk ?_; refine k_seq ?_; refine k_region ?_; refine j_assignL (fun _ => ?_); refine l_nil ?_)
           all_goals
            refine k_rv Try.results26 (fun w hw => ?_)
            exact ⟨_, rfl, by simp_all, hw.done⟩
      · try (exact absurd c5 (by decide))
        all_goals (revert c5; (first | refine cv2 ?_ | refine cv4 ?_ | refine cv6 ?_ | refine cv8 ?_ | refine cva ?_ | refine cvc ?_ | refine cve ?_ | skip); intro c5)
        all_goals (refine k_region ?_; refine j_eql ?_; refine j_assignL (fun _ => ?_); refine l_nil ?_)
        all_goals
         refine k_if (fun c5 => ?_) (fun c5 => ?_)
         · try (exact absurd c5 (by decide))
           all_goals (revert c5; (first | refine cv1 ?_ | refine cv3 ?_ | refine cv5 ?_ | refine cv7 ?_ | refine cv9 ?_ | refine cvb ?_ | refine cvd ?_ | skip); intro c5)
           all_goals (refine k_seq ?_; refine k_region ?_; refine j_assignL (fun _ => ?_); refine l_nil ?_)
           all_goals
            refine k_rv Try.results26 (fun w hw => ?_)
            exact ⟨_, rfl, by simp_all, hw.done⟩
         · try (exact absurd c5 (by decide))
           all_goals (revert c5; (first | refine cv2 ?_ | refine cv4 ?_ | refine cv6 ?_ | refine cv8 ?_ | refine cva ?_ | refine cvc ?_ | refine cve ?_ | skip); intro c5)
           all_goals (refine k_skip ?_; refine k_blk ?_; refine k_seq ?_; refine k_region ?_; refine j_assignL (fun _ => ?_); refine l_nil ?_)
           all_goals
            refine k_rv Try.results26 (fun w hw => ?_)
            exact ⟨_, rfl, by simp_all, hw.done⟩
end Go.Proofs.Ytpfjjagcmjmfpaa
