/- Nodes are compared. -/
import Derived.Test.YtmogngagpphnhaaSlices
set_option linter.unusedSimpArgs false
set_option linter.unusedVariables false
namespace Go.Proofs.Ytmogngagpphnhaa
open Go.RowKit Go.Ct

theorem refEq_c {a b : Nd} {x1 x2 : List Int} {y1 y2 : List Pr} {w : World} (ha : Rep w a x1 y1) (hb : Rep w b x2 y2) :
    Calls Try.prog 30 #[a.v, b.v] w fun e w' => ∃ r : Bool, e = .returned (.bool r) ∧ (r = true ↔ NdEq a b x1 x2 y1 y2) ∧ St w [] [] w' := by
  have e1 := ha.brN; have e2 := hb.brN; have e3 := ha.prN; have e4 := hb.prN
  refine enter Try.func30 Try.ntmps30 rfl rfl (SF.s0 w) ?_
  simp only [mkS]
  all_goals (refine k_seq ?_)
  all_goals refine k_region ?_
  all_goals refine j_box (fun x2 => ?_)
  all_goals refine j_box (fun x3 => ?_)
  all_goals refine j_assignL (fun _ => ?_)
  all_goals refine l_nil ?_
  all_goals (refine k_seq ?_)
  all_goals (refine k_seq ?_)
  all_goals refine k_region ?_
  all_goals refine j_fieldAddr ?_
  all_goals refine j_load ?_
  all_goals refine j_fieldAddr ?_
  all_goals refine j_load ?_
  all_goals refine j_neq ?_
  all_goals refine j_move ?_
  all_goals (first | refine j_un ?_ | (refine j_yes ?_; refine j_fieldAddr ?_) | (refine l_case (g := 10) (by exact rfl) (fun g10 => ?_) (fun g10 => ?_) <;> (first | replace g10 := of_decide_eq_true g10 | replace g10 := of_decide_eq_false g10 | replace g10 := ndec_t g10 | replace g10 := ndec_f g10 | replace g10 := ibne_t g10 | replace g10 := ibne_f g10 | replace g10 := ibeq_t g10 | replace g10 := ibeq_f g10 | replace g10 := not_t g10 | replace g10 := not_f g10 | skip) <;> (first | refine j_un ?_ | (refine j_yes ?_; refine j_fieldAddr ?_))))
  all_goals (first | refine j_un ?_ | (refine j_yes ?_; refine j_load ?_))
  all_goals (first | refine j_un ?_ | (refine j_yes ?_; refine j_fieldAddr ?_))
  all_goals (first | refine j_un ?_ | (refine j_yes ?_; refine j_load ?_))
  all_goals (first | refine j_un ?_ | (refine j_yes ?_; refine j_neq ?_))
  all_goals refine j_pick ?_
  all_goals refine j_move ?_
  all_goals (first | refine j_un ?_ | (refine j_yes ?_; refine j_fieldAddr ?_) | (refine l_case (g := 17) (by exact rfl) (fun g17 => ?_) (fun g17 => ?_) <;> (first | replace g17 := of_decide_eq_true g17 | replace g17 := of_decide_eq_false g17 | replace g17 := ndec_t g17 | replace g17 := ndec_f g17 | replace g17 := ibne_t g17 | replace g17 := ibne_f g17 | replace g17 := ibeq_t g17 | replace g17 := ibeq_f g17 | replace g17 := not_t g17 | replace g17 := not_f g17 | skip) <;> (first | refine j_un ?_ | (refine j_yes ?_; refine j_fieldAddr ?_))))
  all_goals (first | refine j_un ?_ | (refine j_yes ?_; refine j_load ?_))
  all_goals (first | refine j_un ?_ | (refine j_yes ?_; refine j_fieldAddr ?_))
  all_goals (first | refine j_un ?_ | (refine j_yes ?_; refine j_load ?_))
  all_goals (first | refine j_un ?_ | (refine j_yes ?_; refine j_neq ?_))
  all_goals refine j_pick ?_
  all_goals refine j_move ?_
  all_goals (first | refine j_un ?_ | (refine j_yes ?_; refine j_fieldAddr ?_) | (refine l_case (g := 24) (by exact rfl) (fun g24 => ?_) (fun g24 => ?_) <;> (first | replace g24 := of_decide_eq_true g24 | replace g24 := of_decide_eq_false g24 | replace g24 := ndec_t g24 | replace g24 := ndec_f g24 | replace g24 := ibne_t g24 | replace g24 := ibne_f g24 | replace g24 := ibeq_t g24 | replace g24 := ibeq_f g24 | replace g24 := not_t g24 | replace g24 := not_f g24 | skip) <;> (first | refine j_un ?_ | (refine j_yes ?_; refine j_fieldAddr ?_))))
  all_goals (first | refine j_un ?_ | (refine j_yes ?_; refine j_load ?_))
  all_goals (first | refine j_un ?_ | (refine j_yes ?_; refine j_fieldAddr ?_))
  all_goals (first | refine j_un ?_ | (refine j_yes ?_; refine j_load ?_))
  all_goals (first | refine j_un ?_ | (refine j_yes ?_; refine j_neq ?_))
  all_goals refine j_pick ?_
  all_goals refine j_move ?_
  all_goals (first | refine j_un ?_ | (refine j_yes ?_; refine j_fieldAddr ?_) | (refine l_case (g := 31) (by exact rfl) (fun g31 => ?_) (fun g31 => ?_) <;> (first | replace g31 := of_decide_eq_true g31 | replace g31 := of_decide_eq_false g31 | replace g31 := ndec_t g31 | replace g31 := ndec_f g31 | replace g31 := ibne_t g31 | replace g31 := ibne_f g31 | replace g31 := ibeq_t g31 | replace g31 := ibeq_f g31 | replace g31 := not_t g31 | replace g31 := not_f g31 | skip) <;> (first | refine j_un ?_ | (refine j_yes ?_; refine j_fieldAddr ?_))))
  all_goals (first | refine j_un ?_ | (refine j_yes ?_; refine j_load ?_))
  all_goals (first | refine j_un ?_ | (refine j_yes ?_; refine j_fieldAddr ?_))
  all_goals (first | refine j_un ?_ | (refine j_yes ?_; refine j_load ?_))
  all_goals (first | refine j_un ?_ | (refine j_yes ?_; refine j_neq ?_))
  all_goals refine j_pick ?_
  all_goals refine j_move ?_
  all_goals (first | refine j_un ?_ | (refine j_yes ?_; refine j_fieldAddr ?_) | (refine l_case (g := 38) (by exact rfl) (fun g38 => ?_) (fun g38 => ?_) <;> (first | replace g38 := of_decide_eq_true g38 | replace g38 := of_decide_eq_false g38 | replace g38 := ndec_t g38 | replace g38 := ndec_f g38 | replace g38 := ibne_t g38 | replace g38 := ibne_f g38 | replace g38 := ibeq_t g38 | replace g38 := ibeq_f g38 | replace g38 := not_t g38 | replace g38 := not_f g38 | skip) <;> (first | refine j_un ?_ | (refine j_yes ?_; refine j_fieldAddr ?_))))
  all_goals (first | refine j_un ?_ | (refine j_yes ?_; refine j_load ?_))
  all_goals (first | refine j_un ?_ | (refine j_yes ?_; refine j_fieldAddr ?_))
  all_goals (first | refine j_un ?_ | (refine j_yes ?_; refine j_load ?_))
  all_goals (first | refine j_un ?_ | (refine j_yes ?_; refine j_sne ?_))
  all_goals refine j_pick ?_
  all_goals refine j_move ?_
  all_goals (first | refine j_un ?_ | (refine j_yes ?_; refine j_fieldAddr ?_) | (refine l_case (g := 45) (by exact rfl) (fun g45 => ?_) (fun g45 => ?_) <;> (first | replace g45 := of_decide_eq_true g45 | replace g45 := of_decide_eq_false g45 | replace g45 := ndec_t g45 | replace g45 := ndec_f g45 | replace g45 := ibne_t g45 | replace g45 := ibne_f g45 | replace g45 := ibeq_t g45 | replace g45 := ibeq_f g45 | replace g45 := not_t g45 | replace g45 := not_f g45 | skip) <;> (first | refine j_un ?_ | (refine j_yes ?_; refine j_fieldAddr ?_))))
  all_goals (first | refine j_un ?_ | (refine j_yes ?_; refine j_load ?_))
  all_goals (first | refine j_un ?_ | (refine j_yes ?_; refine j_fieldAddr ?_))
  all_goals (first | refine j_un ?_ | (refine j_yes ?_; refine j_load ?_))
  all_goals (first | refine j_un ?_ | (refine j_yes ?_; refine j_neq ?_))
  all_goals refine j_pick ?_
  all_goals refine l_nil ?_
  all_goals
    refine k_cond (by exact rfl) (fun c51 => ?_) (fun c51 => ?_)
    · try (exact absurd c51 (by decide))
      all_goals (first | replace c51 := of_decide_eq_true c51 | replace c51 := sbeq_t c51 | replace c51 := sbne_t c51 | replace c51 := ibeq_t c51 | replace c51 := ibne_t c51 | replace c51 := ndec_t c51 | replace c51 := not_t c51 | skip)
      all_goals (refine k_seq ?_)
      all_goals refine k_region ?_
      all_goals refine j_assignL (fun _ => ?_)
      all_goals refine l_nil ?_
      all_goals
        refine k_retvF Try.results30 (.tmp (by conv => { lhs; whnf }) .nil) (fun w hw => ?_)
        exact ⟨_, rfl, by simp_all [NdEq], hw.done⟩
    · try (exact absurd c51 (by decide))
      all_goals (first | replace c51 := of_decide_eq_false c51 | replace c51 := sbeq_f c51 | replace c51 := sbne_f c51 | replace c51 := ibeq_f c51 | replace c51 := ibne_f c51 | replace c51 := ndec_f c51 | replace c51 := not_f c51 | skip)
      all_goals (refine k_skip ?_)
      all_goals (refine k_seq ?_)
      all_goals refine k_region ?_
      all_goals refine j_fieldAddr ?_
      all_goals refine j_load ?_
      all_goals refine j_fieldAddr ?_
      all_goals refine j_load ?_
      all_goals (refine j_own (cV (hc := fun w1 hw => by simp only [e1, e2]; exact refs_c (ha.br.keep0 hw.st) (hb.br.keep0 hw.st) ha.brS)) (fun x56 => ?_); try (refine l_fact (fun h56 => ?_)))
      all_goals refine j_move ?_
      all_goals (first | refine j_un ?_ | (refine j_yes ?_; refine j_fieldAddr ?_) | (refine l_case (g := 57) (by exact rfl) (fun g57 => ?_) (fun g57 => ?_) <;> (first | replace g57 := of_decide_eq_true g57 | replace g57 := of_decide_eq_false g57 | replace g57 := ndec_t g57 | replace g57 := ndec_f g57 | replace g57 := ibne_t g57 | replace g57 := ibne_f g57 | replace g57 := ibeq_t g57 | replace g57 := ibeq_f g57 | replace g57 := not_t g57 | replace g57 := not_f g57 | skip) <;> (first | refine j_un ?_ | (refine j_yes ?_; refine j_fieldAddr ?_))))
      all_goals (first | refine j_un ?_ | (refine j_yes ?_; refine j_load ?_))
      all_goals (first | refine j_un ?_ | (refine j_yes ?_; refine j_fieldAddr ?_))
      all_goals (first | refine j_un ?_ | (refine j_yes ?_; refine j_load ?_))
      all_goals (first | refine j_un ?_ | (refine j_yes ?_; (refine j_own (cV (hc := fun w1 hw => by simp only [e3, e4]; exact prs_c (ha.pr.keep0 hw.st) (hb.pr.keep0 hw.st) ha.prS)) (fun x62 => ?_); try (refine l_fact (fun h62 => ?_)))))
      all_goals refine j_pick ?_
      all_goals refine j_move ?_
      all_goals (first | refine j_un ?_ | (refine j_yes ?_; refine j_fieldAddr ?_) | (refine l_case (g := 64) (by exact rfl) (fun g64 => ?_) (fun g64 => ?_) <;> (first | replace g64 := of_decide_eq_true g64 | replace g64 := of_decide_eq_false g64 | replace g64 := ndec_t g64 | replace g64 := ndec_f g64 | replace g64 := ibne_t g64 | replace g64 := ibne_f g64 | replace g64 := ibeq_t g64 | replace g64 := ibeq_f g64 | replace g64 := not_t g64 | replace g64 := not_f g64 | skip) <;> (first | refine j_un ?_ | (refine j_yes ?_; refine j_fieldAddr ?_))))
      all_goals (first | refine j_un ?_ | (refine j_yes ?_; refine j_load ?_))
      all_goals (first | refine j_un ?_ | (refine j_yes ?_; refine j_fieldAddr ?_))
      all_goals (first | refine j_un ?_ | (refine j_yes ?_; refine j_load ?_))
      all_goals (first | refine j_un ?_ | (refine j_yes ?_; refine j_eql ?_))
      all_goals refine j_pick ?_
      all_goals refine j_move ?_
      all_goals (first | refine j_un ?_ | (refine j_yes ?_; refine j_fieldAddr ?_) | (refine l_case (g := 71) (by exact rfl) (fun g71 => ?_) (fun g71 => ?_) <;> (first | replace g71 := of_decide_eq_true g71 | replace g71 := of_decide_eq_false g71 | replace g71 := ndec_t g71 | replace g71 := ndec_f g71 | replace g71 := ibne_t g71 | replace g71 := ibne_f g71 | replace g71 := ibeq_t g71 | replace g71 := ibeq_f g71 | replace g71 := not_t g71 | replace g71 := not_f g71 | skip) <;> (first | refine j_un ?_ | (refine j_yes ?_; refine j_fieldAddr ?_))))
      all_goals (first | refine j_un ?_ | (refine j_yes ?_; refine j_load ?_))
      all_goals (first | refine j_un ?_ | (refine j_yes ?_; refine j_fieldAddr ?_))
      all_goals (first | refine j_un ?_ | (refine j_yes ?_; refine j_load ?_))
      all_goals (first | refine j_un ?_ | (refine j_yes ?_; refine j_eql ?_))
      all_goals refine j_pick ?_
      all_goals refine j_move ?_
      all_goals (first | refine j_un ?_ | (refine j_yes ?_; refine j_fieldAddr ?_) | (refine l_case (g := 78) (by exact rfl) (fun g78 => ?_) (fun g78 => ?_) <;> (first | replace g78 := of_decide_eq_true g78 | replace g78 := of_decide_eq_false g78 | replace g78 := ndec_t g78 | replace g78 := ndec_f g78 | replace g78 := ibne_t g78 | replace g78 := ibne_f g78 | replace g78 := ibeq_t g78 | replace g78 := ibeq_f g78 | replace g78 := not_t g78 | replace g78 := not_f g78 | skip) <;> (first | refine j_un ?_ | (refine j_yes ?_; refine j_fieldAddr ?_))))
      all_goals (first | refine j_un ?_ | (refine j_yes ?_; refine j_load ?_))
      all_goals (first | refine j_un ?_ | (refine j_yes ?_; refine j_fieldAddr ?_))
      all_goals (first | refine j_un ?_ | (refine j_yes ?_; refine j_load ?_))
      all_goals (first | refine j_un ?_ | (refine j_yes ?_; refine j_eql ?_))
      all_goals refine j_pick ?_
      all_goals refine j_move ?_
      all_goals (first | refine j_un ?_ | (refine j_yes ?_; refine j_fieldAddr ?_) | (refine l_case (g := 85) (by exact rfl) (fun g85 => ?_) (fun g85 => ?_) <;> (first | replace g85 := of_decide_eq_true g85 | replace g85 := of_decide_eq_false g85 | replace g85 := ndec_t g85 | replace g85 := ndec_f g85 | replace g85 := ibne_t g85 | replace g85 := ibne_f g85 | replace g85 := ibeq_t g85 | replace g85 := ibeq_f g85 | replace g85 := not_t g85 | replace g85 := not_f g85 | skip) <;> (first | refine j_un ?_ | (refine j_yes ?_; refine j_fieldAddr ?_))))
      all_goals (first | refine j_un ?_ | (refine j_yes ?_; refine j_load ?_))
      all_goals (first | refine j_un ?_ | (refine j_yes ?_; refine j_fieldAddr ?_))
      all_goals (first | refine j_un ?_ | (refine j_yes ?_; refine j_load ?_))
      all_goals (first | refine j_un ?_ | (refine j_yes ?_; refine j_eql ?_))
      all_goals refine j_pick ?_
      all_goals refine j_move ?_
      all_goals (first | refine j_un ?_ | (refine j_yes ?_; refine j_fieldAddr ?_) | (refine l_case (g := 92) (by exact rfl) (fun g92 => ?_) (fun g92 => ?_) <;> (first | replace g92 := of_decide_eq_true g92 | replace g92 := of_decide_eq_false g92 | replace g92 := ndec_t g92 | replace g92 := ndec_f g92 | replace g92 := ibne_t g92 | replace g92 := ibne_f g92 | replace g92 := ibeq_t g92 | replace g92 := ibeq_f g92 | replace g92 := not_t g92 | replace g92 := not_f g92 | skip) <;> (first | refine j_un ?_ | (refine j_yes ?_; refine j_fieldAddr ?_))))
      all_goals (first | refine j_un ?_ | (refine j_yes ?_; refine j_load ?_))
      all_goals (first | refine j_un ?_ | (refine j_yes ?_; refine j_fieldAddr ?_))
      all_goals (first | refine j_un ?_ | (refine j_yes ?_; refine j_load ?_))
      all_goals (first | refine j_un ?_ | (refine j_yes ?_; refine j_eql ?_))
      all_goals refine j_pick ?_
      all_goals refine j_assignL (fun _ => ?_)
      all_goals refine l_nil ?_
      all_goals
        refine k_retvF Try.results30 (.tmp (by conv => { lhs; whnf }) .nil) (fun w hw => ?_)
        exact ⟨_, rfl, by simp_all [NdEq], hw.done⟩

theorem ndEq_c {a b : Nd} {x1 x2 : List Int} {y1 y2 : List Pr} {w : World} (ha : Rep w a x1 y1) (hb : Rep w b x2 y2) :
    Calls Try.prog 122 #[a.v, b.v] w fun e w' => ∃ r : Bool, e = .returned (.bool r) ∧ (r = true ↔ NdEq a b x1 x2 y1 y2) ∧ St w [] [] w' := by
  have e1 := ha.brN; have e2 := hb.brN; have e3 := ha.prN; have e4 := hb.prN
  refine enter Try.func122 Try.ntmps122 rfl rfl (SF.s0 w) ?_
  simp only [mkS]
  all_goals (refine k_seq ?_)
  all_goals refine k_region ?_
  all_goals refine j_box (fun x2 => ?_)
  all_goals refine j_box (fun x3 => ?_)
  all_goals refine j_assignL (fun _ => ?_)
  all_goals refine l_nil ?_
  all_goals (refine k_seq ?_)
  all_goals refine k_regionA (by dsimp only [List.append]) ?_
  all_goals refine j_fieldAddr ?_
  all_goals refine j_load ?_
  all_goals refine j_fieldAddr ?_
  all_goals refine j_load ?_
  all_goals refine j_eql ?_
  all_goals refine j_move ?_
  all_goals (first | refine j_un ?_ | (refine j_yes ?_; refine j_fieldAddr ?_) | (refine l_case (g := 10) (by exact rfl) (fun g10 => ?_) (fun g10 => ?_) <;> (first | replace g10 := of_decide_eq_true g10 | replace g10 := of_decide_eq_false g10 | replace g10 := ndec_t g10 | replace g10 := ndec_f g10 | replace g10 := ibne_t g10 | replace g10 := ibne_f g10 | replace g10 := ibeq_t g10 | replace g10 := ibeq_f g10 | replace g10 := not_t g10 | replace g10 := not_f g10 | skip) <;> (first | refine j_un ?_ | (refine j_yes ?_; refine j_fieldAddr ?_))))
  all_goals (first | refine j_un ?_ | (refine j_yes ?_; refine j_load ?_))
  all_goals (first | refine j_un ?_ | (refine j_yes ?_; refine j_fieldAddr ?_))
  all_goals (first | refine j_un ?_ | (refine j_yes ?_; refine j_load ?_))
  all_goals (first | refine j_un ?_ | (refine j_yes ?_; refine j_eql ?_))
  all_goals refine j_pick ?_
  all_goals refine j_move ?_
  all_goals (first | refine j_un ?_ | (refine j_yes ?_; refine j_fieldAddr ?_) | (refine l_case (g := 17) (by exact rfl) (fun g17 => ?_) (fun g17 => ?_) <;> (first | replace g17 := of_decide_eq_true g17 | replace g17 := of_decide_eq_false g17 | replace g17 := ndec_t g17 | replace g17 := ndec_f g17 | replace g17 := ibne_t g17 | replace g17 := ibne_f g17 | replace g17 := ibeq_t g17 | replace g17 := ibeq_f g17 | replace g17 := not_t g17 | replace g17 := not_f g17 | skip) <;> (first | refine j_un ?_ | (refine j_yes ?_; refine j_fieldAddr ?_))))
  all_goals (first | refine j_un ?_ | (refine j_yes ?_; refine j_load ?_))
  all_goals (first | refine j_un ?_ | (refine j_yes ?_; refine j_fieldAddr ?_))
  all_goals (first | refine j_un ?_ | (refine j_yes ?_; refine j_load ?_))
  all_goals (first | refine j_un ?_ | (refine j_yes ?_; refine j_eql ?_))
  all_goals refine j_pick ?_
  all_goals refine j_move ?_
  all_goals (first | refine j_un ?_ | (refine j_yes ?_; refine j_fieldAddr ?_) | (refine l_case (g := 24) (by exact rfl) (fun g24 => ?_) (fun g24 => ?_) <;> (first | replace g24 := of_decide_eq_true g24 | replace g24 := of_decide_eq_false g24 | replace g24 := ndec_t g24 | replace g24 := ndec_f g24 | replace g24 := ibne_t g24 | replace g24 := ibne_f g24 | replace g24 := ibeq_t g24 | replace g24 := ibeq_f g24 | replace g24 := not_t g24 | replace g24 := not_f g24 | skip) <;> (first | refine j_un ?_ | (refine j_yes ?_; refine j_fieldAddr ?_))))
  all_goals (first | refine j_un ?_ | (refine j_yes ?_; refine j_load ?_))
  all_goals (first | refine j_un ?_ | (refine j_yes ?_; refine j_fieldAddr ?_))
  all_goals (first | refine j_un ?_ | (refine j_yes ?_; refine j_load ?_))
  all_goals (first | refine j_un ?_ | (refine j_yes ?_; refine j_eql ?_))
  all_goals refine j_pick ?_
  all_goals refine j_move ?_
  all_goals (first | refine j_un ?_ | (refine j_yes ?_; refine j_fieldAddr ?_) | (refine l_case (g := 31) (by exact rfl) (fun g31 => ?_) (fun g31 => ?_) <;> (first | replace g31 := of_decide_eq_true g31 | replace g31 := of_decide_eq_false g31 | replace g31 := ndec_t g31 | replace g31 := ndec_f g31 | replace g31 := ibne_t g31 | replace g31 := ibne_f g31 | replace g31 := ibeq_t g31 | replace g31 := ibeq_f g31 | replace g31 := not_t g31 | replace g31 := not_f g31 | skip) <;> (first | refine j_un ?_ | (refine j_yes ?_; refine j_fieldAddr ?_))))
  all_goals (first | refine j_un ?_ | (refine j_yes ?_; refine j_load ?_))
  all_goals (first | refine j_un ?_ | (refine j_yes ?_; refine j_fieldAddr ?_))
  all_goals (first | refine j_un ?_ | (refine j_yes ?_; refine j_load ?_))
  all_goals (first | refine j_un ?_ | (refine j_yes ?_; (refine j_own (cV (hc := fun w1 hw => by simp only [e1, e2]; exact slRef_c (ha.br.keep0 hw.st) (hb.br.keep0 hw.st) ha.brS)) (fun x36 => ?_); try (refine l_fact (fun h36 => ?_)))))
  all_goals refine j_pick ?_
  all_goals refine j_move ?_
  all_goals (first | refine j_un ?_ | (refine j_yes ?_; refine j_fieldAddr ?_) | (refine l_case (g := 38) (by exact rfl) (fun g38 => ?_) (fun g38 => ?_) <;> (first | replace g38 := of_decide_eq_true g38 | replace g38 := of_decide_eq_false g38 | replace g38 := ndec_t g38 | replace g38 := ndec_f g38 | replace g38 := ibne_t g38 | replace g38 := ibne_f g38 | replace g38 := ibeq_t g38 | replace g38 := ibeq_f g38 | replace g38 := not_t g38 | replace g38 := not_f g38 | skip) <;> (first | refine j_un ?_ | (refine j_yes ?_; refine j_fieldAddr ?_))))
  all_goals (first | refine j_un ?_ | (refine j_yes ?_; refine j_load ?_))
  all_goals (first | refine j_un ?_ | (refine j_yes ?_; refine j_fieldAddr ?_))
  all_goals (first | refine j_un ?_ | (refine j_yes ?_; refine j_load ?_))
  all_goals (first | refine j_un ?_ | (refine j_yes ?_; refine j_eql ?_))
  all_goals refine j_pick ?_
  all_goals refine j_move ?_
  all_goals (first | refine j_un ?_ | (refine j_yes ?_; refine j_fieldAddr ?_) | (refine l_case (g := 45) (by exact rfl) (fun g45 => ?_) (fun g45 => ?_) <;> (first | replace g45 := of_decide_eq_true g45 | replace g45 := of_decide_eq_false g45 | replace g45 := ndec_t g45 | replace g45 := ndec_f g45 | replace g45 := ibne_t g45 | replace g45 := ibne_f g45 | replace g45 := ibeq_t g45 | replace g45 := ibeq_f g45 | replace g45 := not_t g45 | replace g45 := not_f g45 | skip) <;> (first | refine j_un ?_ | (refine j_yes ?_; refine j_fieldAddr ?_))))
  all_goals (first | refine j_un ?_ | (refine j_yes ?_; refine j_load ?_))
  all_goals (first | refine j_un ?_ | (refine j_yes ?_; refine j_fieldAddr ?_))
  all_goals (first | refine j_un ?_ | (refine j_yes ?_; refine j_load ?_))
  all_goals (first | refine j_un ?_ | (refine j_yes ?_; refine j_seq ?_))
  all_goals refine j_pick ?_
  all_goals refine j_move ?_
  all_goals (first | refine j_un ?_ | (refine j_yes ?_; refine j_fieldAddr ?_) | (refine l_case (g := 52) (by exact rfl) (fun g52 => ?_) (fun g52 => ?_) <;> (first | replace g52 := of_decide_eq_true g52 | replace g52 := of_decide_eq_false g52 | replace g52 := ndec_t g52 | replace g52 := ndec_f g52 | replace g52 := ibne_t g52 | replace g52 := ibne_f g52 | replace g52 := ibeq_t g52 | replace g52 := ibeq_f g52 | replace g52 := not_t g52 | replace g52 := not_f g52 | skip) <;> (first | refine j_un ?_ | (refine j_yes ?_; refine j_fieldAddr ?_))))
  all_goals (first | refine j_un ?_ | (refine j_yes ?_; refine j_load ?_))
  all_goals (first | refine j_un ?_ | (refine j_yes ?_; refine j_fieldAddr ?_))
  all_goals (first | refine j_un ?_ | (refine j_yes ?_; refine j_load ?_))
  all_goals (first | refine j_un ?_ | (refine j_yes ?_; refine j_eql ?_))
  all_goals refine j_pick ?_
  all_goals refine j_move ?_
  all_goals (first | refine j_un ?_ | (refine j_yes ?_; refine j_fieldAddr ?_) | (refine l_case (g := 59) (by exact rfl) (fun g59 => ?_) (fun g59 => ?_) <;> (first | replace g59 := of_decide_eq_true g59 | replace g59 := of_decide_eq_false g59 | replace g59 := ndec_t g59 | replace g59 := ndec_f g59 | replace g59 := ibne_t g59 | replace g59 := ibne_f g59 | replace g59 := ibeq_t g59 | replace g59 := ibeq_f g59 | replace g59 := not_t g59 | replace g59 := not_f g59 | skip) <;> (first | refine j_un ?_ | (refine j_yes ?_; refine j_fieldAddr ?_))))
  all_goals (first | refine j_un ?_ | (refine j_yes ?_; refine j_load ?_))
  all_goals (first | refine j_un ?_ | (refine j_yes ?_; refine j_fieldAddr ?_))
  all_goals (first | refine j_un ?_ | (refine j_yes ?_; refine j_load ?_))
  all_goals (first | refine j_un ?_ | (refine j_yes ?_; (refine j_own (cV (hc := fun w1 hw => by simp only [e3, e4]; exact slPr_c (ha.pr.keep0 hw.st) (hb.pr.keep0 hw.st) ha.prS)) (fun x64 => ?_); try (refine l_fact (fun h64 => ?_)))))
  all_goals refine j_pick ?_
  all_goals refine j_move ?_
  all_goals (first | refine j_un ?_ | (refine j_yes ?_; refine j_fieldAddr ?_) | (refine l_case (g := 66) (by exact rfl) (fun g66 => ?_) (fun g66 => ?_) <;> (first | replace g66 := of_decide_eq_true g66 | replace g66 := of_decide_eq_false g66 | replace g66 := ndec_t g66 | replace g66 := ndec_f g66 | replace g66 := ibne_t g66 | replace g66 := ibne_f g66 | replace g66 := ibeq_t g66 | replace g66 := ibeq_f g66 | replace g66 := not_t g66 | replace g66 := not_f g66 | skip) <;> (first | refine j_un ?_ | (refine j_yes ?_; refine j_fieldAddr ?_))))
  all_goals (first | refine j_un ?_ | (refine j_yes ?_; refine j_load ?_))
  all_goals (first | refine j_un ?_ | (refine j_yes ?_; refine j_fieldAddr ?_))
  all_goals (first | refine j_un ?_ | (refine j_yes ?_; refine j_load ?_))
  all_goals (first | refine j_un ?_ | (refine j_yes ?_; refine j_eql ?_))
  all_goals refine j_pick ?_
  all_goals refine j_move ?_
  all_goals (first | refine j_un ?_ | (refine j_yes ?_; refine j_fieldAddr ?_) | (refine l_case (g := 73) (by exact rfl) (fun g73 => ?_) (fun g73 => ?_) <;> (first | replace g73 := of_decide_eq_true g73 | replace g73 := of_decide_eq_false g73 | replace g73 := ndec_t g73 | replace g73 := ndec_f g73 | replace g73 := ibne_t g73 | replace g73 := ibne_f g73 | replace g73 := ibeq_t g73 | replace g73 := ibeq_f g73 | replace g73 := not_t g73 | replace g73 := not_f g73 | skip) <;> (first | refine j_un ?_ | (refine j_yes ?_; refine j_fieldAddr ?_))))
  all_goals (first | refine j_un ?_ | (refine j_yes ?_; refine j_load ?_))
  all_goals (first | refine j_un ?_ | (refine j_yes ?_; refine j_fieldAddr ?_))
  all_goals (first | refine j_un ?_ | (refine j_yes ?_; refine j_load ?_))
  all_goals (first | refine j_un ?_ | (refine j_yes ?_; refine j_eql ?_))
  all_goals refine j_pick ?_
  all_goals refine j_move ?_
  all_goals (first | refine j_un ?_ | (refine j_yes ?_; refine j_fieldAddr ?_) | (refine l_case (g := 80) (by exact rfl) (fun g80 => ?_) (fun g80 => ?_) <;> (first | replace g80 := of_decide_eq_true g80 | replace g80 := of_decide_eq_false g80 | replace g80 := ndec_t g80 | replace g80 := ndec_f g80 | replace g80 := ibne_t g80 | replace g80 := ibne_f g80 | replace g80 := ibeq_t g80 | replace g80 := ibeq_f g80 | replace g80 := not_t g80 | replace g80 := not_f g80 | skip) <;> (first | refine j_un ?_ | (refine j_yes ?_; refine j_fieldAddr ?_))))
  all_goals (first | refine j_un ?_ | (refine j_yes ?_; refine j_load ?_))
  all_goals (first | refine j_un ?_ | (refine j_yes ?_; refine j_fieldAddr ?_))
  all_goals (first | refine j_un ?_ | (refine j_yes ?_; refine j_load ?_))
  all_goals (first | refine j_un ?_ | (refine j_yes ?_; refine j_eql ?_))
  all_goals refine j_pick ?_
  all_goals refine j_move ?_
  all_goals (first | refine j_un ?_ | (refine j_yes ?_; refine j_fieldAddr ?_) | (refine l_case (g := 87) (by exact rfl) (fun g87 => ?_) (fun g87 => ?_) <;> (first | replace g87 := of_decide_eq_true g87 | replace g87 := of_decide_eq_false g87 | replace g87 := ndec_t g87 | replace g87 := ndec_f g87 | replace g87 := ibne_t g87 | replace g87 := ibne_f g87 | replace g87 := ibeq_t g87 | replace g87 := ibeq_f g87 | replace g87 := not_t g87 | replace g87 := not_f g87 | skip) <;> (first | refine j_un ?_ | (refine j_yes ?_; refine j_fieldAddr ?_))))
  all_goals (first | refine j_un ?_ | (refine j_yes ?_; refine j_load ?_))
  all_goals (first | refine j_un ?_ | (refine j_yes ?_; refine j_fieldAddr ?_))
  all_goals (first | refine j_un ?_ | (refine j_yes ?_; refine j_load ?_))
  all_goals (first | refine j_un ?_ | (refine j_yes ?_; refine j_eql ?_))
  all_goals refine j_pick ?_
  all_goals refine j_move ?_
  all_goals (first | refine j_un ?_ | (refine j_yes ?_; refine j_fieldAddr ?_) | (refine l_case (g := 94) (by exact rfl) (fun g94 => ?_) (fun g94 => ?_) <;> (first | replace g94 := of_decide_eq_true g94 | replace g94 := of_decide_eq_false g94 | replace g94 := ndec_t g94 | replace g94 := ndec_f g94 | replace g94 := ibne_t g94 | replace g94 := ibne_f g94 | replace g94 := ibeq_t g94 | replace g94 := ibeq_f g94 | replace g94 := not_t g94 | replace g94 := not_f g94 | skip) <;> (first | refine j_un ?_ | (refine j_yes ?_; refine j_fieldAddr ?_))))
  all_goals (first | refine j_un ?_ | (refine j_yes ?_; refine j_load ?_))
  all_goals (first | refine j_un ?_ | (refine j_yes ?_; refine j_fieldAddr ?_))
  all_goals (first | refine j_un ?_ | (refine j_yes ?_; refine j_load ?_))
  all_goals (first | refine j_un ?_ | (refine j_yes ?_; refine j_eql ?_))
  all_goals refine j_pick ?_
  all_goals refine j_assignL (fun _ => ?_)
  all_goals refine l_nil ?_
  all_goals
    refine k_retvF Try.results122 (.tmp (by conv => { lhs; whnf }) .nil) (fun w hw => ?_)
    exact ⟨_, rfl, by simp_all [NdEq], hw.done⟩
theorem main_c (a : Nd) (w : World) : Calls Try.prog 82 #[a.v] w fun e w' => ∃ r : Bool, e = .returned (.bool r) ∧ (r = true ↔ (a.kind = 3 ∨ a.kind = 5 ∨ a.kind = 6)) ∧ St w [] [] w' := by
  refine enter Try.func82 Try.ntmps82 rfl rfl (SF.s0 w) ?_
  simp only [mkS]
  all_goals (refine k_seq ?_)
  all_goals refine k_region ?_
  all_goals refine j_box (fun x1 => ?_)
  all_goals refine j_assignL (fun _ => ?_)
  all_goals refine l_nil ?_
  all_goals (refine k_seq ?_)
  all_goals (refine k_seq ?_)
  all_goals refine k_region ?_
  all_goals refine j_fieldAddr ?_
  all_goals refine j_load ?_
  all_goals refine l_nil ?_
  all_goals (refine k_block ?_)
  all_goals (refine k_seq ?_)
  all_goals (refine k_seq ?_)
  all_goals refine k_region ?_
  all_goals refine j_eql ?_
  all_goals refine j_assignL (fun _ => ?_)
  all_goals refine l_nil ?_
  all_goals
    refine k_cond (by exact rfl) (fun c5 => ?_) (fun c5 => ?_)
    · try (exact absurd c5 (by decide))
      all_goals (first | replace c5 := of_decide_eq_true c5 | replace c5 := sbeq_t c5 | replace c5 := sbne_t c5 | replace c5 := ibeq_t c5 | replace c5 := ibne_t c5 | replace c5 := ndec_t c5 | replace c5 := not_t c5 | skip)
      all_goals (refine k_skip ?_)
      all_goals
        refine k_cond (by exact rfl) (fun c5 => ?_) (fun c5 => ?_)
        · try (exact absurd c5 (by decide))
          all_goals (first | replace c5 := of_decide_eq_true c5 | replace c5 := sbeq_t c5 | replace c5 := sbne_t c5 | replace c5 := ibeq_t c5 | replace c5 := ibne_t c5 | replace c5 := ndec_t c5 | replace c5 := not_t c5 | skip)
          all_goals (refine k_seq ?_)
          all_goals refine k_region ?_
          all_goals refine j_assignL (fun _ => ?_)
          all_goals refine l_nil ?_
          all_goals
            refine k_retvF Try.results82 (.tmp (by conv => { lhs; whnf }) .nil) (fun w hw => ?_)
            exact ⟨_, rfl, by simp_all, hw.done⟩
        · try (exact absurd c5 (by decide))
          all_goals (first | replace c5 := of_decide_eq_false c5 | replace c5 := sbeq_f c5 | replace c5 := sbne_f c5 | replace c5 := ibeq_f c5 | replace c5 := ibne_f c5 | replace c5 := ndec_f c5 | replace c5 := not_f c5 | skip)
          all_goals (refine k_skip ?_)
          all_goals (refine k_blk ?_)
          all_goals (refine k_seq ?_)
          all_goals refine k_region ?_
          all_goals refine j_assignL (fun _ => ?_)
          all_goals refine l_nil ?_
          all_goals
            refine k_retvF Try.results82 (.tmp (by conv => { lhs; whnf }) .nil) (fun w hw => ?_)
            exact ⟨_, rfl, by simp_all, hw.done⟩
    · try (exact absurd c5 (by decide))
      all_goals (first | replace c5 := of_decide_eq_false c5 | replace c5 := sbeq_f c5 | replace c5 := sbne_f c5 | replace c5 := ibeq_f c5 | replace c5 := ibne_f c5 | replace c5 := ndec_f c5 | replace c5 := not_f c5 | skip)
      all_goals (refine k_seq ?_)
      all_goals refine k_region ?_
      all_goals refine j_eql ?_
      all_goals refine j_assignL (fun _ => ?_)
      all_goals refine l_nil ?_
      all_goals
        refine k_cond (by exact rfl) (fun c5 => ?_) (fun c5 => ?_)
        · try (exact absurd c5 (by decide))
          all_goals (first | replace c5 := of_decide_eq_true c5 | replace c5 := sbeq_t c5 | replace c5 := sbne_t c5 | replace c5 := ibeq_t c5 | replace c5 := ibne_t c5 | replace c5 := ndec_t c5 | replace c5 := not_t c5 | skip)
          all_goals (refine k_skip ?_)
          all_goals
            refine k_cond (by exact rfl) (fun c5 => ?_) (fun c5 => ?_)
            · try (exact absurd c5 (by decide))
              all_goals (first | replace c5 := of_decide_eq_true c5 | replace c5 := sbeq_t c5 | replace c5 := sbne_t c5 | replace c5 := ibeq_t c5 | replace c5 := ibne_t c5 | replace c5 := ndec_t c5 | replace c5 := not_t c5 | skip)
              all_goals (refine k_seq ?_)
              all_goals refine k_region ?_
              all_goals refine j_assignL (fun _ => ?_)
              all_goals refine l_nil ?_
              all_goals
                refine k_retvF Try.results82 (.tmp (by conv => { lhs; whnf }) .nil) (fun w hw => ?_)
                exact ⟨_, rfl, by simp_all, hw.done⟩
            · try (exact absurd c5 (by decide))
              all_goals (first | replace c5 := of_decide_eq_false c5 | replace c5 := sbeq_f c5 | replace c5 := sbne_f c5 | replace c5 := ibeq_f c5 | replace c5 := ibne_f c5 | replace c5 := ndec_f c5 | replace c5 := not_f c5 | skip)
              all_goals (refine k_skip ?_)
              all_goals (refine k_blk ?_)
              all_goals (refine k_seq ?_)
              all_goals refine k_region ?_
              all_goals refine j_assignL (fun _ => ?_)
              all_goals refine l_nil ?_
              all_goals
                refine k_retvF Try.results82 (.tmp (by conv => { lhs; whnf }) .nil) (fun w hw => ?_)
                exact ⟨_, rfl, by simp_all, hw.done⟩
        · try (exact absurd c5 (by decide))
          all_goals (first | replace c5 := of_decide_eq_false c5 | replace c5 := sbeq_f c5 | replace c5 := sbne_f c5 | replace c5 := ibeq_f c5 | replace c5 := ibne_f c5 | replace c5 := ndec_f c5 | replace c5 := not_f c5 | skip)
          all_goals refine k_region ?_
          all_goals refine j_eql ?_
          all_goals refine j_assignL (fun _ => ?_)
          all_goals refine l_nil ?_
          all_goals
            refine k_cond (by exact rfl) (fun c5 => ?_) (fun c5 => ?_)
            · try (exact absurd c5 (by decide))
              all_goals (first | replace c5 := of_decide_eq_true c5 | replace c5 := sbeq_t c5 | replace c5 := sbne_t c5 | replace c5 := ibeq_t c5 | replace c5 := ibne_t c5 | replace c5 := ndec_t c5 | replace c5 := not_t c5 | skip)
              all_goals (refine k_seq ?_)
              all_goals refine k_region ?_
              all_goals refine j_assignL (fun _ => ?_)
              all_goals refine l_nil ?_
              all_goals
                refine k_retvF Try.results82 (.tmp (by conv => { lhs; whnf }) .nil) (fun w hw => ?_)
                exact ⟨_, rfl, by simp_all, hw.done⟩
            · try (exact absurd c5 (by decide))
              all_goals (first | replace c5 := of_decide_eq_false c5 | replace c5 := sbeq_f c5 | replace c5 := sbne_f c5 | replace c5 := ibeq_f c5 | replace c5 := ibne_f c5 | replace c5 := ndec_f c5 | replace c5 := not_f c5 | skip)
              all_goals (refine k_skip ?_)
              all_goals (refine k_blk ?_)
              all_goals (refine k_seq ?_)
              all_goals refine k_region ?_
              all_goals refine j_assignL (fun _ => ?_)
              all_goals refine l_nil ?_
              all_goals
                refine k_retvF Try.results82 (.tmp (by conv => { lhs; whnf }) .nil) (fun w hw => ?_)
                exact ⟨_, rfl, by simp_all, hw.done⟩
end Go.Proofs.Ytmogngagpphnhaa
