/- Proper states: the walk through the program's check. -/
import Derived.Test.YtmogngagpphnhaaAr7
set_option linter.unusedSimpArgs false
set_option linter.unusedVariables false
namespace Go.Proofs.Ytmogngagpphnhaa
open Go.RowKit Go.Ct
set_option maxRecDepth 100000 in
theorem proper_c {L : List NdV} {cs : List Int} {gen : Int} {pn pc : Option Addr} {cn cc : Nat} {w : World} (h : StAt w L cs pn pc) (hL : L.length ≤ 274877906944) (hC : cs.length ≤ 274877906944) :
    Calls Try.prog 68 #[.agg ⟨[.slice pn L.length cn, .slice pc cs.length cc, .int .i64 gen]⟩] w fun e w' => ∃ r : Bool, e = .returned (.bool r) ∧ (r = true ↔ Proper L cs gen) ∧ St w [] [] w' := by
  refine enter Try.func68 Try.ntmps68 rfl rfl h.start ?_
  simp only [mkS]
  all_goals (refine k_seq ?_)
  all_goals refine k_region ?_
  all_goals refine j_box (fun x1 => ?_)
  all_goals refine j_assignL (fun _ => ?_)
  all_goals refine l_nil ?_
  all_goals (refine k_seq ?_)
  all_goals (refine k_seq ?_)
  all_goals refine k_region ?_
  all_goals refine j_fieldAddr ?_
  all_goals refine j_load ?_
  all_goals refine j_len ?_
  all_goals refine j_lss ?_
  all_goals refine j_move ?_
  all_goals (first | refine j_un ?_ | (refine j_yes ?_; refine j_fieldAddr ?_) | (refine l_case (g := 14) (by exact rfl) (fun g14 => ?_) (fun g14 => ?_) <;> (first | replace g14 := of_decide_eq_true g14 | replace g14 := of_decide_eq_false g14 | replace g14 := ndec_t g14 | replace g14 := ndec_f g14 | replace g14 := ibne_t g14 | replace g14 := ibne_f g14 | replace g14 := ibeq_t g14 | replace g14 := ibeq_f g14 | replace g14 := not_t g14 | replace g14 := not_f g14 | skip) <;> (first | refine j_un ?_ | (refine j_yes ?_; refine j_fieldAddr ?_))))
  all_goals (first | refine j_un ?_ | (refine j_yes ?_; refine j_load ?_))
  all_goals (first | refine j_un ?_ | (refine j_yes ?_; refine j_lss ?_))
  all_goals refine j_pick ?_
  all_goals refine l_nil ?_
  all_goals
    refine k_cond (by exact rfl) (fun c18 => ?_) (fun c18 => ?_)
    · try (exact absurd c18 (by decide))
      all_goals (first | replace c18 := of_decide_eq_true c18 | replace c18 := sbeq_t c18 | replace c18 := sbne_t c18 | replace c18 := ibeq_t c18 | replace c18 := ibne_t c18 | replace c18 := ndec_t c18 | replace c18 := not_t c18 | skip)
      all_goals (refine k_seq ?_)
      all_goals refine k_region ?_
      all_goals refine j_assignL (fun _ => ?_)
      all_goals refine l_nil ?_
      all_goals
        refine k_retvF Try.results68 (.tmp (by conv => { lhs; whnf }) .nil) (fun w hw => ?_)
        exact ⟨false, rfl, ⟨(fun h => nomatch h), fun hp => by have h1 := hp.two; have h2 := hp.gen0; exfalso; omega⟩, hw.done⟩
    · try (exact absurd c18 (by decide))
      all_goals (first | replace c18 := of_decide_eq_false c18 | replace c18 := sbeq_f c18 | replace c18 := sbne_f c18 | replace c18 := ibeq_f c18 | replace c18 := ibne_f c18 | replace c18 := ndec_f c18 | replace c18 := not_f c18 | skip)
      all_goals (refine k_skip ?_)
      all_goals (refine k_seq ?_)
      all_goals (refine k_seq ?_)
      all_goals refine k_region ?_
      all_goals refine j_fieldAddr ?_
      all_goals refine j_load ?_
      all_goals refine l_quiet (o_indexV (k := 0) (by exact rfl) (by exact rfl) (by exact sl_of rfl) (by exact agg_of rfl) (by first | exact .new .head | exact .new (.tail .head) | exact .new (.tail (.tail .head)) | exact .new (.tail (.tail (.tail .head))) | exact .new (.tail (.tail (.tail (.tail .head)))) | exact .new (.tail (.tail (.tail (.tail (.tail .head))))) | exact .new (.tail (.tail (.tail (.tail (.tail (.tail .head)))))) | exact .new (.tail (.tail (.tail (.tail (.tail (.tail (.tail .head))))))) | exact .new (.tail (.tail (.tail (.tail (.tail (.tail (.tail (.tail .head)))))))) | exact .new (.tail (.tail (.tail (.tail (.tail (.tail (.tail (.tail (.tail .head))))))))) | exact .old .head | exact .old (.tail .head) | exact .old (.tail (.tail .head)) | exact .old (.tail (.tail (.tail .head))) | exact .old (.tail (.tail (.tail (.tail .head)))) | exact .old (.tail (.tail (.tail (.tail (.tail .head))))) | exact .own .head | exact .own (.tail .head) | exact .own (.tail (.tail .head)) | exact .own (.tail (.tail (.tail .head))) | exact .own (.tail (.tail (.tail (.tail .head)))) | exact .own (.tail (.tail (.tail (.tail (.tail .head))))) | exact .own (.tail (.tail (.tail (.tail (.tail (.tail .head)))))) | exact .own (.tail (.tail (.tail (.tail (.tail (.tail (.tail .head)))))))) (by omega) (by omega)) rfl ?_
      all_goals refine j_fieldAddr ?_
      all_goals refine l_quiet (o_loadV0 (q := 0) (by exact rfl) (by exact one_of rfl) (by first | exact .new .head | exact .new (.tail .head) | exact .new (.tail (.tail .head)) | exact .new (.tail (.tail (.tail .head))) | exact .new (.tail (.tail (.tail (.tail .head)))) | exact .new (.tail (.tail (.tail (.tail (.tail .head))))) | exact .new (.tail (.tail (.tail (.tail (.tail (.tail .head)))))) | exact .new (.tail (.tail (.tail (.tail (.tail (.tail (.tail .head))))))) | exact .new (.tail (.tail (.tail (.tail (.tail (.tail (.tail (.tail .head)))))))) | exact .new (.tail (.tail (.tail (.tail (.tail (.tail (.tail (.tail (.tail .head))))))))) | exact .old .head | exact .old (.tail .head) | exact .old (.tail (.tail .head)) | exact .old (.tail (.tail (.tail .head))) | exact .old (.tail (.tail (.tail (.tail .head)))) | exact .old (.tail (.tail (.tail (.tail (.tail .head))))) | exact .own .head | exact .own (.tail .head) | exact .own (.tail (.tail .head)) | exact .own (.tail (.tail (.tail .head))) | exact .own (.tail (.tail (.tail (.tail .head)))) | exact .own (.tail (.tail (.tail (.tail (.tail .head))))) | exact .own (.tail (.tail (.tail (.tail (.tail (.tail .head)))))) | exact .own (.tail (.tail (.tail (.tail (.tail (.tail (.tail .head)))))))) (by omega)) rfl ?_
      all_goals refine j_neq ?_
      all_goals refine j_move ?_
      all_goals (first | refine j_un ?_ | (refine j_yes ?_; refine j_fieldAddr ?_) | (refine l_case (g := 25) (by exact rfl) (fun g25 => ?_) (fun g25 => ?_) <;> (first | replace g25 := of_decide_eq_true g25 | replace g25 := of_decide_eq_false g25 | replace g25 := ndec_t g25 | replace g25 := ndec_f g25 | replace g25 := ibne_t g25 | replace g25 := ibne_f g25 | replace g25 := ibeq_t g25 | replace g25 := ibeq_f g25 | replace g25 := not_t g25 | replace g25 := not_f g25 | skip) <;> (first | refine j_un ?_ | (refine j_yes ?_; refine j_fieldAddr ?_))))
      all_goals (first | refine j_un ?_ | (refine j_yes ?_; refine j_load ?_))
      all_goals (first | refine j_un ?_ | (refine j_yes ?_; refine l_quiet (o_indexV (k := 1) (by exact rfl) (by exact rfl) (by exact sl_of rfl) (by exact agg_of rfl) (by first | exact .new .head | exact .new (.tail .head) | exact .new (.tail (.tail .head)) | exact .new (.tail (.tail (.tail .head))) | exact .new (.tail (.tail (.tail (.tail .head)))) | exact .new (.tail (.tail (.tail (.tail (.tail .head))))) | exact .new (.tail (.tail (.tail (.tail (.tail (.tail .head)))))) | exact .new (.tail (.tail (.tail (.tail (.tail (.tail (.tail .head))))))) | exact .new (.tail (.tail (.tail (.tail (.tail (.tail (.tail (.tail .head)))))))) | exact .new (.tail (.tail (.tail (.tail (.tail (.tail (.tail (.tail (.tail .head))))))))) | exact .old .head | exact .old (.tail .head) | exact .old (.tail (.tail .head)) | exact .old (.tail (.tail (.tail .head))) | exact .old (.tail (.tail (.tail (.tail .head)))) | exact .old (.tail (.tail (.tail (.tail (.tail .head))))) | exact .own .head | exact .own (.tail .head) | exact .own (.tail (.tail .head)) | exact .own (.tail (.tail (.tail .head))) | exact .own (.tail (.tail (.tail (.tail .head)))) | exact .own (.tail (.tail (.tail (.tail (.tail .head))))) | exact .own (.tail (.tail (.tail (.tail (.tail (.tail .head)))))) | exact .own (.tail (.tail (.tail (.tail (.tail (.tail (.tail .head)))))))) (by omega) (by omega)) rfl ?_))
      all_goals (first | refine j_un ?_ | (refine j_yes ?_; refine j_fieldAddr ?_))
      all_goals (first | refine j_un ?_ | (refine j_yes ?_; refine l_quiet (o_loadV0 (q := 1) (by exact rfl) (by exact one_of rfl) (by first | exact .new .head | exact .new (.tail .head) | exact .new (.tail (.tail .head)) | exact .new (.tail (.tail (.tail .head))) | exact .new (.tail (.tail (.tail (.tail .head)))) | exact .new (.tail (.tail (.tail (.tail (.tail .head))))) | exact .new (.tail (.tail (.tail (.tail (.tail (.tail .head)))))) | exact .new (.tail (.tail (.tail (.tail (.tail (.tail (.tail .head))))))) | exact .new (.tail (.tail (.tail (.tail (.tail (.tail (.tail (.tail .head)))))))) | exact .new (.tail (.tail (.tail (.tail (.tail (.tail (.tail (.tail (.tail .head))))))))) | exact .old .head | exact .old (.tail .head) | exact .old (.tail (.tail .head)) | exact .old (.tail (.tail (.tail .head))) | exact .old (.tail (.tail (.tail (.tail .head)))) | exact .old (.tail (.tail (.tail (.tail (.tail .head))))) | exact .own .head | exact .own (.tail .head) | exact .own (.tail (.tail .head)) | exact .own (.tail (.tail (.tail .head))) | exact .own (.tail (.tail (.tail (.tail .head)))) | exact .own (.tail (.tail (.tail (.tail (.tail .head))))) | exact .own (.tail (.tail (.tail (.tail (.tail (.tail .head)))))) | exact .own (.tail (.tail (.tail (.tail (.tail (.tail (.tail .head)))))))) (by omega)) rfl ?_))
      all_goals (first | refine j_un ?_ | (refine j_yes ?_; refine j_neq ?_))
      all_goals refine j_pick ?_
      all_goals refine l_nil ?_
      all_goals
        refine k_cond (by exact rfl) (fun c32 => ?_) (fun c32 => ?_)
        · try (exact absurd c32 (by decide))
          all_goals (first | replace c32 := of_decide_eq_true c32 | replace c32 := sbeq_t c32 | replace c32 := sbne_t c32 | replace c32 := ibeq_t c32 | replace c32 := ibne_t c32 | replace c32 := ndec_t c32 | replace c32 := not_t c32 | skip)
          all_goals (refine k_seq ?_)
          all_goals refine k_region ?_
          all_goals refine j_assignL (fun _ => ?_)
          all_goals refine l_nil ?_
          all_goals
            refine k_retvF Try.results68 (.tmp (by conv => { lhs; whnf }) .nil) (fun w hw => ?_)
            exact ⟨false, rfl, ⟨(fun h => nomatch h), fun hp => by have h1 := hp.m0; have h2 := hp.m1; exfalso; omega⟩, hw.done⟩
        · try (exact absurd c32 (by decide))
          all_goals (first | replace c32 := of_decide_eq_false c32 | replace c32 := sbeq_f c32 | replace c32 := sbne_f c32 | replace c32 := ibeq_f c32 | replace c32 := ibne_f c32 | replace c32 := ndec_f c32 | replace c32 := not_f c32 | skip)
          all_goals (refine k_skip ?_)
          all_goals (refine k_seq ?_)
          all_goals (refine k_seq ?_)
          all_goals refine k_region ?_
          all_goals refine j_fieldAddr ?_
          all_goals refine j_load ?_
          all_goals refine j_len ?_
          all_goals refine j_move ?_
          all_goals refine l_nil ?_
          all_goals (refine k_block ?_)
          all_goals
            refine k_loopC [2, 4, 36, 37, 38, 39, 40, 41, 42, 43, 44, 45, 46] (fun k => [(36, .int .i64 ((k : Nat) : Int))]) (fun k => k ≤ cs.length ∧ ∀ i, i < k → Ins (cs.getD i 0) L.length) (fun k => cs.length - k) (0) (⟨Nat.zero_le _, fun i hi => absurd hi (Nat.not_lt_zero i)⟩) ?_ (fun k f hx => ?_)
            · repeat (first | exact knows_nil _ | refine knows_cons (by first | exact rfl | (conv => { lhs; whnf }; simp; done)) ?_)
            dsimp only [mkU, List.map, List.cons_append, List.nil_append]
            all_goals (refine k_seq ?_)
            all_goals refine k_region ?_
            all_goals refine j_lss ?_
            all_goals refine l_nil ?_
            all_goals (refine k_seq ?_)
            all_goals
              refine k_cond (by exact rfl) (fun c37 => ?_) (fun c37 => ?_)
              · try (exact absurd c37 (by decide))
                all_goals (first | replace c37 := of_decide_eq_true c37 | replace c37 := sbeq_t c37 | replace c37 := sbne_t c37 | replace c37 := ibeq_t c37 | replace c37 := ibne_t c37 | replace c37 := ndec_t c37 | replace c37 := not_t c37 | skip)
                all_goals (refine k_skip ?_)
                all_goals (refine k_seq ?_)
                all_goals (refine k_block ?_)
                all_goals (refine k_seq ?_)
                all_goals refine k_region ?_
                all_goals refine j_indexAddr ?_
                all_goals refine j_load ?_
                all_goals refine j_assignL (fun _ => ?_)
                all_goals refine l_nil ?_
                all_goals (refine k_seq ?_)
                all_goals refine k_region ?_
                all_goals refine j_move ?_
                all_goals refine j_fieldAddr ?_
                all_goals refine j_load ?_
                all_goals refine j_len ?_
                all_goals (refine j_own (cV (hc := fun w1 hw => inside_c _ _ w1)) (fun x44 => ?_); try (refine l_fact (fun h44 => ?_)))
                all_goals refine j_not ?_
                all_goals refine l_nil ?_
                all_goals
                  refine k_cond (by exact rfl) (fun c45 => ?_) (fun c45 => ?_)
                  · try (exact absurd c45 (by decide))
                    all_goals (first | replace c45 := of_decide_eq_true c45 | replace c45 := sbeq_t c45 | replace c45 := sbne_t c45 | replace c45 := ibeq_t c45 | replace c45 := ibne_t c45 | replace c45 := ndec_t c45 | replace c45 := not_t c45 | skip)
                    all_goals (refine k_seq ?_)
                    all_goals refine k_region ?_
                    all_goals refine j_assignL (fun _ => ?_)
                    all_goals refine l_nil ?_
                    all_goals
                      refine k_retvF Try.results68 (.tmp (by conv => { lhs; whnf }) .nil) (fun w hw => ?_)
                      exact ⟨false, rfl, ⟨(fun h => nomatch h), fun hp => absurd (hp.cells k (by omega)) (by assumption)⟩, hw.done⟩
                  · try (exact absurd c45 (by decide))
                    all_goals (first | replace c45 := of_decide_eq_false c45 | replace c45 := sbeq_f c45 | replace c45 := sbne_f c45 | replace c45 := ibeq_f c45 | replace c45 := ibne_f c45 | replace c45 := ndec_f c45 | replace c45 := not_f c45 | skip)
                    all_goals (refine k_skip ?_)
                    all_goals (refine k_blk ?_)
                    all_goals refine k_region ?_
                    all_goals refine j_inc ?_
                    all_goals refine j_move ?_
                    all_goals refine l_nil ?_
                    all_goals
                      refine k_roundC (k + 1) ?_ ?_ ?_
                      · first | omega | (simp only []; omega)
                      · repeat' (first | exact knows_nil _ | refine knows_cons ?_ ?_)
                        all_goals (first | exact rfl | (conv => { lhs; whnf }; simp; done) | (conv => { lhs; whnf }; congr 1; omega))
                      · exact ⟨by omega, fun i hi => by rcases Nat.lt_succ_iff_lt_or_eq.1 hi with h | rfl; exact hx.2 i h; assumption⟩
              · try (exact absurd c37 (by decide))
                all_goals (first | replace c37 := of_decide_eq_false c37 | replace c37 := sbeq_f c37 | replace c37 := sbne_f c37 | replace c37 := ibeq_f c37 | replace c37 := ibne_f c37 | replace c37 := ndec_f c37 | replace c37 := not_f c37 | skip)
                all_goals (refine k_exit rfl ?_)
                all_goals (refine k_seq ?_)
                all_goals refine k_region ?_
                all_goals refine j_fieldAddr ?_
                all_goals refine j_load ?_
                all_goals refine j_len ?_
                all_goals refine j_makeSlice (fun x50 => ?_)
                all_goals refine j_assignL (fun _ => ?_)
                all_goals refine l_nil ?_
                all_goals (refine k_seq ?_)
                all_goals (refine k_seq ?_)
                all_goals refine k_region ?_
                all_goals refine j_fieldAddr ?_
                all_goals refine j_load ?_
                all_goals refine j_len ?_
                all_goals refine j_move ?_
                all_goals refine l_nil ?_
                all_goals (refine k_block ?_)
                all_goals
                  have hcells : ∀ i, i < cs.length → Ins (cs.getD i 0) L.length := fun i hi => hx.2 i (by omega)
                  clear hx
                  refine k_loopF [2, 7, 8, 9, 54, 55, 56, 57, 58, 59, 60, 61, 62, 63, 64, 65, 66, 67, 68, 69, 70, 71, 72, 73, 74, 75, 76, 77, 78, 79, 80, 81, 82, 83, 84, 85, 86, 87, 88, 89, 90, 91, 92, 93, 94, 95, 96, 97, 98, 99, 100, 101, 102, 103] (fun y : Nat × List Bool => [(54, .int .i64 ((y.1 : Nat) : Int))]) (fun y => y.1 ≤ L.length ∧ marks cs.length (L.take y.1) = some y.2 ∧ ∀ i, i < y.1 → NdOk gen L.length (L.getD i NdV.zero)) (fun _ => _) (fun _ => _) (fun y => [⟨some ⟨x50, 0, none⟩, boolsC y.2, cs.length, 4, 1⟩]) (fun y => L.length - y.1) ((0, List.replicate cs.length false)) (by decide) (fun _ => by exact rfl) ?_ (⟨Nat.zero_le _, rfl, fun i hi => absurd hi (Nat.not_lt_zero i)⟩) (fun w hw => hw.back) (fun y f hx => ?_)
                  · repeat (first | exact knows_nil _ | refine knows_cons (by first | exact rfl | (conv => { lhs; whnf }; simp; done)) ?_)
                  dsimp only [mkU, List.map, List.cons_append, List.nil_append]
                  have hu := marks_len hx.2.1
                  all_goals (refine k_seq ?_)
                  all_goals refine k_region ?_
                  all_goals refine j_lss ?_
                  all_goals refine l_nil ?_
                  all_goals (refine k_seq ?_)
                  all_goals
                    refine k_cond (by exact rfl) (fun c55 => ?_) (fun c55 => ?_)
                    · try (exact absurd c55 (by decide))
                      all_goals (first | replace c55 := of_decide_eq_true c55 | replace c55 := sbeq_t c55 | replace c55 := sbne_t c55 | replace c55 := ibeq_t c55 | replace c55 := ibne_t c55 | replace c55 := ndec_t c55 | replace c55 := not_t c55 | skip)
                      all_goals (refine k_skip ?_)
                      all_goals (refine k_seq ?_)
                      all_goals (refine k_block ?_)
                      all_goals (refine k_seq ?_)
                      all_goals refine k_region ?_
                      all_goals refine j_indexAddr ?_
                      all_goals refine j_load ?_
                      all_goals refine j_alloc (fun x7 => ?_)
                      all_goals refine j_store (fun _ => ?_)
                      all_goals refine l_nil ?_
                      all_goals (refine k_seq ?_)
                      all_goals (refine k_seq ?_)
                      all_goals refine k_region ?_
                      all_goals refine j_load ?_
                      all_goals (refine j_own (c0 (V := .bool) (hc := fun w1 hw => ndValid_c (hw.repA h.fit (by omega)))) (fun x59 => ?_); try (refine l_fact (fun h59 => ?_)))
                      all_goals refine j_not ?_
                      all_goals refine j_move ?_
                      all_goals (first | refine j_un ?_ | (refine j_yes ?_; refine j_fieldAddr ?_) | (refine l_case (g := 61) (by exact rfl) (fun g61 => ?_) (fun g61 => ?_) <;> (first | replace g61 := of_decide_eq_true g61 | replace g61 := of_decide_eq_false g61 | replace g61 := ndec_t g61 | replace g61 := ndec_f g61 | replace g61 := ibne_t g61 | replace g61 := ibne_f g61 | replace g61 := ibeq_t g61 | replace g61 := ibeq_f g61 | replace g61 := not_t g61 | replace g61 := not_f g61 | skip) <;> (first | refine j_un ?_ | (refine j_yes ?_; refine j_fieldAddr ?_))))
                      all_goals (first | refine j_un ?_ | (refine j_yes ?_; refine j_load ?_))
                      all_goals (first | refine j_un ?_ | (refine j_yes ?_; refine j_fieldAddr ?_))
                      all_goals (first | refine j_un ?_ | (refine j_yes ?_; refine j_load ?_))
                      all_goals (first | refine j_un ?_ | (refine j_yes ?_; refine j_gtr ?_))
                      all_goals refine j_pick ?_
                      all_goals refine j_move ?_
                      all_goals (first | refine j_un ?_ | (refine j_yes ?_; refine j_load ?_) | (refine l_case (g := 68) (by exact rfl) (fun g68 => ?_) (fun g68 => ?_) <;> (first | replace g68 := of_decide_eq_true g68 | replace g68 := of_decide_eq_false g68 | replace g68 := ndec_t g68 | replace g68 := ndec_f g68 | replace g68 := ibne_t g68 | replace g68 := ibne_f g68 | replace g68 := ibeq_t g68 | replace g68 := ibeq_f g68 | replace g68 := not_t g68 | replace g68 := not_f g68 | skip) <;> (first | refine j_un ?_ | (refine j_yes ?_; refine j_load ?_))))
                      all_goals (first | refine j_un ?_ | (refine j_yes ?_; refine j_fieldAddr ?_))
                      all_goals (first | refine j_un ?_ | (refine j_yes ?_; refine j_load ?_))
                      all_goals (first | refine j_un ?_ | (refine j_yes ?_; refine j_len ?_))
                      all_goals (first | refine j_un ?_ | (refine j_yes ?_; (refine j_own (c0 (V := .bool) (hc := fun w1 hw => properRefs_c (hw.repA h.fit (by omega)).brN (hw.repA h.fit (by omega)).br (hw.repA h.fit (by omega)).brS)) (fun x73 => ?_); try (refine l_fact (fun h73 => ?_)))))
                      all_goals (first | refine j_un ?_ | (refine j_yes ?_; refine j_not ?_))
                      all_goals refine j_pick ?_
                      all_goals refine l_nil ?_
                      all_goals
                        refine k_cond (by exact rfl) (fun c75 => ?_) (fun c75 => ?_)
                        · try (exact absurd c75 (by decide))
                          all_goals (first | replace c75 := of_decide_eq_true c75 | replace c75 := sbeq_t c75 | replace c75 := sbne_t c75 | replace c75 := ibeq_t c75 | replace c75 := ibne_t c75 | replace c75 := ndec_t c75 | replace c75 := not_t c75 | skip)
                          all_goals (refine k_seq ?_)
                          all_goals refine k_region ?_
                          all_goals refine j_assignL (fun _ => ?_)
                          all_goals refine l_nil ?_
                          all_goals
                            refine k_retvF Try.results68 (.tmp (by conv => { lhs; whnf }) .nil) (fun w hw => ?_)
                            refine ⟨false, rfl, ⟨(fun h => nomatch h), fun hp => ?_⟩, hw.done⟩
                            obtain ⟨q1, q2, q3⟩ := hp.nodes y.1 (by omega)
                            first | (exfalso; omega) | (have := h59.2 q1; simp_all; done) | (have := h73.2 q3; simp_all; done)
                        · try (exact absurd c75 (by decide))
                          all_goals (first | replace c75 := of_decide_eq_false c75 | replace c75 := sbeq_f c75 | replace c75 := sbne_f c75 | replace c75 := ibeq_f c75 | replace c75 := ibne_f c75 | replace c75 := ndec_f c75 | replace c75 := not_f c75 | skip)
                          all_goals
                            have hok : NdOk gen L.length (L.getD y.1 NdV.zero) := ⟨h59.1 (by simp_all), by omega, h73.1 (by simp_all)⟩
                          all_goals (refine k_skip ?_)
                          all_goals (refine k_seq ?_)
                          all_goals refine k_region ?_
                          all_goals refine j_load ?_
                          all_goals (refine j_own (cV (hc := fun w1 hw => cellOf_c (L.getD y.1 NdV.zero).nd w1)) (fun x78 => ?_); try (refine l_fact (fun h78 => ?_)))
                          all_goals refine j_move ?_
                          all_goals refine j_extract ?_
                          all_goals refine j_extract ?_
                          all_goals refine j_assignL (fun _ => ?_)
                          all_goals refine j_assignL (fun _ => ?_)
                          all_goals refine l_nil ?_
                          all_goals (refine k_seq ?_)
                          all_goals (refine k_seq ?_)
                          all_goals refine k_region ?_
                          all_goals refine j_move ?_
                          all_goals refine j_not ?_
                          all_goals refine l_nil ?_
                          all_goals
                            refine k_cond (by exact rfl) (fun c82 => ?_) (fun c82 => ?_)
                            · try (exact absurd c82 (by decide))
                              all_goals (first | replace c82 := of_decide_eq_true c82 | replace c82 := sbeq_t c82 | replace c82 := sbne_t c82 | replace c82 := ibeq_t c82 | replace c82 := ibne_t c82 | replace c82 := ndec_t c82 | replace c82 := not_t c82 | skip)
                              all_goals
                                have hmk : markS (some y.2) (L.getD y.1 NdV.zero).nd = some y.2 := by
                                  have e : cellK (L.getD y.1 NdV.zero).nd = none := by cases hq : cellK (L.getD y.1 NdV.zero).nd <;> simp_all
                                  simp only [markS, e]
                              all_goals (refine k_exit rfl ?_)
                              all_goals refine k_region ?_
                              all_goals refine j_inc ?_
                              all_goals refine j_move ?_
                              all_goals refine l_nil ?_
                              all_goals
                                refine k_roundF ((y.1 + 1, (markS (some y.2) (L.getD y.1 NdV.zero).nd).getD y.2)) ?_ ?_ (by repeat (first | (with_reducible exact Pre.refl) | refine Pre.cons (by exact rfl) ?_)) ?_ (fun w hw => by rw [hmk]; exact hw.back)
                                · first | omega | (simp only []; omega)
                                · repeat' (first | exact knows_nil _ | refine knows_cons ?_ ?_)
                                  all_goals (first | exact rfl | (conv => { lhs; whnf }; simp; done) | (conv => { lhs; whnf }; congr 1; omega))
                                · refine ⟨by omega, by rw [marks_take (by omega), hx.2.1, hmk]; rfl, fun i hi => ?_⟩
                                  rcases Nat.lt_succ_iff_lt_or_eq.1 hi with h | rfl
                                  · exact hx.2.2 i h
                                  · exact hok
                            · try (exact absurd c82 (by decide))
                              all_goals (first | replace c82 := of_decide_eq_false c82 | replace c82 := sbeq_f c82 | replace c82 := sbne_f c82 | replace c82 := ibeq_f c82 | replace c82 := ibne_f c82 | replace c82 := ndec_f c82 | replace c82 := not_f c82 | skip)
                              all_goals
                                obtain ⟨c, hc⟩ : ∃ c, cellK (L.getD y.1 NdV.zero).nd = some c := Option.isSome_iff_exists.1 c82
                                rw [hc, Option.getD_some]
                              all_goals (refine k_skip ?_)
                              all_goals (refine k_seq ?_)
                              all_goals (refine k_seq ?_)
                              all_goals refine k_region ?_
                              all_goals refine j_move ?_
                              all_goals refine j_lss ?_
                              all_goals refine j_move ?_
                              all_goals (first | refine j_un ?_ | (refine j_yes ?_; refine j_move ?_) | (refine l_case (g := 85) (by exact rfl) (fun g85 => ?_) (fun g85 => ?_) <;> (first | replace g85 := of_decide_eq_true g85 | replace g85 := of_decide_eq_false g85 | replace g85 := ndec_t g85 | replace g85 := ndec_f g85 | replace g85 := ibne_t g85 | replace g85 := ibne_f g85 | replace g85 := ibeq_t g85 | replace g85 := ibeq_f g85 | replace g85 := not_t g85 | replace g85 := not_f g85 | skip) <;> (first | refine j_un ?_ | (refine j_yes ?_; refine j_move ?_))))
                              all_goals (first | refine j_un ?_ | (refine j_yes ?_; refine j_fieldAddr ?_))
                              all_goals (first | refine j_un ?_ | (refine j_yes ?_; refine j_load ?_))
                              all_goals (first | refine j_un ?_ | (refine j_yes ?_; refine j_len ?_))
                              all_goals (first | refine j_un ?_ | (refine j_yes ?_; refine j_gtr ?_))
                              all_goals refine j_pick ?_
                              all_goals refine j_move ?_
                              all_goals (first | refine j_un ?_ | (refine j_yes ?_; refine j_move ?_) | (refine l_case (g := 92) (by exact rfl) (fun g92 => ?_) (fun g92 => ?_) <;> (first | replace g92 := of_decide_eq_true g92 | replace g92 := of_decide_eq_false g92 | replace g92 := ndec_t g92 | replace g92 := ndec_f g92 | replace g92 := ibne_t g92 | replace g92 := ibne_f g92 | replace g92 := ibeq_t g92 | replace g92 := ibeq_f g92 | replace g92 := not_t g92 | replace g92 := not_f g92 | skip) <;> (first | refine j_un ?_ | (refine j_yes ?_; refine j_move ?_))))
                              all_goals (first | refine j_un ?_ | (refine j_yes ?_; refine j_move ?_))
                              all_goals (first | refine j_un ?_ | (refine j_yes ?_; refine l_quiet (o_decT (by exact rfl) (by exact rfl) (by omega) (by omega)) rfl ?_))
                              all_goals (first | refine j_un ?_ | (refine j_yes ?_; refine l_quiet (o_indexB (by exact rfl) (by exact rfl) (by exact sl_of rfl) (by exact one_of rfl) (by first | exact .new .head | exact .new (.tail .head) | exact .new (.tail (.tail .head)) | exact .new (.tail (.tail (.tail .head))) | exact .new (.tail (.tail (.tail (.tail .head)))) | exact .new (.tail (.tail (.tail (.tail (.tail .head))))) | exact .new (.tail (.tail (.tail (.tail (.tail (.tail .head)))))) | exact .new (.tail (.tail (.tail (.tail (.tail (.tail (.tail .head))))))) | exact .new (.tail (.tail (.tail (.tail (.tail (.tail (.tail (.tail .head)))))))) | exact .new (.tail (.tail (.tail (.tail (.tail (.tail (.tail (.tail (.tail .head))))))))) | exact .old .head | exact .old (.tail .head) | exact .old (.tail (.tail .head)) | exact .old (.tail (.tail (.tail .head))) | exact .old (.tail (.tail (.tail (.tail .head)))) | exact .old (.tail (.tail (.tail (.tail (.tail .head))))) | exact .own .head | exact .own (.tail .head) | exact .own (.tail (.tail .head)) | exact .own (.tail (.tail (.tail .head))) | exact .own (.tail (.tail (.tail (.tail .head)))) | exact .own (.tail (.tail (.tail (.tail (.tail .head))))) | exact .own (.tail (.tail (.tail (.tail (.tail (.tail .head)))))) | exact .own (.tail (.tail (.tail (.tail (.tail (.tail (.tail .head)))))))) (by omega) (by omega)) rfl ?_))
                              all_goals (first | refine j_un ?_ | (refine j_yes ?_; refine l_quiet (o_loadB (by exact rfl) (by exact one_of rfl) (by first | exact .new .head | exact .new (.tail .head) | exact .new (.tail (.tail .head)) | exact .new (.tail (.tail (.tail .head))) | exact .new (.tail (.tail (.tail (.tail .head)))) | exact .new (.tail (.tail (.tail (.tail (.tail .head))))) | exact .new (.tail (.tail (.tail (.tail (.tail (.tail .head)))))) | exact .new (.tail (.tail (.tail (.tail (.tail (.tail (.tail .head))))))) | exact .new (.tail (.tail (.tail (.tail (.tail (.tail (.tail (.tail .head)))))))) | exact .new (.tail (.tail (.tail (.tail (.tail (.tail (.tail (.tail (.tail .head))))))))) | exact .old .head | exact .old (.tail .head) | exact .old (.tail (.tail .head)) | exact .old (.tail (.tail (.tail .head))) | exact .old (.tail (.tail (.tail (.tail .head)))) | exact .old (.tail (.tail (.tail (.tail (.tail .head))))) | exact .own .head | exact .own (.tail .head) | exact .own (.tail (.tail .head)) | exact .own (.tail (.tail (.tail .head))) | exact .own (.tail (.tail (.tail (.tail .head)))) | exact .own (.tail (.tail (.tail (.tail (.tail .head))))) | exact .own (.tail (.tail (.tail (.tail (.tail (.tail .head)))))) | exact .own (.tail (.tail (.tail (.tail (.tail (.tail (.tail .head)))))))) (by omega)) rfl ?_))
                              all_goals refine j_pick ?_
                              all_goals refine l_nil ?_
                              all_goals
                                refine k_cond (by exact rfl) (fun c98 => ?_) (fun c98 => ?_)
                                · try (exact absurd c98 (by decide))
                                  all_goals (first | replace c98 := of_decide_eq_true c98 | replace c98 := sbeq_t c98 | replace c98 := sbne_t c98 | replace c98 := ibeq_t c98 | replace c98 := ibne_t c98 | replace c98 := ndec_t c98 | replace c98 := not_t c98 | skip)
                                  all_goals (refine k_seq ?_)
                                  all_goals refine k_region ?_
                                  all_goals refine j_assignL (fun _ => ?_)
                                  all_goals refine l_nil ?_
                                  all_goals
                                    refine k_retvF Try.results68 (.tmp (by conv => { lhs; whnf }) .nil) (fun w hw => ?_)
                                    refine ⟨false, rfl, ⟨(fun h => nomatch h), fun hp => ?_⟩, hw.done⟩
                                    have hm : marks cs.length (L.take (y.1 + 1)) = none := by
                                      rw [marks_take (by omega), hx.2.1]
                                      simp only [markS, hc]
                                      refine if_neg fun hh => ?_
                                      obtain ⟨q1, q2, q3⟩ := hh
                                      first | (exfalso; omega) | (exfalso; rw [q3] at c98; cases c98)
                                    exact absurd (marks_none hm) hp.marks
                                · try (exact absurd c98 (by decide))
                                  all_goals (first | replace c98 := of_decide_eq_false c98 | replace c98 := sbeq_f c98 | replace c98 := sbne_f c98 | replace c98 := ibeq_f c98 | replace c98 := ibne_f c98 | replace c98 := ndec_f c98 | replace c98 := not_f c98 | skip)
                                  all_goals
                                    have hmk : markS (some y.2) (L.getD y.1 NdV.zero).nd = some (y.2.set (c - 1).toNat true) := by
                                      simp only [markS, hc]
                                      rw [if_pos ⟨by omega, by omega, c98⟩]
                                  all_goals (refine k_skip ?_)
                                  all_goals refine k_region ?_
                                  all_goals refine j_move ?_
                                  all_goals refine j_move ?_
                                  all_goals refine l_quiet (o_decT (by exact rfl) (by exact rfl) (by omega) (by omega)) rfl ?_
                                  all_goals refine l_quiet (o_indexB (by exact rfl) (by exact rfl) (by exact sl_of rfl) (by exact one_of rfl) (by first | exact .new .head | exact .new (.tail .head) | exact .new (.tail (.tail .head)) | exact .new (.tail (.tail (.tail .head))) | exact .new (.tail (.tail (.tail (.tail .head)))) | exact .new (.tail (.tail (.tail (.tail (.tail .head))))) | exact .new (.tail (.tail (.tail (.tail (.tail (.tail .head)))))) | exact .new (.tail (.tail (.tail (.tail (.tail (.tail (.tail .head))))))) | exact .new (.tail (.tail (.tail (.tail (.tail (.tail (.tail (.tail .head)))))))) | exact .new (.tail (.tail (.tail (.tail (.tail (.tail (.tail (.tail (.tail .head))))))))) | exact .old .head | exact .old (.tail .head) | exact .old (.tail (.tail .head)) | exact .old (.tail (.tail (.tail .head))) | exact .old (.tail (.tail (.tail (.tail .head)))) | exact .old (.tail (.tail (.tail (.tail (.tail .head))))) | exact .own .head | exact .own (.tail .head) | exact .own (.tail (.tail .head)) | exact .own (.tail (.tail (.tail .head))) | exact .own (.tail (.tail (.tail (.tail .head)))) | exact .own (.tail (.tail (.tail (.tail (.tail .head))))) | exact .own (.tail (.tail (.tail (.tail (.tail (.tail .head)))))) | exact .own (.tail (.tail (.tail (.tail (.tail (.tail (.tail .head)))))))) (by omega) (by omega)) rfl ?_
                                  all_goals refine j_store (fun _ => ?_)
                                  all_goals refine l_nil ?_
                                  all_goals (refine k_blk ?_)
                                  all_goals refine k_region ?_
                                  all_goals refine j_inc ?_
                                  all_goals refine j_move ?_
                                  all_goals refine l_nil ?_
                                  all_goals
                                    refine k_roundF ((y.1 + 1, (markS (some y.2) (L.getD y.1 NdV.zero).nd).getD y.2)) ?_ ?_ (by repeat (first | (with_reducible exact Pre.refl) | refine Pre.cons (by exact rfl) ?_)) ?_ (fun w hw => by rw [hmk]; exact hw.back)
                                    · first | omega | (simp only []; omega)
                                    · repeat' (first | exact knows_nil _ | refine knows_cons ?_ ?_)
                                      all_goals (first | exact rfl | (conv => { lhs; whnf }; simp; done) | (conv => { lhs; whnf }; congr 1; omega))
                                    · refine ⟨by omega, by rw [marks_take (by omega), hx.2.1, hmk]; rfl, fun i hi => ?_⟩
                                      rcases Nat.lt_succ_iff_lt_or_eq.1 hi with h | rfl
                                      · exact hx.2.2 i h
                                      · exact hok
                    · try (exact absurd c55 (by decide))
                      all_goals (first | replace c55 := of_decide_eq_false c55 | replace c55 := sbeq_f c55 | replace c55 := sbne_f c55 | replace c55 := ibeq_f c55 | replace c55 := ibne_f c55 | replace c55 := ndec_f c55 | replace c55 := not_f c55 | skip)
                      all_goals (refine k_exit rfl ?_)
                      all_goals (refine k_seq ?_)
                      all_goals refine k_region ?_
                      all_goals refine j_assignL (fun _ => ?_)
                      all_goals refine l_nil ?_
                      all_goals
                        refine k_retvF Try.results68 (.tmp (by conv => { lhs; whnf }) .nil) (fun w hw => ?_)
                        have hy : y.1 = L.length := by omega
                        have hmm : marks cs.length L = some y.2 := by have := hx.2.1; rwa [hy, List.take_length] at this
                        exact ⟨true, rfl, ⟨fun _ => ⟨by omega, by omega, by omega, by omega, hcells, fun i hi => hx.2.2 i (by omega), by rw [hmm]; exact fun h => nomatch h⟩, fun _ => rfl⟩, hw.done⟩
end Go.Proofs.Ytmogngagpphnhaa
