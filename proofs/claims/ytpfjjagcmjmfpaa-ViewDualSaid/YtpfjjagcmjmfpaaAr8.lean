/- Proper states: the walk through the program's check. -/
import Derived.Test.YtpfjjagcmjmfpaaAr7
set_option linter.unusedSimpArgs false
set_option linter.unusedVariables false
namespace Go.Proofs.Ytpfjjagcmjmfpaa
open Go.RowKit Go.Ct
set_option maxRecDepth 100000 in
theorem proper_c {L : List NdV} {cs : List Int} {gen : Int} {pn pc : Option Addr} {cn cc : Nat} {w : World} (h : StAt w L cs pn pc) (hL : L.length ≤ 274877906944) (hC : cs.length ≤ 274877906944) :
    Calls Try.prog 21 #[.agg ⟨[.slice pn L.length cn, .slice pc cs.length cc, .int .i64 gen]⟩] w fun e w' => ∃ r : Bool, e = .returned (.bool r) ∧ (r = true ↔ Proper L cs gen) ∧ St w [] [] w' := by
  refine enter Try.func21 Try.ntmps21 rfl rfl h.start ?_
  simp only [mkS]
  all_goals (refine k_seq ?_; refine k_region ?_; refine j_box (fun x1 => ?_); refine j_assignL (fun _ => ?_); refine l_nil ?_; refine k_seq ?_; refine k_seq ?_; refine k_region ?_; refine j_fieldAddr ?_; refine j_load ?_; refine j_len ?_; refine j_lss ?_; refine j_move ?_)
  all_goals (first | refine j_un ?_ | (refine j_yes ?_; refine j_fieldAddr ?_) | (refine l_case (g := 14) (by exact rfl) (fun g14 => ?_) (fun g14 => ?_) <;> (revert g14; (first | refine cv1 ?_ | refine cv2 ?_ | refine cvb ?_ | refine cvc ?_ | refine cv9 ?_ | refine cva ?_ | refine cv7 ?_ | refine cv8 ?_ | refine cvd ?_ | refine cve ?_ | skip); intro g14) <;> (first | refine j_un ?_ | (refine j_yes ?_; refine j_fieldAddr ?_))))
  all_goals ((first | refine j_un ?_ | (refine j_yes ?_; refine j_load ?_)); (first | refine j_un ?_ | (refine j_yes ?_; refine j_lss ?_)); refine j_pick ?_; refine l_nil ?_)
  all_goals
   refine k_if (fun c18 => ?_) (fun c18 => ?_)
   · try (exact absurd c18 (by decide))
     all_goals (revert c18; (first | refine cv1 ?_ | refine cv3 ?_ | refine cv5 ?_ | refine cv7 ?_ | refine cv9 ?_ | refine cvb ?_ | refine cvd ?_ | skip); intro c18)
     all_goals (refine k_seq ?_; refine k_region ?_; refine j_assignL (fun _ => ?_); refine l_nil ?_)
     all_goals
      refine k_rv Try.results21 (fun w hw => ?_)
      exact ⟨false, rfl, ⟨(fun h => nomatch h), fun hp => by have h1 := hp.two; have h2 := hp.gen0; exfalso; omega⟩, hw.done⟩
   · try (exact absurd c18 (by decide))
     all_goals (revert c18; (first | refine cv2 ?_ | refine cv4 ?_ | refine cv6 ?_ | refine cv8 ?_ | refine cva ?_ | refine cvc ?_ | refine cve ?_ | skip); intro c18)
     all_goals (refine k_skip ?_; refine k_seq ?_; refine k_seq ?_; refine k_region ?_; refine j_fieldAddr ?_; refine j_load ?_; refine l_quiet (o_indexV (k := 0) (by exact rfl) (by exact rfl) (by exact sl_of rfl) (by exact agg_of rfl) (by first | exact .new .head | exact .new (.tail .head) | exact .new (.tail (.tail .head)) | exact .new (.tail (.tail (.tail .head))) | exact .new (.tail (.tail (.tail (.tail .head)))) | exact .new (.tail (.tail (.tail (.tail (.tail .head))))) | exact .new (.tail (.tail (.tail (.tail (.tail (.tail .head)))))) | exact .new (.tail (.tail (.tail (.tail (.tail (.tail (.tail .head))))))) | exact .new (.tail (.tail (.tail (.tail (.tail (.tail (.tail (.tail .head)))))))) | exact .new (.tail (.tail (.tail (.tail (.tail (.tail (.tail (.tail (.tail .head))))))))) | exact .old .head | exact .old (.tail .head) | exact .old (.tail (.tail .head)) | exact .old (.tail (.tail (.tail .head))) | exact .old (.tail (.tail (.tail (.tail .head)))) | exact .old (.tail (.tail (.tail (.tail (.tail .head))))) | exact .own .head | exact .own (.tail .head) | exact .own (.tail (.tail .head)) | exact .own (.tail (.tail (.tail .head))) | exact .own (.tail (.tail (.tail (.tail .head)))) | exact .own (.tail (.tail (.tail (.tail (.tail .head))))) | exact .own (.tail (.tail (.tail (.tail (.tail (.tail .head)))))) | exact .own (.tail (.tail (.tail (.tail (.tail (.tail (.tail .head)))))))) (by omega) (by omega)) rfl ?_; refine j_fieldAddr ?_; refine l_quiet (o_loadV0 (q := 0) (by exact rfl) (by exact one_of rfl) (by first | exact .new .head | exact .new (.tail .head) | exact .new (.tail (.tail .head)) | exact .new (.tail (.tail (.tail .head))) | exact .new (.tail (.tail (.tail (.tail .head)))) | exact .new (.tail (.tail (.tail (.tail (.tail .head))))) | exact .new (.tail (.tail (.tail (.tail (.tail (.tail .head)))))) | exact .new (.tail (.tail (.tail (.tail (.tail (.tail (.tail .head))))))) | exact .new (.tail (.tail (.tail (.tail (.tail (.tail (.tail (.tail .head)))))))) | exact .new (.tail (.tail (.tail (.tail (.tail (.tail (.tail (.tail (.tail .head))))))))) | exact .old .head | exact .old (.tail .head) | exact .old (.tail (.tail .head)) | exact .old (.tail (.tail (.tail .head))) | exact .old (.tail (.tail (.tail (.tail .head)))) | exact .old (.tail (.tail (.tail (.tail (.tail .head))))) | exact .own .head | exact .own (.tail .head) | exact .own (.tail (.tail .head)) | exact .own (.tail (.tail (.tail .head))) | exact .own (.tail (.tail (.tail (.tail .head)))) | exact .own (.tail (.tail (.tail (.tail (.tail .head))))) | exact .own (.tail (.tail (.tail (.tail (.tail (.tail .head)))))) | exact .own (.tail (.tail (.tail (.tail (.tail (.tail (.tail .head)))))))) (by omega)) rfl ?_; refine j_neq ?_; refine j_move ?_)
     all_goals (first | refine j_un ?_ | (refine j_yes ?_; refine j_fieldAddr ?_) | (refine l_case (g := 25) (by exact rfl) (fun g25 => ?_) (fun g25 => ?_) <;> (revert g25; (first | refine cv1 ?_ | refine cv2 ?_ | refine cvb ?_ | refine cvc ?_ | refine cv9 ?_ | refine cva ?_ | refine cv7 ?_ | refine cv8 ?_ | refine cvd ?_ | refine cve ?_ | skip); intro g25) <;> (first | refine j_un ?_ | (refine j_yes ?_; refine j_fieldAddr ?_))))
     all_goals ((first | refine j_un ?_ | (refine j_yes ?_; refine j_load ?_)); (first | refine j_un ?_ | (refine j_yes ?_; refine l_quiet (o_indexV (k := 1) (by exact rfl) (by exact rfl) (by exact sl_of rfl) (by exact agg_of rfl) (by first | exact .new .head | exact .new (.tail .head) | exact .new (.tail (.tail .head)) | exact .new (.tail (.tail (.tail .head))) | exact .new (.tail (.tail (.tail (.tail .head)))) | exact .new (.tail (.tail (.tail (.tail (.tail .head))))) | exact .new (.tail (.tail (.tail (.tail (.tail (.tail .head)))))) | exact .new (.tail (.tail (.tail (.tail (.tail (.tail (.tail .head))))))) | exact .new (.tail (.tail (.tail (.tail (.tail (.tail (.tail (.tail .head)))))))) | exact .new (.tail (.tail (.tail (.tail (.tail (.tail (.tail (.tail (.tail .head))))))))) | exact .old .head | exact .old (.tail .head) | exact .old (.tail (.tail .head)) | exact .old (.tail (.tail (.tail .head))) | exact .old (.tail (.tail (.tail (.tail .head)))) | exact .old (.tail (.tail (.tail (.tail (.tail .head))))) | exact .own .head | exact .own (.tail .head) | exact .own (.tail (.tail .head)) | exact .own (.tail (.tail (.tail .head))) | exact .own (.tail (.tail (.tail (.tail .head)))) | exact .own (.tail (.tail (.tail (.tail (.tail .head))))) | exact .own (.tail (.tail (.tail (.tail (.tail (.tail .head)))))) | exact .own (.tail (.tail (.tail (.tail (.tail (.tail (.tail .head)))))))) (by omega) (by omega)) rfl ?_)); (first | refine j_un ?_ | (refine j_yes ?_; refine j_fieldAddr ?_)); (first | refine j_un ?_ | (refine j_yes ?_; refine l_quiet (o_loadV0 (q := 1) (by exact rfl) (by exact one_of rfl) (by first | exact .new .head | exact .new (.tail .head) | exact .new (.tail (.tail .head)) | exact .new (.tail (.tail (.tail .head))) | exact .new (.tail (.tail (.tail (.tail .head)))) | exact .new (.tail (.tail (.tail (.tail (.tail .head))))) | exact .new (.tail (.tail (.tail (.tail (.tail (.tail .head)))))) | exact .new (.tail (.tail (.tail (.tail (.tail (.tail (.tail .head))))))) | exact .new (.tail (.tail (.tail (.tail (.tail (.tail (.tail (.tail .head)))))))) | exact .new (.tail (.tail (.tail (.tail (.tail (.tail (.tail (.tail (.tail .head))))))))) | exact .old .head | exact .old (.tail .head) | exact .old (.tail (.tail .head)) | exact .old (.tail (.tail (.tail .head))) | exact .old (.tail (.tail (.tail (.tail .head)))) | exact .old (.tail (.tail (.tail (.tail (.tail .head))))) | exact .own .head | exact .own (.tail .head) | exact .own (.tail (.tail .head)) | exact .own (.tail (.tail (.tail .head))) | exact .own (.tail (.tail (.tail (.tail .head)))) | exact .own (.tail (.tail (.tail (.tail (.tail .head))))) | exact .own (.tail (.tail (.tail (.tail (.tail (.tail .head)))))) | exact .own (.tail (.tail (.tail (.tail (.tail (.tail (.tail .head)))))))) (by omega)) rfl ?_)); (first | refine j_un ?_ | (refine j_yes ?_; refine j_neq ?_)); refine j_pick ?_; refine l_nil ?_)
     all_goals
      refine k_if (fun c32 => ?_) (fun c32 => ?_)
      · try (exact absurd c32 (by decide))
        all_goals (revert c32; (first | refine cv1 ?_ | refine cv3 ?_ | refine cv5 ?_ | refine cv7 ?_ | refine cv9 ?_ | refine cvb ?_ | refine cvd ?_ | skip); intro c32)
        all_goals (refine k_seq ?_; refine k_region ?_; refine j_assignL (fun _ => ?_); refine l_nil ?_)
        all_goals
         refine k_rv Try.results21 (fun w hw => ?_)
         exact ⟨false, rfl, ⟨(fun h => nomatch h), fun hp => by have h1 := hp.m0; have h2 := hp.m1; exfalso; omega⟩, hw.done⟩
      · try (exact absurd c32 (by decide))
        all_goals (revert c32; (first | refine cv2 ?_ | refine cv4 ?_ | refine cv6 ?_ | refine cv8 ?_ | refine cva ?_ | refine cvc ?_ | refine cve ?_ | skip); intro c32)
        all_goals (refine k_skip ?_; refine k_seq ?_; refine k_seq ?_; refine k_region ?_; refine j_fieldAddr ?_; refine j_load ?_; refine j_len ?_; refine j_move ?_; refine l_nil ?_; refine k_block ?_)
        all_goals
         refine k_loopC [2, 4, 36, 37, 38, 39, 40, 41, 42, 43, 44, 45, 46] (fun k => [(36, .int .i64 ((k : Nat) : Int))]) (fun k => k ≤ cs.length ∧ ∀ i, i < k → Ins (cs.getD i 0) L.length) (fun k => cs.length - k) (0) (⟨Nat.zero_le _, fun i hi => absurd hi (Nat.not_lt_zero i)⟩) ?_ (fun k f hx => ?_)
         · repeat (first | exact knows_nil _ | refine knows_cons (by first | exact rfl | (conv => { lhs; whnf }; simp; done)) ?_)
         dsimp only [mkU, List.map, List.cons_append, List.nil_append]
         all_goals (refine k_seq ?_; refine k_region ?_; refine j_lss ?_; refine l_nil ?_; refine k_seq ?_)
         all_goals
          refine k_if (fun c37 => ?_) (fun c37 => ?_)
          · try (exact absurd c37 (by decide))
            all_goals (revert c37; (first | refine cv1 ?_ | refine cv3 ?_ | refine cv5 ?_ | refine cv7 ?_ | refine cv9 ?_ | refine cvb ?_ | refine cvd ?_ | skip); intro c37)
            all_goals (refine k_skip ?_; refine k_seq ?_; refine k_block ?_; refine k_seq ?_; refine k_region ?_; refine j_indexAddr ?_; refine j_load ?_; refine j_assignL (fun _ => ?_); refine l_nil ?_; refine k_seq ?_; refine k_region ?_; refine j_move ?_; refine j_fieldAddr ?_; refine j_load ?_; refine j_len ?_; (refine j_own (cV (hc := fun w1 hw => inside_c _ _ w1)) (fun x44 => ?_); try (refine l_fact (fun h44 => ?_))); refine j_not ?_; refine l_nil ?_)
            all_goals
             refine k_if (fun c45 => ?_) (fun c45 => ?_)
             · try (exact absurd c45 (by decide))
               all_goals (revert c45; (first | refine cv1 ?_ | refine cv3 ?_ | refine cv5 ?_ | refine cv7 ?_ | refine cv9 ?_ | refine cvb ?_ | refine cvd ?_ | skip); intro c45)
               all_goals (refine k_seq ?_; refine k_region ?_; refine j_assignL (fun _ => ?_); refine l_nil ?_)
               all_goals
                refine k_rv Try.results21 (fun w hw => ?_)
                exact ⟨false, rfl, ⟨(fun h => nomatch h), fun hp => absurd (hp.cells k (by omega)) (by assumption)⟩, hw.done⟩
             · try (exact absurd c45 (by decide))
               all_goals (revert c45; (first | refine cv2 ?_ | refine cv4 ?_ | refine cv6 ?_ | refine cv8 ?_ | refine cva ?_ | refine cvc ?_ | refine cve ?_ | skip); intro c45)
               all_goals (refine k_skip ?_; refine k_blk ?_; refine k_region ?_; refine j_inc ?_; refine j_move ?_; refine l_nil ?_)
               all_goals
                refine k_roundC (k + 1) ?_ ?_ ?_
                · first | omega | (simp only []; omega)
                · repeat' (first | exact knows_nil _ | refine knows_cons ?_ ?_)
                  all_goals (first | exact rfl | (conv => { lhs; whnf }; simp; done) | (conv => { lhs; whnf }; congr 1; omega))
                · exact ⟨by omega, fun i hi => by rcases Nat.lt_succ_iff_lt_or_eq.1 hi with h | rfl; exact hx.2 i h; assumption⟩
          · try (exact absurd c37 (by decide))
            all_goals (revert c37; (first | refine cv2 ?_ | refine cv4 ?_ | refine cv6 ?_ | refine cv8 ?_ | refine cva ?_ | refine cvc ?_ | refine cve ?_ | skip); intro c37)
            all_goals (refine k_exit rfl ?_; refine k_seq ?_; refine k_region ?_; refine j_fieldAddr ?_; refine j_load ?_; refine j_len ?_; refine j_makeSlice (fun x50 => ?_); refine j_assignL (fun _ => ?_); refine l_nil ?_; refine k_seq ?_; refine k_seq ?_; refine k_region ?_; refine j_fieldAddr ?_; refine j_load ?_; refine j_len ?_; refine j_move ?_; refine l_nil ?_; refine k_block ?_)
            all_goals
             have hcells : ∀ i, i < cs.length → Ins (cs.getD i 0) L.length := fun i hi => hx.2 i (by omega)
             clear hx
             refine k_loopF [2, 7, 8, 9, 54, 55, 56, 57, 58, 59, 60, 61, 62, 63, 64, 65, 66, 67, 68, 69, 70, 71, 72, 73, 74, 75, 76, 77, 78, 79, 80, 81, 82, 83, 84, 85, 86, 87, 88, 89, 90, 91, 92, 93, 94, 95, 96, 97, 98, 99, 100, 101, 102, 103] (fun y : Nat × List Bool => [(54, .int .i64 ((y.1 : Nat) : Int))]) (fun y => y.1 ≤ L.length ∧ marks cs.length (L.take y.1) = some y.2 ∧ ∀ i, i < y.1 → NdOk gen L.length (L.getD i NdV.zero)) (fun _ => _) (fun _ => _) (fun y => [⟨some ⟨x50, 0, none⟩, boolsC y.2, cs.length, 4, 1⟩]) (fun y => L.length - y.1) ((0, List.replicate cs.length false)) (by decide) (fun _ => by exact rfl) ?_ (⟨Nat.zero_le _, rfl, fun i hi => absurd hi (Nat.not_lt_zero i)⟩) (fun w hw => hw.back) (fun y f hx => ?_)
             · repeat (first | exact knows_nil _ | refine knows_cons (by first | exact rfl | (conv => { lhs; whnf }; simp; done)) ?_)
             dsimp only [mkU, List.map, List.cons_append, List.nil_append]
             have hu := marks_len hx.2.1
             all_goals (refine k_seq ?_; refine k_region ?_; refine j_lss ?_; refine l_nil ?_; refine k_seq ?_)
             all_goals
              refine k_if (fun c55 => ?_) (fun c55 => ?_)
              · try (exact absurd c55 (by decide))
                all_goals (revert c55; (first | refine cv1 ?_ | refine cv3 ?_ | refine cv5 ?_ | refine cv7 ?_ | refine cv9 ?_ | refine cvb ?_ | refine cvd ?_ | skip); intro c55)
                all_goals (refine k_skip ?_; refine k_seq ?_; refine k_block ?_; refine k_seq ?_; refine k_region ?_; refine j_indexAddr ?_; refine j_load ?_; refine j_alloc (fun x7 => ?_); refine j_store (fun _ => ?_); refine l_nil ?_; refine k_seq ?_; refine k_seq ?_; refine k_region ?_; refine j_load ?_; (refine j_own (c0 (V := .bool) (hc := fun w1 hw => ndValid_c (hw.repA h.fit (by omega)))) (fun x59 => ?_); try (refine l_fact (fun h59 => ?_))); refine j_not ?_; refine j_move ?_)
                all_goals (first | refine j_un ?_ | (refine j_yes ?_; refine j_fieldAddr ?_) | (refine l_case (g := 61) (by exact rfl) (fun g61 => ?_) (fun g61 => ?_) <;> (revert g61; (first | refine cv1 ?_ | refine cv2 ?_ | refine cvb ?_ | refine cvc ?_ | refine cv9 ?_ | refine cva ?_ | refine cv7 ?_ | refine cv8 ?_ | refine cvd ?_ | refine cve ?_ | skip); intro g61) <;> (first | refine j_un ?_ | (refine j_yes ?_; refine j_fieldAddr ?_))))
                all_goals ((first | refine j_un ?_ | (refine j_yes ?_; refine j_load ?_)); (first | refine j_un ?_ | (refine j_yes ?_; refine j_fieldAddr ?_)); (first | refine j_un ?_ | (refine j_yes ?_; refine j_load ?_)); (first | refine j_un ?_ | (refine j_yes ?_; refine j_gtr ?_)); refine j_pick ?_; refine j_move ?_)
                all_goals (first | refine j_un ?_ | (refine j_yes ?_; refine j_load ?_) | (refine l_case (g := 68) (by exact rfl) (fun g68 => ?_) (fun g68 => ?_) <;> (revert g68; (first | refine cv1 ?_ | refine cv2 ?_ | refine cvb ?_ | refine cvc ?_ | refine cv9 ?_ | refine cva ?_ | refine cv7 ?_ | refine cv8 ?_ | refine cvd ?_ | refine cve ?_ | skip); intro g68) <;> (first | refine j_un ?_ | (refine j_yes ?_; refine j_load ?_))))
                all_goals ((first | refine j_un ?_ | (refine j_yes ?_; refine j_fieldAddr ?_)); (first | refine j_un ?_ | (refine j_yes ?_; refine j_load ?_)); (first | refine j_un ?_ | (refine j_yes ?_; refine j_len ?_)); ((first | refine j_un ?_ | (refine j_yes ?_; (refine j_own (c0 (V := .bool) (hc := fun w1 hw => properRefs_c (hw.repA h.fit (by omega)).brN (hw.repA h.fit (by omega)).br (hw.repA h.fit (by omega)).brS)) (fun x73 => ?_); try (refine l_fact (fun h73 => ?_)))))); (first | refine j_un ?_ | (refine j_yes ?_; refine j_not ?_)); refine j_pick ?_; refine l_nil ?_)
                all_goals
                 refine k_if (fun c75 => ?_) (fun c75 => ?_)
                 · try (exact absurd c75 (by decide))
                   all_goals (revert c75; (first | refine cv1 ?_ | refine cv3 ?_ | refine cv5 ?_ | refine cv7 ?_ | refine cv9 ?_ | refine cvb ?_ | refine cvd ?_ | skip); intro c75)
                   all_goals (refine k_seq ?_; refine k_region ?_; refine j_assignL (fun _ => ?_); refine l_nil ?_)
                   all_goals
                    refine k_rv Try.results21 (fun w hw => ?_)
                    refine ⟨false, rfl, ⟨(fun h => nomatch h), fun hp => ?_⟩, hw.done⟩
                    obtain ⟨q1, q2, q3⟩ := hp.nodes y.1 (by omega)
                    first | (exfalso; omega) | (have := h59.2 q1; simp_all; done) | (have := h73.2 q3; simp_all; done)
                 · try (exact absurd c75 (by decide))
                   all_goals (revert c75; (first | refine cv2 ?_ | refine cv4 ?_ | refine cv6 ?_ | refine cv8 ?_ | refine cva ?_ | refine cvc ?_ | refine cve ?_ | skip); intro c75)
                   all_goals
                    have hok : NdOk gen L.length (L.getD y.1 NdV.zero) := ⟨h59.1 (by simp_all), by omega, h73.1 (by simp_all)⟩
                   all_goals (refine k_skip ?_; refine k_seq ?_; refine k_region ?_; refine j_load ?_; (refine j_own (cV (hc := fun w1 hw => cellOf_c (L.getD y.1 NdV.zero).nd w1)) (fun x78 => ?_); try (refine l_fact (fun h78 => ?_))); refine j_move ?_; refine j_extract ?_; refine j_extract ?_; refine j_assignL (fun _ => ?_); refine j_assignL (fun _ => ?_); refine l_nil ?_; refine k_seq ?_; refine k_seq ?_; refine k_region ?_; refine j_move ?_; refine j_not ?_; refine l_nil ?_)
                   all_goals
                    refine k_if (fun c82 => ?_) (fun c82 => ?_)
                    · try (exact absurd c82 (by decide))
                      all_goals (revert c82; (first | refine cv1 ?_ | refine cv3 ?_ | refine cv5 ?_ | refine cv7 ?_ | refine cv9 ?_ | refine cvb ?_ | refine cvd ?_ | skip); intro c82)
                      all_goals
                       have hmk : markS (some y.2) (L.getD y.1 NdV.zero).nd = some y.2 := by
                        have e : cellK (L.getD y.1 NdV.zero).nd = none := by cases hq : cellK (L.getD y.1 NdV.zero).nd <;> simp_all
                        simp only [markS, e]
                      all_goals (refine k_exit rfl ?_; refine k_region ?_; refine j_inc ?_; refine j_move ?_; refine l_nil ?_)
                      all_goals
                       refine k_roundF ((y.1 + 1, (markS (some y.2) (L.getD y.1 NdV.zero).nd).getD y.2)) ?_ ?_ (by repeat (first | (with_reducible exact Pre.refl) | refine Pre.cons (by exact rfl) ?_)) ?_ (fun w hw => by rw [hmk]; exact hw.back)
                       · first | omega | (simp only []; omega)
                       · repeat' (first | exact knows_nil _ | refine knows_cons ?_ ?_)
                         all_goals (first | exact rfl | (conv => { lhs; whnf }; simp; done) | (conv => { lhs; whnf }; congr 1; omega))
                       · refine ⟨by omega, by rw [marks_take (by omega), hx.2.1, hmk]; rfl, fun i hi => ?_⟩
                         rcases Nat.lt_succ_iff_lt_or_eq.1 hi with h | rfl
                         · exact hx.2.2 i h
                         · exact hok
                    · try (exact absurd c82 (by decide))
                      all_goals (revert c82; (first | refine cv2 ?_ | refine cv4 ?_ | refine cv6 ?_ | refine cv8 ?_ | refine cva ?_ | refine cvc ?_ | refine cve ?_ | skip); intro c82)
                      all_goals
                       obtain ⟨c, hc⟩ : ∃ c, cellK (L.getD y.1 NdV.zero).nd = some c := Option.isSome_iff_exists.1 c82
                       rw [hc, Option.getD_some]
                      all_goals (refine k_skip ?_; refine k_seq ?_; refine k_seq ?_; refine k_region ?_; refine j_move ?_; refine j_lss ?_; refine j_move ?_)
                      all_goals (first | refine j_un ?_ | (refine j_yes ?_; refine j_move ?_) | (refine l_case (g := 85) (by exact rfl) (fun g85 => ?_) (fun g85 => ?_) <;> (revert g85; (first | refine cv1 ?_ | refine cv2 ?_ | refine cvb ?_ | refine cvc ?_ | refine cv9 ?_ | refine cva ?_ | refine cv7 ?_ | refine cv8 ?_ | refine cvd ?_ | refine cve ?_ | skip); intro g85) <;> (first | refine j_un ?_ | (refine j_yes ?_; refine j_move ?_))))
                      all_goals ((first | refine j_un ?_ | (refine j_yes ?_; refine j_fieldAddr ?_)); (first | refine j_un ?_ | (refine j_yes ?_; refine j_load ?_)); (first | refine j_un ?_ | (refine j_yes ?_; refine j_len ?_)); (first | refine j_un ?_ | (refine j_yes ?_; refine j_gtr ?_)); refine j_pick ?_; refine j_move ?_)
                      all_goals (first | refine j_un ?_ | (refine j_yes ?_; refine j_move ?_) | (refine l_case (g := 92) (by exact rfl) (fun g92 => ?_) (fun g92 => ?_) <;> (revert g92; (first | refine cv1 ?_ | refine cv2 ?_ | refine cvb ?_ | refine cvc ?_ | refine cv9 ?_ | refine cva ?_ | refine cv7 ?_ | refine cv8 ?_ | refine cvd ?_ | refine cve ?_ | skip); intro g92) <;> (first | refine j_un ?_ | (refine j_yes ?_; refine j_move ?_))))
                      all_goals ((first | refine j_un ?_ | (refine j_yes ?_; refine j_move ?_)); (first | refine j_un ?_ | (refine j_yes ?_; refine l_quiet (o_decT (by exact rfl) (by exact rfl) (by omega) (by omega)) rfl ?_)); (first | refine j_un ?_ | (refine j_yes ?_; refine l_quiet (o_indexB (by exact rfl) (by exact rfl) (by exact sl_of rfl) (by exact one_of rfl) (by first | exact .new .head | exact .new (.tail .head) | exact .new (.tail (.tail .head)) | exact .new (.tail (.tail (.tail .head))) | exact .new (.tail (.tail (.tail (.tail .head)))) | exact .new (.tail (.tail (.tail (.tail (.tail .head))))) | exact .new (.tail (.tail (.tail (.tail (.tail (.tail .head)))))) | exact .new (.tail (.tail (.tail (.tail (.tail (.tail (.tail .head))))))) | exact .new (.tail (.tail (.tail (.tail (.tail (.tail (.tail (.tail .head)))))))) | exact .new (.tail (.tail (.tail (.tail (.tail (.tail (.tail (.tail (.tail .head))))))))) | exact .old .head | exact .old (.tail .head) | exact .old (.tail (.tail .head)) | exact .old (.tail (.tail (.tail .head))) | exact .old (.tail (.tail (.tail (.tail .head)))) | exact .old (.tail (.tail (.tail (.tail (.tail .head))))) | exact .own .head | exact .own (.tail .head) | exact .own (.tail (.tail .head)) | exact .own (.tail (.tail (.tail .head))) | exact .own (.tail (.tail (.tail (.tail .head)))) | exact .own (.tail (.tail (.tail (.tail (.tail .head))))) | exact .own (.tail (.tail (.tail (.tail (.tail (.tail .head)))))) | exact .own (.tail (.tail (.tail (.tail (.tail (.tail (.tail .head)))))))) (by omega) (by omega)) rfl ?_)); (first | refine j_un ?_ | (refine j_yes ?_; refine l_quiet (o_loadB (by exact rfl) (by exact one_of rfl) (by first | exact .new .head | exact .new (.tail .head) | exact .new (.tail (.tail .head)) | exact .new (.tail (.tail (.tail .head))) | exact .new (.tail (.tail (.tail (.tail .head)))) | exact .new (.tail (.tail (.tail (.tail (.tail .head))))) | exact .new (.tail (.tail (.tail (.tail (.tail (.tail .head)))))) | exact .new (.tail (.tail (.tail (.tail (.tail (.tail (.tail .head))))))) | exact .new (.tail (.tail (.tail (.tail (.tail (.tail (.tail (.tail .head)))))))) | exact .new (.tail (.tail (.tail (.tail (.tail (.tail (.tail (.tail (.tail .head))))))))) | exact .old .head | exact .old (.tail .head) | exact .old (.tail (.tail .head)) | exact .old (.tail (.tail (.tail .head))) | exact .old (.tail (.tail (.tail (.tail .head)))) | exact .old (.tail (.tail (.tail (.tail (.tail .head))))) | exact .own .head | exact .own (.tail .head) | exact .own (.tail (.tail .head)) | exact .own (.tail (.tail (.tail .head))) | exact .own (.tail (.tail (.tail (.tail .head)))) | exact .own (.tail (.tail (.tail (.tail (.tail .head))))) | exact .own (.tail (.tail (.tail (.tail (.tail (.tail .head)))))) | exact .own (.tail (.tail (.tail (.tail (.tail (.tail (.tail .head)))))))) (by omega)) rfl ?_)); refine j_pick ?_; refine l_nil ?_)
                      all_goals
                       refine k_if (fun c98 => ?_) (fun c98 => ?_)
                       · try (exact absurd c98 (by decide))
                         all_goals (revert c98; (first | refine cv1 ?_ | refine cv3 ?_ | refine cv5 ?_ | refine cv7 ?_ | refine cv9 ?_ | refine cvb ?_ | refine cvd ?_ | skip); intro c98)
                         all_goals (refine k_seq ?_; refine k_region ?_; refine j_assignL (fun _ => ?_); refine l_nil ?_)
                         all_goals
                          refine k_rv Try.results21 (fun w hw => ?_)
                          refine ⟨false, rfl, ⟨(fun h => nomatch h), fun hp => ?_⟩, hw.done⟩
                          have hm : marks cs.length (L.take (y.1 + 1)) = none := by
                           rw [marks_take (by omega), hx.2.1]
                           simp only [markS, hc]
                           refine if_neg fun hh => ?_
                           obtain ⟨q1, q2, q3⟩ := hh
                           first | (exfalso; omega) | (exfalso; rw [q3] at c98; cases c98)
                          exact absurd (marks_none hm) hp.marks
                       · try (exact absurd c98 (by decide))
                         all_goals (revert c98; (first | refine cv2 ?_ | refine cv4 ?_ | refine cv6 ?_ | refine cv8 ?_ | refine cva ?_ | refine cvc ?_ | refine cve ?_ | skip); intro c98)
                         all_goals
                          have hmk : markS (some y.2) (L.getD y.1 NdV.zero).nd = some (y.2.set (c - 1).toNat true) := by
                           simp only [markS, hc]
                           rw [if_pos ⟨by omega, by omega, c98⟩]
                         all_goals (refine k_skip ?_; refine k_region ?_; refine j_move ?_; refine j_move ?_; refine l_quiet (o_decT (by exact rfl) (by exact rfl) (by omega) (by omega)) rfl ?_; refine l_quiet (o_indexB (by exact rfl) (by exact rfl) (by exact sl_of rfl) (by exact one_of rfl) (by first | exact .new .head | exact .new (.tail .head) | exact .new (.tail (.tail .head)) | exact .new (.tail (.tail (.tail .head))) | exact .new (.tail (.tail (.tail (.tail .head)))) | exact .new (.tail (.tail (.tail (.tail (.tail .head))))) | exact .new (.tail (.tail (.tail (.tail (.tail (.tail .head)))))) | exact .new (.tail (.tail (.tail (.tail (.tail (.tail (.tail .head))))))) | exact .new (.tail (.tail (.tail (.tail (.tail (.tail (.tail (.tail .head)))))))) | exact .new (.tail (.tail (.tail (.tail (.tail (.tail (.tail (.tail (.tail .head))))))))) | exact .old .head | exact .old (.tail .head) | exact .old (.tail (.tail .head)) | exact .old (.tail (.tail (.tail .head))) | exact .old (.tail (.tail (.tail (.tail .head)))) | exact .old (.tail (.tail (.tail (.tail (.tail .head))))) | exact .own .head | exact .own (.tail .head) | exact .own (.tail (.tail .head)) | exact .own (.tail (.tail (.tail .head))) | exact .own (.tail (.tail (.tail (.tail .head)))) | exact .own (.tail (.tail (.tail (.tail (.tail .head))))) | exact .own (.tail (.tail (.tail (.tail (.tail (.tail .head)))))) | exact .own (.tail (.tail (.tail (.tail (.tail (.tail (.tail .head)))))))) (by omega) (by omega)) rfl ?_; refine j_store (fun _ => ?_); refine l_nil ?_; refine k_blk ?_; refine k_region ?_; refine j_inc ?_; refine j_move ?_; refine l_nil ?_)
                         all_goals
                          refine k_roundF ((y.1 + 1, (markS (some y.2) (L.getD y.1 NdV.zero).nd).getD y.2)) ?_ ?_ (by repeat (first | (with_reducible exact Pre.refl) | refine Pre.cons (by exact rfl) ?_)) ?_ (fun w hw => by rw [hmk]; exact hw.back)
                          · first | omega | (simp only []; omega)
                          · repeat' (first | exact knows_nil _ | refine knows_cons ?_ ?_)
                            all_goals (first | exact rfl | (conv => { lhs; whnf }; simp; done) | (conv => { lhs; whnf }; congr 1; omega))
                          · refine ⟨by omega, by rw [marks_take (by omega), hx.2.1, hmk]; rfl, fun i hi => ?_⟩
                            rcases Nat.lt_succ_iff_lt_or_eq.1 hi with h | rfl
                            · exact hx.2.2 i h
                            · exact hok
              · try (exact absurd c55 (by decide))
                all_goals (revert c55; (first | refine cv2 ?_ | refine cv4 ?_ | refine cv6 ?_ | refine cv8 ?_ | refine cva ?_ | refine cvc ?_ | refine cve ?_ | skip); intro c55)
                all_goals (refine k_exit rfl ?_; refine k_seq ?_; refine k_region ?_; refine j_assignL (fun _ => ?_); refine l_nil ?_)
                all_goals
                 refine k_rv Try.results21 (fun w hw => ?_)
                 have hy : y.1 = L.length := by omega
                 have hmm : marks cs.length L = some y.2 := by have := hx.2.1; rwa [hy, List.take_length] at this
                 exact ⟨true, rfl, ⟨fun _ => ⟨by omega, by omega, by omega, by omega, hcells, fun i hi => hx.2.2 i (by omega), by rw [hmm]; exact fun h => nomatch h⟩, fun _ => rfl⟩, hw.done⟩
end Go.Proofs.Ytpfjjagcmjmfpaa
