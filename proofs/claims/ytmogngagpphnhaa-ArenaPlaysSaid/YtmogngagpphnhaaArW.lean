/- ArenaPlays: the walk. -/
import Derived.Test.YtmogngagpphnhaaArV
set_option linter.unusedSimpArgs false
set_option linter.unusedVariables false
namespace Go.Ct
open Go Go.RowKit
def StepV.zero : StepV := ⟨0, 0, 0, 0, none, [], 0, NdV.zero⟩
theorem StepV.len (t : StepV) : t.L.length = 19 := rfl
def stepsC (l : List StepV) : List Value := l.flatMap StepV.L
theorem PS.Rel.mk0 {La Lm : List NdV} (s : PS) (h1 : s.La = La) (h2 : s.Lm = Lm) (h : (allV La).map NdV.c = Lm.map NdV.c) (h3 : Fits La) (h4 : Fits Lm) : s.Rel := by subst h1 h2; exact ⟨h, h3, h4⟩
theorem PS.Next.all {s x : PS} {A Fc : Fr} (h : s.Next x A Fc) : ∀ f ∈ famF x.La ++ famF x.Lm, f ∈ Fc ++ (famF s.La ++ famF s.Lm) := fun f hf => by
  rcases List.mem_append.1 hf with hf | hf
  · rcases h.fa f hf with h | h
    · exact List.mem_append_right _ (List.mem_append_left _ h)
    · exact List.mem_append_left _ h
  · rcases h.fm f hf with h | h
    · exact List.mem_append_right _ (List.mem_append_right _ h)
    · exact List.mem_append_left _ h
end Go.Ct
namespace Go.Proofs.Ytmogngagpphnhaa
open Go.RowKit Go.Ct
set_option maxHeartbeats 1000000 in
theorem arenaPlays_c {l : List Int} {p : Option Addr} {c : Nat} {ls : List StepV} {p2 : Option Addr} {c2 : Nat} {b : Bool} {w : World} (hc : Cl w p (refsC l)) (hl : l.length ≤ 17592186043904) (hs : Cl w p2 (stepsC ls)) (hfr : ∀ t ∈ ls, ∀ f ∈ t.fr, Cl w f.1 f.2) (hok : ∀ t ∈ ls, t.Ok) (hls : ls.length ≤ 4611686018427387904) :
    Calls Try.prog 7 #[.slice p l.length c, .slice p2 ls.length c2, .bool b] w fun e w' => e = .returned (.bool true) ∧ St w [] [] w' := by
  refine enter Try.func7 Try.ntmps7 rfl rfl (SF.begin (A := (p, refsC l) :: (p2, stepsC ls) :: ls.flatMap StepV.fr) (fun f hf => by
rcases List.mem_cons.1 hf with rfl | hf
· exact hc
rcases List.mem_cons.1 hf with rfl | hf
· exact hs
· obtain ⟨t, ht, hf⟩ := List.mem_flatMap.1 hf
  exact hfr t ht f hf)) ?_
  simp only [mkS]
  all_goals (refine k_seq ?_)
  all_goals refine k_region ?_
  all_goals refine j_assignL (fun _ => ?_)
  all_goals refine l_nil ?_
  all_goals (refine k_seq ?_)
  all_goals refine k_region ?_
  all_goals refine j_move ?_
  all_goals (refine j_own (cFH (Fc := fun _ => []) (Oc := fun _ => []) (hc := fun w1 hw => new_c)) (fun x13 => ?_); try (refine l_fact (fun h13 => ?_)))
  all_goals (refine j_own (cF1 (hc := fun w1 hw => mMem_c (hw.tape (by repeat (first | exact At.head | apply At.tail)) (by first | exact .new .head | exact .new (.tail .head) | exact .new (.tail (.tail .head)) | exact .new (.tail (.tail (.tail .head))) | exact .new (.tail (.tail (.tail (.tail .head)))) | exact .new (.tail (.tail (.tail (.tail (.tail .head))))) | exact .new (.tail (.tail (.tail (.tail (.tail (.tail .head)))))) | exact .new (.tail (.tail (.tail (.tail (.tail (.tail (.tail .head))))))) | exact .new (.tail (.tail (.tail (.tail (.tail (.tail (.tail (.tail .head)))))))) | exact .new (.tail (.tail (.tail (.tail (.tail (.tail (.tail (.tail (.tail .head))))))))) | exact .old .head | exact .old (.tail .head) | exact .old (.tail (.tail .head)) | exact .old (.tail (.tail (.tail .head))) | exact .old (.tail (.tail (.tail (.tail .head)))) | exact .old (.tail (.tail (.tail (.tail (.tail .head))))) | exact .own .head | exact .own (.tail .head) | exact .own (.tail (.tail .head)) | exact .own (.tail (.tail (.tail .head))) | exact .own (.tail (.tail (.tail (.tail .head)))) | exact .own (.tail (.tail (.tail (.tail (.tail .head))))) | exact .own (.tail (.tail (.tail (.tail (.tail (.tail .head)))))) | exact .own (.tail (.tail (.tail (.tail (.tail (.tail (.tail .head)))))))) hl))) (fun x14 => ?_); try (refine l_fact (fun h14 => ?_)))
  all_goals refine j_assignL (fun _ => ?_)
  all_goals refine l_nil ?_
  all_goals (refine k_seq ?_)
  all_goals refine k_region ?_
  all_goals refine j_move ?_
  all_goals refine j_nilCheck ?_
  all_goals refine j_fieldAddr ?_
  all_goals refine l_quiet (o_loadPart (k := 3) (by exact rfl) (by repeat (first | exact At.head | apply At.tail)) (by exact agg_of rfl) (by simp only [List.drop_zero, List.take_succ_cons, List.take_zero]; exact rfl) rfl) rfl ?_
  all_goals (refine j_own (cFH (hc := fun w1 hw => ofOk_c (hw.stAt (.inr (.inr (.inr ⟨_, .head _, rfl, rfl⟩))) (.inr (.inr (.inr ⟨_, .tail _ (.head _), rfl, rfl⟩))) (fun f hf => .inr (.inr (.inl (List.mem_append_left _ hf)))) h14.fit) (by have := h14.hL; omega) (by have := h14.hc; omega) (hw.capV .head) h14.proper)) (fun x20 => ?_); try (refine l_fact (fun h20 => ?_)))
  all_goals refine j_move ?_
  all_goals refine j_extract ?_
  all_goals refine j_extract ?_
  all_goals refine j_assignL (fun _ => ?_)
  all_goals refine j_assignL (fun _ => ?_)
  all_goals refine l_nil ?_
  all_goals (refine k_seq ?_)
  all_goals (refine k_seq ?_)
  all_goals refine k_region ?_
  all_goals refine j_move ?_
  all_goals refine j_neq ?_
  all_goals refine j_move ?_
  all_goals (first | refine j_un ?_ | (refine j_yes ?_; refine j_move ?_) | (refine l_case (g := 25) (by exact rfl) (fun g25 => ?_) (fun g25 => ?_) <;> (revert g25; (first | refine cv1 ?_ | refine cv2 ?_ | refine cvb ?_ | refine cvc ?_ | refine cv9 ?_ | refine cva ?_ | refine cv7 ?_ | refine cv8 ?_ | refine cvd ?_ | refine cve ?_ | skip); intro g25) <;> (try (exfalso; omega)) <;> (first | refine j_un ?_ | (refine j_yes ?_; refine j_move ?_))))
  all_goals (first | refine j_un ?_ | (refine j_yes ?_; refine j_eql ?_))
  all_goals refine j_pick ?_
  all_goals refine l_nil ?_
  all_goals
    refine k_cond (by exact rfl) (fun c28 => ?_) (fun c28 => ?_)
    · try (exact absurd c28 (by decide))
      all_goals (revert c28; (first | refine cv1 ?_ | refine cv3 ?_ | refine cv5 ?_ | refine cv7 ?_ | refine cv9 ?_ | refine cvb ?_ | refine cvd ?_ | skip); intro c28)
      all_goals try (exfalso; omega)
      all_goals
        cases c28
      all_goals (refine k_seq ?_)
      all_goals refine k_region ?_
      all_goals refine j_assignL (fun _ => ?_)
      all_goals refine l_nil ?_
      all_goals
        refine k_retvF Try.results7 (.tmp (by conv => { lhs; whnf }) .nil) (fun w hw => ?_)
        exact ⟨rfl, hw.done⟩
    · try (exact absurd c28 (by decide))
      all_goals (revert c28; (first | refine cv2 ?_ | refine cv4 ?_ | refine cv6 ?_ | refine cv8 ?_ | refine cva ?_ | refine cvc ?_ | refine cve ?_ | skip); intro c28)
      all_goals try (exfalso; omega)
      all_goals
        have hlen : x20.2.1.length + 2 = x14.2.1.1.length := by
          have := congrArg List.length h20.1
          simpa [allV_length] using this
        have hL := h14.hL
        have hC := h14.hc
        have h2L := h14.proper.two
      all_goals (refine k_skip ?_)
      all_goals (refine k_seq ?_)
      all_goals (refine k_seq ?_)
      all_goals refine k_region ?_
      all_goals refine j_assignL (fun _ => ?_)
      all_goals refine l_nil ?_
      all_goals (refine k_block ?_)
      all_goals
        refine k_loopF [6, 8, 10, 11, 29, 30, 31, 32, 33, 34, 35, 36, 37, 38, 39, 40, 41, 42, 43, 44, 45, 46, 47, 48, 49, 50, 51, 52, 53, 54, 55, 56, 57, 58, 59, 60, 61, 62, 63, 64, 65, 66, 67, 68, 69, 70, 71, 72, 73, 74, 75, 76, 77] (fun y : Nat × PS × Nat => [(10, .int .i64 ((y.1 : Nat) : Int)), (8, .pointer (some ⟨y.2.2, 0, none⟩))]) (fun y => y.2.1.Rel ∧ y.2.1.acca = y.2.1.accm ∧ y.1 ≤ 25 ∧ y.2.1.Lm.length ≤ 10 + y.1 ∧ 2 ≤ y.2.1.Lm.length ∧ y.2.1.cs.length ≤ 10 + y.1) (fun y => pHs y.2.1 y.2.2 x14.1) (fun y => famF y.2.1.La ++ famF y.2.1.Lm) (fun y => pOs y.2.1) (fun y => 25 - y.1) ((0, ⟨x20.2.1, x14.2.1.1, x14.2.1.2, 3, 0, 0, x20.2.2.1.1, x20.2.2.1.2, x20.2.2.2.1, x20.2.2.2.2, x14.2.2.1.1, x14.2.2.1.2, x14.2.2.2.1.1, x14.2.2.2.1.2⟩, x20.1)) (by decide) (fun _ => by exact rfl) ?_ (⟨PS.Rel.mk0 _ rfl rfl h20.1 h20.2 h14.fit, rfl, Nat.zero_le _, hL, h2L, hC⟩) (fun w hw => hw.sub (List.Sublist.cons_cons _ (List.Sublist.cons_cons _ (List.nil_sublist _))) (FSub.ofSub fun f hf => by simpa using hf) (List.Sublist.refl _)) (fun y f hx => ?_)
        · repeat (first | exact knows_nil _ | refine knows_cons (by first | exact rfl | (conv => { lhs; whnf }; simp; done)) ?_)
        dsimp only [mkU, List.map, List.cons_append, List.nil_append]
        all_goals (refine k_seq ?_)
        all_goals (refine k_seq ?_)
        all_goals refine k_region ?_
        all_goals refine j_move ?_
        all_goals refine j_move ?_
        all_goals refine j_len ?_
        all_goals refine j_lss ?_
        all_goals refine j_move ?_
        all_goals (first | refine j_un ?_ | (refine j_yes ?_; refine j_move ?_) | (refine l_case (g := 33) (by exact rfl) (fun g33 => ?_) (fun g33 => ?_) <;> (revert g33; (first | refine cv1 ?_ | refine cv2 ?_ | refine cvb ?_ | refine cvc ?_ | refine cv9 ?_ | refine cva ?_ | refine cv7 ?_ | refine cv8 ?_ | refine cvd ?_ | refine cve ?_ | skip); intro g33) <;> (try (exfalso; omega)) <;> (first | refine j_un ?_ | (refine j_yes ?_; refine j_move ?_))))
        all_goals (first | refine j_un ?_ | (refine j_yes ?_; refine j_lss ?_))
        all_goals refine j_pick ?_
        all_goals refine l_nil ?_
        all_goals
          refine k_cond (by exact rfl) (fun c36 => ?_) (fun c36 => ?_)
          · try (exact absurd c36 (by decide))
            all_goals (revert c36; (first | refine cv1 ?_ | refine cv3 ?_ | refine cv5 ?_ | refine cv7 ?_ | refine cv9 ?_ | refine cvb ?_ | refine cvd ?_ | skip); intro c36)
            all_goals try (exfalso; omega)
            all_goals
              have hxs := hx
              have hrl := hx.1.len
              have htm : ls.getD y.1 StepV.zero ∈ ls := by
                rw [List.getD_eq_getElem?_getD, List.getElem?_eq_getElem (by omega)]
                exact List.getElem_mem _
            all_goals (refine k_skip ?_)
            all_goals (refine k_seq ?_)
            all_goals (refine k_block ?_)
            all_goals (refine k_seq ?_)
            all_goals
              refine k_joinG [6, 8, 11, 39, 40, 41, 42, 43, 44, 45, 46, 47, 48, 49, 50, 51, 52, 53, 54, 55, 56, 57, 58, 59, 60, 61, 62] (fun z : PS × Nat => [(8, .pointer (some ⟨z.2, 0, none⟩))]) (fun z => z.1.Rel ∧ z.1.acca = z.1.accm ∧ z.1.Lm.length = y.2.1.Lm.length ∧ z.1.cs.length = y.2.1.cs.length) (fun z => pHs z.1 z.2 x14.1) (fun z => famF z.1.La ++ famF z.1.Lm) (fun z => pOs z.1) (by decide) (fun _ => by exact rfl) ?_ (fun z f hx => ?_)
              · all_goals (refine k_seq ?_)
                all_goals refine k_region ?_
                all_goals refine j_move ?_
                all_goals refine j_move ?_
                all_goals refine l_quiet (o_indexG StepV.len (by decide) (by exact rfl) (by exact rfl) (by exact sl_of rfl) (by exact agg_of rfl) (.old (.tail .head)) (by omega) (by omega)) rfl ?_
                all_goals refine j_fieldAddr ?_
                all_goals refine l_quiet (o_loadGf (j := 0) StepV.zero StepV.len (by exact rfl) (by exact one_of rfl) (by decide) rfl (.old (.tail .head)) (by omega)) rfl ?_
                all_goals (refine j_own (cV (hc := fun w1 hw => modN_c (ls.getD y.1 StepV.zero).kind 8 w1 (by decide) (by decide))) (fun x44 => ?_); try (refine l_fact (fun h44 => ?_)))
                all_goals refine j_eql ?_
                all_goals refine l_nil ?_
                all_goals
                  refine k_cond (by exact rfl) (fun c45 => ?_) (fun c45 => ?_)
                  · try (exact absurd c45 (by decide))
                    all_goals (revert c45; (first | refine cv1 ?_ | refine cv3 ?_ | refine cv5 ?_ | refine cv7 ?_ | refine cv9 ?_ | refine cvb ?_ | refine cvd ?_ | skip); intro c45)
                    all_goals try (exfalso; omega)
                    all_goals (refine k_seq ?_)
                    all_goals refine k_region ?_
                    all_goals refine j_move ?_
                    all_goals refine j_assignL (fun _ => ?_)
                    all_goals refine l_nil ?_
                    all_goals (refine k_seq ?_)
                    all_goals (refine k_seq ?_)
                    all_goals refine k_region ?_
                    all_goals refine j_move ?_
                    all_goals (refine j_own (cMH (hc := fun w hs => aCopy_c (L := y.2.1.La) (cs := y.2.1.cs) hs (by omega) (by omega))) (fun x48 => ?_); try (refine l_fact (fun h48 => ?_)))
                    all_goals refine j_assignL (fun _ => ?_)
                    all_goals refine l_nil ?_
                    all_goals (refine k_seq ?_)
                    all_goals refine k_region ?_
                    all_goals refine j_move ?_
                    all_goals refine j_eql ?_
                    all_goals refine l_nil ?_
                    all_goals
                      refine k_cond (by exact rfl) (fun c50 => ?_) (fun c50 => ?_)
                      · try (exact absurd c50 (by decide))
                        all_goals (revert c50; (first | refine cv1 ?_ | refine cv3 ?_ | refine cv5 ?_ | refine cv7 ?_ | refine cv9 ?_ | refine cvb ?_ | refine cvd ?_ | skip); intro c50)
                        all_goals try (exfalso; omega)
                        all_goals
                          cases c50
                        all_goals (refine k_seq ?_)
                        all_goals refine k_region ?_
                        all_goals refine j_assignL (fun _ => ?_)
                        all_goals refine l_nil ?_
                        all_goals
                          refine k_retvF Try.results7 (.tmp (by conv => { lhs; whnf }) .nil) (fun w hw => ?_)
                          exact ⟨rfl, hw.done⟩
                      · try (exact absurd c50 (by decide))
                        all_goals (revert c50; (first | refine cv2 ?_ | refine cv4 ?_ | refine cv6 ?_ | refine cv8 ?_ | refine cva ?_ | refine cvc ?_ | refine cve ?_ | skip); intro c50)
                        all_goals try (exfalso; omega)
                        all_goals (refine k_skip ?_)
                        all_goals (refine k_seq ?_)
                        all_goals refine k_region ?_
                        all_goals refine j_move ?_
                        all_goals refine j_nilCheck ?_
                        all_goals refine j_fieldAddr ?_
                        all_goals refine j_store (fun _ => ?_)
                        all_goals refine l_nil ?_
                        all_goals (refine k_seq ?_)
                        all_goals refine k_region ?_
                        all_goals refine j_move ?_
                        all_goals (refine j_own (cM (hc := fun w hs => aNewGen_c (L := y.2.1.La) (cs := y.2.1.cs) hs)) (fun x55 => ?_); try (refine l_fact (fun h55 => ?_)))
                        all_goals refine l_nil ?_
                        all_goals (refine k_seq ?_)
                        all_goals refine k_region ?_
                        all_goals refine j_move ?_
                        all_goals refine j_move ?_
                        all_goals (refine j_own (cM (hc := fun w hs => aLoad_c (L := y.2.1.La) (cs := y.2.1.cs) hs 1 (by decide) (by omega))) (fun x58 => ?_); try (refine l_fact (fun h58 => ?_)))
                        all_goals (refine j_own (cM (hc := fun w hs => aCAS_c (L := y.2.1.La) (cs := y.2.1.cs) hs 1 _ 2 (by decide) (by omega))) (fun x59 => ?_); try (refine l_fact (fun h59 => ?_)))
                        all_goals refine l_nil ?_
                        all_goals refine k_region ?_
                        all_goals refine j_move ?_
                        all_goals refine j_build ?_
                        all_goals (refine j_own (cM (A0 := [(none, refsC []), (none, prC [])]) (hc := fun w hs => aAlloc_c (L := y.2.1.La) (cs := casL y.2.1.cs 1 (cellV y.2.1.cs 1) 2) (n := { Nd.zero with kind := 4 }) (xs := []) (ys := []) 0 hs rfl rfl (by decide) (by decide) (by omega) (by rw [casL_length]; omega))) (fun x62 => ?_); try (refine l_fact (fun h62 => ?_)))
                        all_goals refine l_nil ?_
                        all_goals
                          refine k_roundF ((⟨y.2.1.La, y.2.1.Lm, y.2.1.cs, y.2.1.gen, 0, 0, x48.2.1.1, x48.2.1.2, x48.2.2.1, x48.2.2.2, y.2.1.mpn, y.2.1.mcn, y.2.1.mpc, y.2.1.mcc⟩, x48.1)) (by decide) ?_ (by repeat (first | (with_reducible exact Pre.refl) | refine Pre.cons (by exact rfl) ?_)) ?_ (fun w hw => hw.sub (List.Sublist.cons_cons _ (List.Sublist.cons _ (List.Sublist.refl _))) (FSub.ofSub fun f hf => List.mem_append_right _ hf) (List.Sublist.cons_cons _ (List.Sublist.cons_cons _ (List.Sublist.cons _ (List.Sublist.cons _ (List.Sublist.refl _))))))
                          · repeat' (first | exact knows_nil _ | refine knows_cons ?_ ?_)
                            all_goals (first | exact rfl | (conv => { lhs; whnf }; simp; done) | (conv => { lhs; whnf }; congr 1; omega))
                          · exact ⟨PS.Rel.mk0 _ rfl rfl hx.1.same hx.1.fa hx.1.fm, rfl, rfl, rfl⟩
                  · try (exact absurd c45 (by decide))
                    all_goals (revert c45; (first | refine cv2 ?_ | refine cv4 ?_ | refine cv6 ?_ | refine cv8 ?_ | refine cva ?_ | refine cvc ?_ | refine cve ?_ | skip); intro c45)
                    all_goals try (exfalso; omega)
                    all_goals (refine k_skip ?_)
                    all_goals
                      refine k_roundF ((y.2.1, y.2.2)) (by decide) ?_ (by repeat (first | (with_reducible exact Pre.refl) | refine Pre.cons (by exact rfl) ?_)) ?_ (fun w hw => hw.sub (List.Sublist.refl _) FSub.all (List.Sublist.refl _))
                      · repeat' (first | exact knows_nil _ | refine knows_cons ?_ ?_)
                        all_goals (first | exact rfl | (conv => { lhs; whnf }; simp; done) | (conv => { lhs; whnf }; congr 1; omega))
                      · exact ⟨hx.1, hx.2.1, rfl, rfl⟩
              dsimp only [mkU, List.map, List.cons_append, List.nil_append]
              have hz := hx
            all_goals (refine k_seq ?_)
            all_goals refine k_region ?_
            all_goals refine j_move ?_
            all_goals refine j_move ?_
            all_goals refine j_move ?_
            all_goals refine j_move ?_
            all_goals refine l_quiet (o_indexG StepV.len (by decide) (by exact rfl) (by exact rfl) (by exact sl_of rfl) (by exact agg_of rfl) (.old (.tail .head)) (by omega) (by omega)) rfl ?_
            all_goals refine l_quiet (o_loadG StepV.zero StepV.len (by exact rfl) (by exact agg_of rfl) (.old (.tail .head)) (by omega)) rfl ?_
            all_goals refine j_move ?_
            all_goals (refine j_own (cM (A0 := famF z.1.La ++ (ls.getD y.1 StepV.zero).fr) (hA := HasAll.of fun f hf => (List.mem_append.1 hf).elim (fun h => .inr (.inr (.inl (List.mem_append_left _ h)))) (fun h => .inr (.inl (List.mem_cons_of_mem _ (List.mem_cons_of_mem _ (List.mem_flatMap.2 ⟨_, htm, h⟩)))))) (hc := fun w hs => apply_c (s := z.1) (t := ls.getD y.1 StepV.zero) hs hz.1 (hok _ htm) (fun f h => List.mem_append_left _ h) (fun f h => List.mem_append_right _ h) (by omega) (by omega) (by omega))) (fun x70 => ?_); try (refine l_fact (fun h70 => ?_)))
            all_goals refine j_not ?_
            all_goals refine j_move ?_
            all_goals (first | refine j_un ?_ | (refine j_yes ?_; refine j_move ?_) | (refine l_case (g := 72) (by exact rfl) (fun g72 => ?_) (fun g72 => ?_) <;> (revert g72; (first | refine cv1 ?_ | refine cv2 ?_ | refine cvb ?_ | refine cvc ?_ | refine cv9 ?_ | refine cva ?_ | refine cv7 ?_ | refine cv8 ?_ | refine cvd ?_ | refine cve ?_ | skip); intro g72) <;> (try (exfalso; omega)) <;> (first | refine j_un ?_ | (refine j_yes ?_; refine j_move ?_))))
            all_goals (first | refine j_un ?_ | (refine j_yes ?_; refine j_move ?_))
            all_goals (first | refine j_un ?_ | (refine j_yes ?_; (refine j_own (cM (A0 := famF x70.1.La ++ famF x70.1.Lm) (hA := HasAll.of fun f hf => .inr (.inr (.inl (h70.all f hf)))) (hc := fun w hs => same2_c (s := x70.1) hs h70.rel (h70.acc hz.2.1) (fun f h => List.mem_append_left _ h) (fun f h => List.mem_append_right _ h) (by have := h70.hl; omega) (by have := h70.hc; omega))) (fun x75 => ?_); try (refine l_fact (fun h75 => ?_)))))
            all_goals (first | refine j_un ?_ | (refine j_yes ?_; refine j_not ?_))
            all_goals refine j_pick ?_
            all_goals refine l_nil ?_
            all_goals
              refine k_cond (by exact rfl) (fun c77 => ?_) (fun c77 => ?_)
              · try (exact absurd c77 (by decide))
                all_goals (revert c77; (first | refine cv1 ?_ | refine cv3 ?_ | refine cv5 ?_ | refine cv7 ?_ | refine cv9 ?_ | refine cvb ?_ | refine cvd ?_ | skip); intro c77)
                all_goals try (exfalso; omega)
                all_goals (refine k_seq ?_)
                all_goals refine k_region ?_
                all_goals refine j_assignL (fun _ => ?_)
                all_goals refine l_nil ?_
                all_goals
                  refine k_retvF Try.results7 (.tmp (by conv => { lhs; whnf }) .nil) (fun w hw => ?_)
                  exact ⟨rfl, hw.done⟩
              · try (exact absurd c77 (by decide))
                all_goals (revert c77; (first | refine cv2 ?_ | refine cv4 ?_ | refine cv6 ?_ | refine cv8 ?_ | refine cva ?_ | refine cvc ?_ | refine cve ?_ | skip); intro c77)
                all_goals try (exfalso; omega)
                all_goals (refine k_skip ?_)
                all_goals (refine k_blk ?_)
                all_goals refine k_region ?_
                all_goals refine j_move ?_
                all_goals refine j_inc ?_
                all_goals refine j_assignL (fun _ => ?_)
                all_goals refine l_nil ?_
                all_goals
                  refine k_roundF ((y.1 + 1, x70.1, z.2)) ?_ ?_ (by repeat (first | (with_reducible exact Pre.refl) | refine Pre.cons (by exact rfl) ?_)) ?_ (fun w hw => hw.subF (fun f hf => .inr (h70.all f hf)))
                  · simp only []; omega
                  · repeat' (first | exact knows_nil _ | refine knows_cons ?_ ?_)
                    all_goals (first | exact rfl | (conv => { lhs; whnf }; simp; done) | (conv => { lhs; whnf }; congr 1; omega))
                  · exact ⟨h70.rel, h70.acc hz.2.1, by show y.1 + 1 ≤ 25; omega, by have := h70.hl; show x70.1.Lm.length ≤ 10 + (y.1 + 1); omega, by have := h70.lm; show 2 ≤ x70.1.Lm.length; omega, by have := h70.hc; show x70.1.cs.length ≤ 10 + (y.1 + 1); omega⟩
          · try (exact absurd c36 (by decide))
            all_goals (revert c36; (first | refine cv2 ?_ | refine cv4 ?_ | refine cv6 ?_ | refine cv8 ?_ | refine cva ?_ | refine cvc ?_ | refine cve ?_ | skip); intro c36)
            all_goals try (exfalso; omega)
            all_goals (refine k_exit rfl ?_)
            all_goals (refine k_seq ?_)
            all_goals refine k_region ?_
            all_goals refine j_move ?_
            all_goals refine j_move ?_
            all_goals (refine j_own (cM (A0 := famF y.2.1.La ++ famF y.2.1.Lm) (hA := HasAll.of fun f hf => .inr (.inr (.inl hf))) (hc := fun w hs => same2_c (s := y.2.1) hs hx.1 hx.2.1 (fun f h => List.mem_append_left _ h) (fun f h => List.mem_append_right _ h) (by omega) (by omega))) (fun x80 => ?_); try (refine l_fact (fun h80 => ?_)))
            all_goals refine j_move ?_
            all_goals (first | refine j_un ?_ | (refine j_yes ?_; (refine j_own (cV (hc := fun w1 hw => awake5_c w1)) (fun x82 => ?_); try (refine l_fact (fun h82 => ?_)))) | (refine l_case (g := 81) (by exact rfl) (fun g81 => ?_) (fun g81 => ?_) <;> (revert g81; (first | refine cv1 ?_ | refine cv2 ?_ | refine cvb ?_ | refine cvc ?_ | refine cv9 ?_ | refine cva ?_ | refine cv7 ?_ | refine cv8 ?_ | refine cvd ?_ | refine cve ?_ | skip); intro g81) <;> (try (exfalso; omega)) <;> (first | refine j_un ?_ | (refine j_yes ?_; (refine j_own (cV (hc := fun w1 hw => awake5_c w1)) (fun x82 => ?_); try (refine l_fact (fun h82 => ?_)))))))
            all_goals refine j_pick ?_
            all_goals refine j_assignL (fun _ => ?_)
            all_goals refine l_nil ?_
            all_goals
              refine k_retvF Try.results7 (.tmp (by conv => { lhs; whnf }) .nil) (fun w hw => ?_)
              exact ⟨rfl, hw.done⟩
end Go.Proofs.Ytmogngagpphnhaa
