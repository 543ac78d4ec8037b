/- ArenaNodes: the walk. -/
import Derived.Test.YtmogngagpphnhaaArX
set_option linter.unusedSimpArgs false
set_option linter.unusedVariables false
namespace Go.Proofs.Ytmogngagpphnhaa
open Go.RowKit Go.Ct
theorem memJ {a b f : Option Addr × List Value} {X Y : Fr} (h : f ∈ [a, b] ++ X) : f ∈ a :: b :: (X ++ Y) := by
  rcases List.mem_append.1 h with h | h
  · exact List.mem_append_left (X ++ Y) h
  · exact .tail _ (.tail _ (List.mem_append_left _ h))
set_option maxRecDepth 100000 in
set_option maxHeartbeats 2000000 in
theorem arenaNodes_c {l : List Int} {p : Option Addr} {c : Nat} {ls : List StepV} {p2 : Option Addr} {c2 : Nat} {w : World} (hc : Cl w p (refsC l)) (hl : l.length ≤ 17592186043904) (hs : Cl w p2 (stepsC ls)) (hfr : ∀ t ∈ ls, ∀ f ∈ t.fr, Cl w f.1 f.2) (hok : ∀ t ∈ ls, t.Ok) (hls : ls.length ≤ 4611686018427387904) :
    Calls Try.prog 6 #[.slice p l.length c, .slice p2 ls.length c2] w fun e w' => e = .returned (.bool true) ∧ St w [] [] w' := by
  refine enter Try.func6 Try.ntmps6 rfl rfl (SF.begin (A := (p, refsC l) :: (p2, stepsC ls) :: ls.flatMap StepV.fr) (fun f hf => by
rcases List.mem_cons.1 hf with rfl | hf
· exact hc
rcases List.mem_cons.1 hf with rfl | hf
· exact hs
· obtain ⟨t, ht, hf⟩ := List.mem_flatMap.1 hf
  exact hfr t ht f hf)) ?_
  simp only [mkS]
  all_goals (refine k_seq ?_)
  all_goals refine k_region ?_
  all_goals refine j_assignL (fun _ => ?_)
  all_goals refine l_nil ?_
  all_goals (refine k_seq ?_)
  all_goals refine k_region ?_
  all_goals refine j_move ?_
  all_goals (refine j_own (cFH (Fc := fun _ => []) (Oc := fun _ => []) (hc := fun w1 hw => new_c)) (fun x20 => ?_); try (refine l_fact (fun h20 => ?_)))
  all_goals refine j_assignL (fun _ => ?_)
  all_goals refine l_nil ?_
  all_goals (refine k_seq ?_)
  all_goals refine k_region ?_
  all_goals refine j_move ?_
  all_goals (refine j_own (cF1 (hc := fun w1 hw => mMem_c (hw.tape (by repeat (first | exact At.head | apply At.tail)) (by first | exact .new .head | exact .new (.tail .head) | exact .new (.tail (.tail .head)) | exact .new (.tail (.tail (.tail .head))) | exact .new (.tail (.tail (.tail (.tail .head)))) | exact .new (.tail (.tail (.tail (.tail (.tail .head))))) | exact .new (.tail (.tail (.tail (.tail (.tail (.tail .head)))))) | exact .new (.tail (.tail (.tail (.tail (.tail (.tail (.tail .head))))))) | exact .new (.tail (.tail (.tail (.tail (.tail (.tail (.tail (.tail .head)))))))) | exact .new (.tail (.tail (.tail (.tail (.tail (.tail (.tail (.tail (.tail .head))))))))) | exact .old .head | exact .old (.tail .head) | exact .old (.tail (.tail .head)) | exact .old (.tail (.tail (.tail .head))) | exact .old (.tail (.tail (.tail (.tail .head)))) | exact .old (.tail (.tail (.tail (.tail (.tail .head))))) | exact .own .head | exact .own (.tail .head) | exact .own (.tail (.tail .head)) | exact .own (.tail (.tail (.tail .head))) | exact .own (.tail (.tail (.tail (.tail .head)))) | exact .own (.tail (.tail (.tail (.tail (.tail .head))))) | exact .own (.tail (.tail (.tail (.tail (.tail (.tail .head)))))) | exact .own (.tail (.tail (.tail (.tail (.tail (.tail (.tail .head)))))))) hl))) (fun x22 => ?_); try (refine l_fact (fun h22 => ?_)))
  all_goals refine j_assignL (fun _ => ?_)
  all_goals refine l_nil ?_
  all_goals (refine k_seq ?_)
  all_goals refine k_region ?_
  all_goals refine j_move ?_
  all_goals refine j_nilCheck ?_
  all_goals refine j_fieldAddr ?_
  all_goals refine l_quiet (o_loadPart (k := 3) (by exact rfl) (by repeat (first | exact At.head | apply At.tail)) (by exact agg_of rfl) (by simp only [List.drop_zero, List.take_succ_cons, List.take_zero]; exact rfl) rfl) rfl ?_
  all_goals (refine j_own (cFH (hc := fun w1 hw => ofOk_c (hw.stAt (.inr (.inr (.inr ⟨_, .head _, rfl, rfl⟩))) (.inr (.inr (.inr ⟨_, .tail _ (.head _), rfl, rfl⟩))) (fun f hf => .inr (.inr (.inl (List.mem_append_left _ hf)))) h22.fit) (by have := h22.hL; omega) (by have := h22.hc; omega) (hw.capV .head) h22.proper)) (fun x28 => ?_); try (refine l_fact (fun h28 => ?_)))
  all_goals refine j_move ?_
  all_goals refine j_extract ?_
  all_goals refine j_extract ?_
  all_goals refine j_assignL (fun _ => ?_)
  all_goals refine j_assignL (fun _ => ?_)
  all_goals refine l_nil ?_
  all_goals (refine k_seq ?_)
  all_goals (refine k_seq ?_)
  all_goals refine k_region ?_
  all_goals refine j_move ?_
  all_goals refine j_neq ?_
  all_goals refine j_move ?_
  all_goals (first | refine j_un ?_ | (refine j_yes ?_; refine j_move ?_) | (refine l_case (g := 33) (by exact rfl) (fun g33 => ?_) (fun g33 => ?_) <;> (revert g33; (first | refine cv1 ?_ | refine cv2 ?_ | refine cvb ?_ | refine cvc ?_ | refine cv9 ?_ | refine cva ?_ | refine cv7 ?_ | refine cv8 ?_ | refine cvd ?_ | refine cve ?_ | skip); intro g33) <;> (try (exfalso; omega)) <;> (first | refine j_un ?_ | (refine j_yes ?_; refine j_move ?_))))
  all_goals (first | refine j_un ?_ | (refine j_yes ?_; refine j_eql ?_))
  all_goals refine j_pick ?_
  all_goals refine l_nil ?_
  all_goals
    refine k_cond (by exact rfl) (fun c36 => ?_) (fun c36 => ?_)
    · try (exact absurd c36 (by decide))
      all_goals (revert c36; (first | refine cv1 ?_ | refine cv3 ?_ | refine cv5 ?_ | refine cv7 ?_ | refine cv9 ?_ | refine cvb ?_ | refine cvd ?_ | skip); intro c36)
      all_goals try (exfalso; omega)
      all_goals
        cases c36
      all_goals (refine k_seq ?_)
      all_goals refine k_region ?_
      all_goals refine j_assignL (fun _ => ?_)
      all_goals refine l_nil ?_
      all_goals
        refine k_retvF Try.results6 (.tmp (by conv => { lhs; whnf }) .nil) (fun w hw => ?_)
        exact ⟨beq_ret hkind, hw.done⟩
    · try (exact absurd c36 (by decide))
      all_goals (revert c36; (first | refine cv2 ?_ | refine cv4 ?_ | refine cv6 ?_ | refine cv8 ?_ | refine cva ?_ | refine cvc ?_ | refine cve ?_ | skip); intro c36)
      all_goals try (exfalso; omega)
      all_goals
        have hlen : x28.2.1.length + 2 = x22.2.1.1.length := by
          have := congrArg List.length h28.1
          simpa [allV_length] using this
        have hL := h22.hL
        have hC := h22.hc
        have h2L := h22.proper.two
      all_goals (refine k_skip ?_)
      all_goals (refine k_seq ?_)
      all_goals refine k_region ?_
      all_goals refine j_move ?_
      all_goals refine j_move ?_
      all_goals refine j_nilCheck ?_
      all_goals refine j_fieldAddr ?_
      all_goals refine j_fieldAddr ?_
      all_goals refine j_load ?_
      all_goals refine j_len ?_
      all_goals (refine j_own (cF1 (hc := fun w1 hw => tnodeB_c (x22.2.1.1.length : Int) (hw.tape (by repeat (first | exact At.head | apply At.tail)) (by first | exact .new .head | exact .new (.tail .head) | exact .new (.tail (.tail .head)) | exact .new (.tail (.tail (.tail .head))) | exact .new (.tail (.tail (.tail (.tail .head)))) | exact .new (.tail (.tail (.tail (.tail (.tail .head))))) | exact .new (.tail (.tail (.tail (.tail (.tail (.tail .head)))))) | exact .new (.tail (.tail (.tail (.tail (.tail (.tail (.tail .head))))))) | exact .new (.tail (.tail (.tail (.tail (.tail (.tail (.tail (.tail .head)))))))) | exact .new (.tail (.tail (.tail (.tail (.tail (.tail (.tail (.tail (.tail .head))))))))) | exact .old .head | exact .old (.tail .head) | exact .old (.tail (.tail .head)) | exact .old (.tail (.tail (.tail .head))) | exact .old (.tail (.tail (.tail (.tail .head)))) | exact .old (.tail (.tail (.tail (.tail (.tail .head))))) | exact .own .head | exact .own (.tail .head) | exact .own (.tail (.tail .head)) | exact .own (.tail (.tail (.tail .head))) | exact .own (.tail (.tail (.tail (.tail .head)))) | exact .own (.tail (.tail (.tail (.tail (.tail .head))))) | exact .own (.tail (.tail (.tail (.tail (.tail (.tail .head)))))) | exact .own (.tail (.tail (.tail (.tail (.tail (.tail (.tail .head)))))))) hl) (by omega) (by omega))) (fun x44 => ?_); try (refine l_fact (fun h44 => ?_)))
      all_goals refine j_alloc (fun x9 => ?_)
      all_goals refine j_store (fun _ => ?_)
      all_goals refine l_nil ?_
      all_goals (refine k_seq ?_)
      all_goals
        refine k_joinG [10, 45, 46, 47, 48, 49, 50, 51, 52, 53, 54, 55, 56, 57, 58, 59, 60, 61, 62, 63, 64, 65, 66, 67, 68, 69, 70, 71] (fun j : Nat × (Option Addr × Nat) × (Option Addr × Nat) => [(10, .pointer (some ⟨j.1, 0, none⟩))]) (fun _ => True) (fun j => [(j.1, .cells ⟨mineL x44.1 x44.2.1 x44.2.2.1 j.2.1 j.2.2⟩ 48 (0, 0)), (x9, .cells ⟨ndL x44.1 x44.2.1 x44.2.2.1⟩ 48 (0, 0)), (x28.1, aO x28.2.1 x22.2.1.2 3 0 x28.2.2.1.1 x28.2.2.1.2 x28.2.2.2.1 x28.2.2.2.2)]) (fun j => [(x44.1.brA, refsC x44.2.1), (x44.1.prA, prC x44.2.2.1)] ++ famF x28.2.1) (fun j => [⟨j.2.1.1, refsC x44.2.1, j.2.1.2, 39, 1⟩, ⟨j.2.2.1, prC x44.2.2.1, j.2.2.2, 67, 2⟩, ⟨x28.2.2.1.1, nvC x28.2.1, x28.2.2.1.2, 48, 14⟩, ⟨x28.2.2.2.1, refsC x22.2.1.2, x28.2.2.2.2, 39, 1⟩]) (by decide) (fun _ => by exact rfl) ?_ (fun j f hx => ?_)
        · refine k_drawF (.one 0 [] (.one 1 [] (.one 2 [] (.one 3 [] (.one 4 [] (.one 5 [] (.one 7 [] (.one 8 [] (.one 10 [] (.one 11 [] (.one 12 [] (.one 13 [] (.one 14 [] (.one 15 [] (.one 17 [] (.one 18 [] (.one 20 [] (.one 21 [] (.one 22 [] (.one 23 [] (.one 24 [] (.one 25 [] (.two 6 [1, 3, 5, 8, 11, 13, 15, 18, 21, 23, 25] (.two 9 [1, 3, 5, 11, 13, 15, 18, 21, 23, 25] (.two 16 [1, 3, 5, 8, 11, 13, 15, 18, 21, 23, 25] (.two 19 [1, 3, 5, 11, 13, 15, 21, 23, 25] (.one 26 [] (.one 27 [1, 3, 5, 8, 11, 13, 15, 18, 21, 23, 25] (.one 28 [] .nil))) 0 [] (.two 27 [1, 3, 5, 8, 11, 13, 15, 18, 21, 23, 25] (.one 19 [1, 3, 5, 11, 13, 15, 21, 23, 25] (.one 26 [] (.one 28 [] .nil))) 0 [] .nil)) 0 [] (.two 27 [1, 3, 5, 8, 11, 13, 15, 18, 21, 23, 25] (.one 16 [1, 3, 5, 8, 11, 13, 15, 18, 21, 23, 25] (.one 19 [1, 3, 5, 11, 13, 15, 21, 23, 25] (.one 26 [] (.one 28 [] .nil)))) 0 [] .nil)) 0 [] (.two 16 [1, 3, 5, 8, 11, 13, 15, 18, 21, 23, 25] (.two 9 [1, 3, 5, 11, 13, 15, 18, 21, 23, 25] (.two 19 [1, 3, 5, 11, 13, 15, 21, 23, 25] (.one 26 [] (.one 27 [1, 3, 5, 8, 11, 13, 15, 18, 21, 23, 25] (.one 28 [] .nil))) 0 [] (.two 27 [1, 3, 5, 8, 11, 13, 15, 18, 21, 23, 25] (.one 19 [1, 3, 5, 11, 13, 15, 21, 23, 25] (.one 26 [] (.one 28 [] .nil))) 0 [] .nil)) 0 [] (.two 27 [1, 3, 5, 8, 11, 13, 15, 18, 21, 23, 25] (.one 9 [1, 3, 5, 11, 13, 15, 18, 21, 23, 25] (.one 19 [1, 3, 5, 11, 13, 15, 21, 23, 25] (.one 26 [] (.one 28 [] .nil)))) 0 [] .nil)) 0 [] (.two 27 [1, 3, 5, 8, 11, 13, 15, 18, 21, 23, 25] (.two 9 [1, 3, 5, 11, 13, 15, 18, 21, 23, 25] (.one 16 [1, 3, 5, 8, 11, 13, 15, 18, 21, 23, 25] (.one 19 [1, 3, 5, 11, 13, 15, 21, 23, 25] (.one 26 [] (.one 28 [] .nil)))) 0 [] (.two 16 [1, 3, 5, 8, 11, 13, 15, 18, 21, 23, 25] (.one 9 [1, 3, 5, 11, 13, 15, 18, 21, 23, 25] (.one 19 [1, 3, 5, 11, 13, 15, 21, 23, 25] (.one 26 [] (.one 28 [] .nil)))) 0 [] .nil)) 0 [] .nil))) 0 [] (.two 16 [1, 3, 5, 8, 11, 13, 15, 18, 21, 23, 25] (.two 6 [1, 3, 5, 8, 11, 13, 15, 18, 21, 23, 25] (.two 9 [1, 3, 5, 11, 13, 15, 18, 21, 23, 25] (.two 19 [1, 3, 5, 11, 13, 15, 21, 23, 25] (.one 26 [] (.one 27 [1, 3, 5, 8, 11, 13, 15, 18, 21, 23, 25] (.one 28 [] .nil))) 0 [] (.two 27 [1, 3, 5, 8, 11, 13, 15, 18, 21, 23, 25] (.one 19 [1, 3, 5, 11, 13, 15, 21, 23, 25] (.one 26 [] (.one 28 [] .nil))) 0 [] .nil)) 0 [] (.two 27 [1, 3, 5, 8, 11, 13, 15, 18, 21, 23, 25] (.one 9 [1, 3, 5, 11, 13, 15, 18, 21, 23, 25] (.one 19 [1, 3, 5, 11, 13, 15, 21, 23, 25] (.one 26 [] (.one 28 [] .nil)))) 0 [] .nil)) 0 [] (.two 27 [1, 3, 5, 8, 11, 13, 15, 18, 21, 23, 25] (.one 6 [1, 3, 5, 8, 11, 13, 15, 18, 21, 23, 25] (.one 9 [1, 3, 5, 11, 13, 15, 18, 21, 23, 25] (.one 19 [1, 3, 5, 11, 13, 15, 21, 23, 25] (.one 26 [] (.one 28 [] .nil))))) 0 [] .nil)) 0 [] (.two 27 [1, 3, 5, 8, 11, 13, 15, 18, 21, 23, 25] (.two 6 [1, 3, 5, 8, 11, 13, 15, 18, 21, 23, 25] (.two 9 [1, 3, 5, 11, 13, 15, 18, 21, 23, 25] (.one 16 [1, 3, 5, 8, 11, 13, 15, 18, 21, 23, 25] (.one 19 [1, 3, 5, 11, 13, 15, 21, 23, 25] (.one 26 [] (.one 28 [] .nil)))) 0 [] (.two 16 [1, 3, 5, 8, 11, 13, 15, 18, 21, 23, 25] (.one 9 [1, 3, 5, 11, 13, 15, 18, 21, 23, 25] (.one 19 [1, 3, 5, 11, 13, 15, 21, 23, 25] (.one 26 [] (.one 28 [] .nil)))) 0 [] .nil)) 0 [] (.two 16 [1, 3, 5, 8, 11, 13, 15, 18, 21, 23, 25] (.one 6 [1, 3, 5, 8, 11, 13, 15, 18, 21, 23, 25] (.one 9 [1, 3, 5, 11, 13, 15, 18, 21, 23, 25] (.one 19 [1, 3, 5, 11, 13, 15, 21, 23, 25] (.one 26 [] (.one 28 [] .nil))))) 0 [] .nil)) 0 [] .nil))))))))))))))))))))))))) ?_
          all_goals (refine r_fieldAddr (i := 0) ?_)
          all_goals (refine r_load (i := 1) ?_)
          all_goals (refine r_fieldAddr (i := 2) ?_)
          all_goals (refine r_load (i := 3) ?_)
          all_goals (refine r_fieldAddr (i := 4) ?_)
          all_goals (refine r_load (i := 5) ?_)
          all_goals (refine r_fieldAddr (i := 7) ?_)
          all_goals (refine r_load (i := 8) ?_)
          all_goals (refine r_fieldAddr (i := 10) ?_)
          all_goals (refine r_load (i := 11) ?_)
          all_goals (refine r_fieldAddr (i := 12) ?_)
          all_goals (refine r_load (i := 13) ?_)
          all_goals (refine r_fieldAddr (i := 14) ?_)
          all_goals (refine r_load (i := 15) ?_)
          all_goals (refine r_fieldAddr (i := 17) ?_)
          all_goals (refine r_load (i := 18) ?_)
          all_goals (refine r_fieldAddr (i := 20) ?_)
          all_goals (refine r_load (i := 21) ?_)
          all_goals (refine r_fieldAddr (i := 22) ?_)
          all_goals (refine r_load (i := 23) ?_)
          all_goals (refine r_fieldAddr (i := 24) ?_)
          all_goals (refine r_load (i := 25) ?_)
          all_goals
            refine r_many (E := [6, 16, 27]) (by decide +kernel) ((.cons ?_ (.cons ?_ (.cons ?_ .nil))))
            · refine s_build0 (i := 6) (hfire := (fun _ => by first | ((repeat (first | exact FireAll.nil | refine FireAll.cons (by first | exact a_load | exact a_un) ?_)); done) | (refine fireall_fact ?_; (repeat (first | exact FireAll.nil | refine FireAll.cons (by first | exact a_load | exact a_un) ?_)); done))) (h := fun x51 => ?_)
              all_goals
                refine r_many (E := [9, 16, 27]) (by decide +kernel) ((.cons ?_ (.cons ?_ (.cons ?_ .nil))))
                · (refine s_append (i := 9) (hfire := (fun _ => by first | ((repeat (first | exact FireAll.nil | refine FireAll.cons (by first | exact a_load | exact a_un) ?_)); done) | (refine fireall_fact ?_; (repeat (first | exact FireAll.nil | refine FireAll.cons (by first | exact a_load | exact a_un) ?_)); done))) (h := fun x54 => ?_); try (refine r_fact (fun h54 => ?_)))
                  all_goals
                    refine r_many (E := [16, 27]) (by decide +kernel) ((.cons ?_ (.cons ?_ .nil)))
                    · refine s_build0 (i := 16) (hfire := (fun _ => by first | ((repeat (first | exact FireAll.nil | refine FireAll.cons (by first | exact a_load | exact a_un) ?_)); done) | (refine fireall_fact ?_; (repeat (first | exact FireAll.nil | refine FireAll.cons (by first | exact a_load | exact a_un) ?_)); done))) (h := fun x61 => ?_)
                      all_goals
                        refine r_many (E := [19, 27]) (by decide +kernel) ((.cons ?_ (.cons ?_ .nil)))
                        · (refine s_append (i := 19) (hfire := (fun _ => by first | ((repeat (first | exact FireAll.nil | refine FireAll.cons (by first | exact a_load | exact a_un) ?_)); done) | (refine fireall_fact ?_; (repeat (first | exact FireAll.nil | refine FireAll.cons (by first | exact a_load | exact a_un) ?_)); done))) (h := fun x64 => ?_); try (refine r_fact (fun h64 => ?_)))
                          all_goals (refine r_build (i := 26) ?_)
                          all_goals (refine r_alloc (i := 27) (hfire := (fun _ => by first | ((repeat (first | exact FireAll.nil | refine FireAll.cons (by first | exact a_load | exact a_un) ?_)); done) | (refine fireall_fact ?_; (repeat (first | exact FireAll.nil | refine FireAll.cons (by first | exact a_load | exact a_un) ?_)); done))) (h := fun x10 => ?_))
                          all_goals (refine r_store (i := 28) (hfire := (fun _ => .nil)) (h := fun _ => ?_))
                          all_goals refine r_fin ?_
                          all_goals
                            refine k_roundF ((x10, x54, x64)) (by decide) ?_ (by repeat (first | (with_reducible exact Pre.refl) | refine Pre.cons (by exact rfl) ?_)) ?_ (fun w hw => by
simp only [List.nil_append, Nat.zero_add] at hw
first | exact hw.sub (List.Sublist.cons_cons _ (List.Sublist.cons_cons _ (List.Sublist.cons_cons _ (List.nil_sublist _)))) (FSub.ofSub fun f hf => memJ hf) (List.Sublist.cons_cons _ (List.Sublist.cons_cons _ (List.Sublist.cons_cons _ (List.Sublist.cons_cons _ (List.nil_sublist _))))) | exact hw.swapO.sub (List.Sublist.cons_cons _ (List.Sublist.cons_cons _ (List.Sublist.cons_cons _ (List.nil_sublist _)))) (FSub.ofSub fun f hf => memJ hf) (List.Sublist.cons_cons _ (List.Sublist.cons_cons _ (List.Sublist.cons_cons _ (List.Sublist.cons_cons _ (List.nil_sublist _))))))
                            · repeat' (first | exact knows_nil _ | refine knows_cons ?_ ?_)
                              all_goals (first | exact rfl | (conv => { lhs; whnf }; simp; done) | (conv => { lhs; whnf }; congr 1; omega))
                            · trivial
                        · refine s_alloc (i := 27) (hfire := (fun _ => by first | ((repeat (first | exact FireAll.nil | refine FireAll.cons (by first | exact a_load | exact a_un) ?_)); done) | (refine fireall_fact ?_; (repeat (first | exact FireAll.nil | refine FireAll.cons (by first | exact a_load | exact a_un) ?_)); done))) (h := fun x10 => ?_)
                          all_goals ((refine r_append (i := 19) (hfire := (fun _ => by first | ((repeat (first | exact FireAll.nil | refine FireAll.cons (by first | exact a_load | exact a_un) ?_)); done) | (refine fireall_fact ?_; (repeat (first | exact FireAll.nil | refine FireAll.cons (by first | exact a_load | exact a_un) ?_)); done))) (h := fun x64 => ?_); try (refine r_fact (fun h64 => ?_))))
                          all_goals (refine r_build (i := 26) ?_)
                          all_goals (refine r_store (i := 28) (hfire := (fun _ => .nil)) (h := fun _ => ?_))
                          all_goals refine r_fin ?_
                          all_goals
                            refine k_roundF ((x10, x54, x64)) (by decide) ?_ (by repeat (first | (with_reducible exact Pre.refl) | refine Pre.cons (by exact rfl) ?_)) ?_ (fun w hw => by
simp only [List.nil_append, Nat.zero_add] at hw
first | exact hw.sub (List.Sublist.cons_cons _ (List.Sublist.cons_cons _ (List.Sublist.cons_cons _ (List.nil_sublist _)))) (FSub.ofSub fun f hf => memJ hf) (List.Sublist.cons_cons _ (List.Sublist.cons_cons _ (List.Sublist.cons_cons _ (List.Sublist.cons_cons _ (List.nil_sublist _))))) | exact hw.swapO.sub (List.Sublist.cons_cons _ (List.Sublist.cons_cons _ (List.Sublist.cons_cons _ (List.nil_sublist _)))) (FSub.ofSub fun f hf => memJ hf) (List.Sublist.cons_cons _ (List.Sublist.cons_cons _ (List.Sublist.cons_cons _ (List.Sublist.cons_cons _ (List.nil_sublist _))))))
                            · repeat' (first | exact knows_nil _ | refine knows_cons ?_ ?_)
                              all_goals (first | exact rfl | (conv => { lhs; whnf }; simp; done) | (conv => { lhs; whnf }; congr 1; omega))
                            · trivial
                    · refine s_alloc (i := 27) (hfire := (fun _ => by first | ((repeat (first | exact FireAll.nil | refine FireAll.cons (by first | exact a_load | exact a_un) ?_)); done) | (refine fireall_fact ?_; (repeat (first | exact FireAll.nil | refine FireAll.cons (by first | exact a_load | exact a_un) ?_)); done))) (h := fun x10 => ?_)
                      all_goals (refine r_build0 (i := 16) (hfire := (fun _ => by first | ((repeat (first | exact FireAll.nil | refine FireAll.cons (by first | exact a_load | exact a_un) ?_)); done) | (refine fireall_fact ?_; (repeat (first | exact FireAll.nil | refine FireAll.cons (by first | exact a_load | exact a_un) ?_)); done))) (h := fun x61 => ?_))
                      all_goals ((refine r_append (i := 19) (hfire := (fun _ => by first | ((repeat (first | exact FireAll.nil | refine FireAll.cons (by first | exact a_load | exact a_un) ?_)); done) | (refine fireall_fact ?_; (repeat (first | exact FireAll.nil | refine FireAll.cons (by first | exact a_load | exact a_un) ?_)); done))) (h := fun x64 => ?_); try (refine r_fact (fun h64 => ?_))))
                      all_goals (refine r_build (i := 26) ?_)
                      all_goals (refine r_store (i := 28) (hfire := (fun _ => .nil)) (h := fun _ => ?_))
                      all_goals refine r_fin ?_
                      all_goals
                        refine k_roundF ((x10, x54, x64)) (by decide) ?_ (by repeat (first | (with_reducible exact Pre.refl) | refine Pre.cons (by exact rfl) ?_)) ?_ (fun w hw => by
simp only [List.nil_append, Nat.zero_add] at hw
first | exact hw.sub (List.Sublist.cons_cons _ (List.Sublist.cons_cons _ (List.Sublist.cons_cons _ (List.nil_sublist _)))) (FSub.ofSub fun f hf => memJ hf) (List.Sublist.cons_cons _ (List.Sublist.cons_cons _ (List.Sublist.cons_cons _ (List.Sublist.cons_cons _ (List.nil_sublist _))))) | exact hw.swapO.sub (List.Sublist.cons_cons _ (List.Sublist.cons_cons _ (List.Sublist.cons_cons _ (List.nil_sublist _)))) (FSub.ofSub fun f hf => memJ hf) (List.Sublist.cons_cons _ (List.Sublist.cons_cons _ (List.Sublist.cons_cons _ (List.Sublist.cons_cons _ (List.nil_sublist _))))))
                        · repeat' (first | exact knows_nil _ | refine knows_cons ?_ ?_)
                          all_goals (first | exact rfl | (conv => { lhs; whnf }; simp; done) | (conv => { lhs; whnf }; congr 1; omega))
                        · trivial
                · refine s_build0 (i := 16) (hfire := (fun _ => by first | ((repeat (first | exact FireAll.nil | refine FireAll.cons (by first | exact a_load | exact a_un) ?_)); done) | (refine fireall_fact ?_; (repeat (first | exact FireAll.nil | refine FireAll.cons (by first | exact a_load | exact a_un) ?_)); done))) (h := fun x61 => ?_)
                  all_goals
                    refine r_many (E := [9, 27]) (by decide +kernel) ((.cons ?_ (.cons ?_ .nil)))
                    · (refine s_append (i := 9) (hfire := (fun _ => by first | ((repeat (first | exact FireAll.nil | refine FireAll.cons (by first | exact a_load | exact a_un) ?_)); done) | (refine fireall_fact ?_; (repeat (first | exact FireAll.nil | refine FireAll.cons (by first | exact a_load | exact a_un) ?_)); done))) (h := fun x54 => ?_); try (refine r_fact (fun h54 => ?_)))
                      all_goals
                        refine r_many (E := [19, 27]) (by decide +kernel) ((.cons ?_ (.cons ?_ .nil)))
                        · (refine s_append (i := 19) (hfire := (fun _ => by first | ((repeat (first | exact FireAll.nil | refine FireAll.cons (by first | exact a_load | exact a_un) ?_)); done) | (refine fireall_fact ?_; (repeat (first | exact FireAll.nil | refine FireAll.cons (by first | exact a_load | exact a_un) ?_)); done))) (h := fun x64 => ?_); try (refine r_fact (fun h64 => ?_)))
                          all_goals (refine r_build (i := 26) ?_)
                          all_goals (refine r_alloc (i := 27) (hfire := (fun _ => by first | ((repeat (first | exact FireAll.nil | refine FireAll.cons (by first | exact a_load | exact a_un) ?_)); done) | (refine fireall_fact ?_; (repeat (first | exact FireAll.nil | refine FireAll.cons (by first | exact a_load | exact a_un) ?_)); done))) (h := fun x10 => ?_))
                          all_goals (refine r_store (i := 28) (hfire := (fun _ => .nil)) (h := fun _ => ?_))
                          all_goals refine r_fin ?_
                          all_goals
                            refine k_roundF ((x10, x54, x64)) (by decide) ?_ (by repeat (first | (with_reducible exact Pre.refl) | refine Pre.cons (by exact rfl) ?_)) ?_ (fun w hw => by
simp only [List.nil_append, Nat.zero_add] at hw
first | exact hw.sub (List.Sublist.cons_cons _ (List.Sublist.cons_cons _ (List.Sublist.cons_cons _ (List.nil_sublist _)))) (FSub.ofSub fun f hf => memJ hf) (List.Sublist.cons_cons _ (List.Sublist.cons_cons _ (List.Sublist.cons_cons _ (List.Sublist.cons_cons _ (List.nil_sublist _))))) | exact hw.swapO.sub (List.Sublist.cons_cons _ (List.Sublist.cons_cons _ (List.Sublist.cons_cons _ (List.nil_sublist _)))) (FSub.ofSub fun f hf => memJ hf) (List.Sublist.cons_cons _ (List.Sublist.cons_cons _ (List.Sublist.cons_cons _ (List.Sublist.cons_cons _ (List.nil_sublist _))))))
                            · repeat' (first | exact knows_nil _ | refine knows_cons ?_ ?_)
                              all_goals (first | exact rfl | (conv => { lhs; whnf }; simp; done) | (conv => { lhs; whnf }; congr 1; omega))
                            · trivial
                        · refine s_alloc (i := 27) (hfire := (fun _ => by first | ((repeat (first | exact FireAll.nil | refine FireAll.cons (by first | exact a_load | exact a_un) ?_)); done) | (refine fireall_fact ?_; (repeat (first | exact FireAll.nil | refine FireAll.cons (by first | exact a_load | exact a_un) ?_)); done))) (h := fun x10 => ?_)
                          all_goals ((refine r_append (i := 19) (hfire := (fun _ => by first | ((repeat (first | exact FireAll.nil | refine FireAll.cons (by first | exact a_load | exact a_un) ?_)); done) | (refine fireall_fact ?_; (repeat (first | exact FireAll.nil | refine FireAll.cons (by first | exact a_load | exact a_un) ?_)); done))) (h := fun x64 => ?_); try (refine r_fact (fun h64 => ?_))))
                          all_goals (refine r_build (i := 26) ?_)
                          all_goals (refine r_store (i := 28) (hfire := (fun _ => .nil)) (h := fun _ => ?_))
                          all_goals refine r_fin ?_
                          all_goals
                            refine k_roundF ((x10, x54, x64)) (by decide) ?_ (by repeat (first | (with_reducible exact Pre.refl) | refine Pre.cons (by exact rfl) ?_)) ?_ (fun w hw => by
simp only [List.nil_append, Nat.zero_add] at hw
first | exact hw.sub (List.Sublist.cons_cons _ (List.Sublist.cons_cons _ (List.Sublist.cons_cons _ (List.nil_sublist _)))) (FSub.ofSub fun f hf => memJ hf) (List.Sublist.cons_cons _ (List.Sublist.cons_cons _ (List.Sublist.cons_cons _ (List.Sublist.cons_cons _ (List.nil_sublist _))))) | exact hw.swapO.sub (List.Sublist.cons_cons _ (List.Sublist.cons_cons _ (List.Sublist.cons_cons _ (List.nil_sublist _)))) (FSub.ofSub fun f hf => memJ hf) (List.Sublist.cons_cons _ (List.Sublist.cons_cons _ (List.Sublist.cons_cons _ (List.Sublist.cons_cons _ (List.nil_sublist _))))))
                            · repeat' (first | exact knows_nil _ | refine knows_cons ?_ ?_)
                              all_goals (first | exact rfl | (conv => { lhs; whnf }; simp; done) | (conv => { lhs; whnf }; congr 1; omega))
                            · trivial
                    · refine s_alloc (i := 27) (hfire := (fun _ => by first | ((repeat (first | exact FireAll.nil | refine FireAll.cons (by first | exact a_load | exact a_un) ?_)); done) | (refine fireall_fact ?_; (repeat (first | exact FireAll.nil | refine FireAll.cons (by first | exact a_load | exact a_un) ?_)); done))) (h := fun x10 => ?_)
                      all_goals ((refine r_append (i := 9) (hfire := (fun _ => by first | ((repeat (first | exact FireAll.nil | refine FireAll.cons (by first | exact a_load | exact a_un) ?_)); done) | (refine fireall_fact ?_; (repeat (first | exact FireAll.nil | refine FireAll.cons (by first | exact a_load | exact a_un) ?_)); done))) (h := fun x54 => ?_); try (refine r_fact (fun h54 => ?_))))
                      all_goals ((refine r_append (i := 19) (hfire := (fun _ => by first | ((repeat (first | exact FireAll.nil | refine FireAll.cons (by first | exact a_load | exact a_un) ?_)); done) | (refine fireall_fact ?_; (repeat (first | exact FireAll.nil | refine FireAll.cons (by first | exact a_load | exact a_un) ?_)); done))) (h := fun x64 => ?_); try (refine r_fact (fun h64 => ?_))))
                      all_goals (refine r_build (i := 26) ?_)
                      all_goals (refine r_store (i := 28) (hfire := (fun _ => .nil)) (h := fun _ => ?_))
                      all_goals refine r_fin ?_
                      all_goals
                        refine k_roundF ((x10, x54, x64)) (by decide) ?_ (by repeat (first | (with_reducible exact Pre.refl) | refine Pre.cons (by exact rfl) ?_)) ?_ (fun w hw => by
simp only [List.nil_append, Nat.zero_add] at hw
first | exact hw.sub (List.Sublist.cons_cons _ (List.Sublist.cons_cons _ (List.Sublist.cons_cons _ (List.nil_sublist _)))) (FSub.ofSub fun f hf => memJ hf) (List.Sublist.cons_cons _ (List.Sublist.cons_cons _ (List.Sublist.cons_cons _ (List.Sublist.cons_cons _ (List.nil_sublist _))))) | exact hw.swapO.sub (List.Sublist.cons_cons _ (List.Sublist.cons_cons _ (List.Sublist.cons_cons _ (List.nil_sublist _)))) (FSub.ofSub fun f hf => memJ hf) (List.Sublist.cons_cons _ (List.Sublist.cons_cons _ (List.Sublist.cons_cons _ (List.Sublist.cons_cons _ (List.nil_sublist _))))))
                        · repeat' (first | exact knows_nil _ | refine knows_cons ?_ ?_)
                          all_goals (first | exact rfl | (conv => { lhs; whnf }; simp; done) | (conv => { lhs; whnf }; congr 1; omega))
                        · trivial
                · refine s_alloc (i := 27) (hfire := (fun _ => by first | ((repeat (first | exact FireAll.nil | refine FireAll.cons (by first | exact a_load | exact a_un) ?_)); done) | (refine fireall_fact ?_; (repeat (first | exact FireAll.nil | refine FireAll.cons (by first | exact a_load | exact a_un) ?_)); done))) (h := fun x10 => ?_)
                  all_goals
                    refine r_many (E := [9, 16]) (by decide +kernel) ((.cons ?_ (.cons ?_ .nil)))
                    · (refine s_append (i := 9) (hfire := (fun _ => by first | ((repeat (first | exact FireAll.nil | refine FireAll.cons (by first | exact a_load | exact a_un) ?_)); done) | (refine fireall_fact ?_; (repeat (first | exact FireAll.nil | refine FireAll.cons (by first | exact a_load | exact a_un) ?_)); done))) (h := fun x54 => ?_); try (refine r_fact (fun h54 => ?_)))
                      all_goals (refine r_build0 (i := 16) (hfire := (fun _ => by first | ((repeat (first | exact FireAll.nil | refine FireAll.cons (by first | exact a_load | exact a_un) ?_)); done) | (refine fireall_fact ?_; (repeat (first | exact FireAll.nil | refine FireAll.cons (by first | exact a_load | exact a_un) ?_)); done))) (h := fun x61 => ?_))
                      all_goals ((refine r_append (i := 19) (hfire := (fun _ => by first | ((repeat (first | exact FireAll.nil | refine FireAll.cons (by first | exact a_load | exact a_un) ?_)); done) | (refine fireall_fact ?_; (repeat (first | exact FireAll.nil | refine FireAll.cons (by first | exact a_load | exact a_un) ?_)); done))) (h := fun x64 => ?_); try (refine r_fact (fun h64 => ?_))))
                      all_goals (refine r_build (i := 26) ?_)
                      all_goals (refine r_store (i := 28) (hfire := (fun _ => .nil)) (h := fun _ => ?_))
                      all_goals refine r_fin ?_
                      all_goals
                        refine k_roundF ((x10, x54, x64)) (by decide) ?_ (by repeat (first | (with_reducible exact Pre.refl) | refine Pre.cons (by exact rfl) ?_)) ?_ (fun w hw => by
simp only [List.nil_append, Nat.zero_add] at hw
first | exact hw.sub (List.Sublist.cons_cons _ (List.Sublist.cons_cons _ (List.Sublist.cons_cons _ (List.nil_sublist _)))) (FSub.ofSub fun f hf => memJ hf) (List.Sublist.cons_cons _ (List.Sublist.cons_cons _ (List.Sublist.cons_cons _ (List.Sublist.cons_cons _ (List.nil_sublist _))))) | exact hw.swapO.sub (List.Sublist.cons_cons _ (List.Sublist.cons_cons _ (List.Sublist.cons_cons _ (List.nil_sublist _)))) (FSub.ofSub fun f hf => memJ hf) (List.Sublist.cons_cons _ (List.Sublist.cons_cons _ (List.Sublist.cons_cons _ (List.Sublist.cons_cons _ (List.nil_sublist _))))))
                        · repeat' (first | exact knows_nil _ | refine knows_cons ?_ ?_)
                          all_goals (first | exact rfl | (conv => { lhs; whnf }; simp; done) | (conv => { lhs; whnf }; congr 1; omega))
                        · trivial
                    · refine s_build0 (i := 16) (hfire := (fun _ => by first | ((repeat (first | exact FireAll.nil | refine FireAll.cons (by first | exact a_load | exact a_un) ?_)); done) | (refine fireall_fact ?_; (repeat (first | exact FireAll.nil | refine FireAll.cons (by first | exact a_load | exact a_un) ?_)); done))) (h := fun x61 => ?_)
                      all_goals ((refine r_append (i := 9) (hfire := (fun _ => by first | ((repeat (first | exact FireAll.nil | refine FireAll.cons (by first | exact a_load | exact a_un) ?_)); done) | (refine fireall_fact ?_; (repeat (first | exact FireAll.nil | refine FireAll.cons (by first | exact a_load | exact a_un) ?_)); done))) (h := fun x54 => ?_); try (refine r_fact (fun h54 => ?_))))
                      all_goals ((refine r_append (i := 19) (hfire := (fun _ => by first | ((repeat (first | exact FireAll.nil | refine FireAll.cons (by first | exact a_load | exact a_un) ?_)); done) | (refine fireall_fact ?_; (repeat (first | exact FireAll.nil | refine FireAll.cons (by first | exact a_load | exact a_un) ?_)); done))) (h := fun x64 => ?_); try (refine r_fact (fun h64 => ?_))))
                      all_goals (refine r_build (i := 26) ?_)
                      all_goals (refine r_store (i := 28) (hfire := (fun _ => .nil)) (h := fun _ => ?_))
                      all_goals refine r_fin ?_
                      all_goals
                        refine k_roundF ((x10, x54, x64)) (by decide) ?_ (by repeat (first | (with_reducible exact Pre.refl) | refine Pre.cons (by exact rfl) ?_)) ?_ (fun w hw => by
simp only [List.nil_append, Nat.zero_add] at hw
first | exact hw.sub (List.Sublist.cons_cons _ (List.Sublist.cons_cons _ (List.Sublist.cons_cons _ (List.nil_sublist _)))) (FSub.ofSub fun f hf => memJ hf) (List.Sublist.cons_cons _ (List.Sublist.cons_cons _ (List.Sublist.cons_cons _ (List.Sublist.cons_cons _ (List.nil_sublist _))))) | exact hw.swapO.sub (List.Sublist.cons_cons _ (List.Sublist.cons_cons _ (List.Sublist.cons_cons _ (List.nil_sublist _)))) (FSub.ofSub fun f hf => memJ hf) (List.Sublist.cons_cons _ (List.Sublist.cons_cons _ (List.Sublist.cons_cons _ (List.Sublist.cons_cons _ (List.nil_sublist _))))))
                        · repeat' (first | exact knows_nil _ | refine knows_cons ?_ ?_)
                          all_goals (first | exact rfl | (conv => { lhs; whnf }; simp; done) | (conv => { lhs; whnf }; congr 1; omega))
                        · trivial
            · refine s_build0 (i := 16) (hfire := (fun _ => by first | ((repeat (first | exact FireAll.nil | refine FireAll.cons (by first | exact a_load | exact a_un) ?_)); done) | (refine fireall_fact ?_; (repeat (first | exact FireAll.nil | refine FireAll.cons (by first | exact a_load | exact a_un) ?_)); done))) (h := fun x61 => ?_)
              all_goals
                refine r_many (E := [6, 27]) (by decide +kernel) ((.cons ?_ (.cons ?_ .nil)))
                · refine s_build0 (i := 6) (hfire := (fun _ => by first | ((repeat (first | exact FireAll.nil | refine FireAll.cons (by first | exact a_load | exact a_un) ?_)); done) | (refine fireall_fact ?_; (repeat (first | exact FireAll.nil | refine FireAll.cons (by first | exact a_load | exact a_un) ?_)); done))) (h := fun x51 => ?_)
                  all_goals
                    refine r_many (E := [9, 27]) (by decide +kernel) ((.cons ?_ (.cons ?_ .nil)))
                    · (refine s_append (i := 9) (hfire := (fun _ => by first | ((repeat (first | exact FireAll.nil | refine FireAll.cons (by first | exact a_load | exact a_un) ?_)); done) | (refine fireall_fact ?_; (repeat (first | exact FireAll.nil | refine FireAll.cons (by first | exact a_load | exact a_un) ?_)); done))) (h := fun x54 => ?_); try (refine r_fact (fun h54 => ?_)))
                      all_goals
                        refine r_many (E := [19, 27]) (by decide +kernel) ((.cons ?_ (.cons ?_ .nil)))
                        · (refine s_append (i := 19) (hfire := (fun _ => by first | ((repeat (first | exact FireAll.nil | refine FireAll.cons (by first | exact a_load | exact a_un) ?_)); done) | (refine fireall_fact ?_; (repeat (first | exact FireAll.nil | refine FireAll.cons (by first | exact a_load | exact a_un) ?_)); done))) (h := fun x64 => ?_); try (refine r_fact (fun h64 => ?_)))
                          all_goals (refine r_build (i := 26) ?_)
                          all_goals (refine r_alloc (i := 27) (hfire := (fun _ => by first | ((repeat (first | exact FireAll.nil | refine FireAll.cons (by first | exact a_load | exact a_un) ?_)); done) | (refine fireall_fact ?_; (repeat (first | exact FireAll.nil | refine FireAll.cons (by first | exact a_load | exact a_un) ?_)); done))) (h := fun x10 => ?_))
                          all_goals (refine r_store (i := 28) (hfire := (fun _ => .nil)) (h := fun _ => ?_))
                          all_goals refine r_fin ?_
                          all_goals
                            refine k_roundF ((x10, x54, x64)) (by decide) ?_ (by repeat (first | (with_reducible exact Pre.refl) | refine Pre.cons (by exact rfl) ?_)) ?_ (fun w hw => by
simp only [List.nil_append, Nat.zero_add] at hw
first | exact hw.sub (List.Sublist.cons_cons _ (List.Sublist.cons_cons _ (List.Sublist.cons_cons _ (List.nil_sublist _)))) (FSub.ofSub fun f hf => memJ hf) (List.Sublist.cons_cons _ (List.Sublist.cons_cons _ (List.Sublist.cons_cons _ (List.Sublist.cons_cons _ (List.nil_sublist _))))) | exact hw.swapO.sub (List.Sublist.cons_cons _ (List.Sublist.cons_cons _ (List.Sublist.cons_cons _ (List.nil_sublist _)))) (FSub.ofSub fun f hf => memJ hf) (List.Sublist.cons_cons _ (List.Sublist.cons_cons _ (List.Sublist.cons_cons _ (List.Sublist.cons_cons _ (List.nil_sublist _))))))
                            · repeat' (first | exact knows_nil _ | refine knows_cons ?_ ?_)
                              all_goals (first | exact rfl | (conv => { lhs; whnf }; simp; done) | (conv => { lhs; whnf }; congr 1; omega))
                            · trivial
                        · refine s_alloc (i := 27) (hfire := (fun _ => by first | ((repeat (first | exact FireAll.nil | refine FireAll.cons (by first | exact a_load | exact a_un) ?_)); done) | (refine fireall_fact ?_; (repeat (first | exact FireAll.nil | refine FireAll.cons (by first | exact a_load | exact a_un) ?_)); done))) (h := fun x10 => ?_)
                          all_goals ((refine r_append (i := 19) (hfire := (fun _ => by first | ((repeat (first | exact FireAll.nil | refine FireAll.cons (by first | exact a_load | exact a_un) ?_)); done) | (refine fireall_fact ?_; (repeat (first | exact FireAll.nil | refine FireAll.cons (by first | exact a_load | exact a_un) ?_)); done))) (h := fun x64 => ?_); try (refine r_fact (fun h64 => ?_))))
                          all_goals (refine r_build (i := 26) ?_)
                          all_goals (refine r_store (i := 28) (hfire := (fun _ => .nil)) (h := fun _ => ?_))
                          all_goals refine r_fin ?_
                          all_goals
                            refine k_roundF ((x10, x54, x64)) (by decide) ?_ (by repeat (first | (with_reducible exact Pre.refl) | refine Pre.cons (by exact rfl) ?_)) ?_ (fun w hw => by
simp only [List.nil_append, Nat.zero_add] at hw
first | exact hw.sub (List.Sublist.cons_cons _ (List.Sublist.cons_cons _ (List.Sublist.cons_cons _ (List.nil_sublist _)))) (FSub.ofSub fun f hf => memJ hf) (List.Sublist.cons_cons _ (List.Sublist.cons_cons _ (List.Sublist.cons_cons _ (List.Sublist.cons_cons _ (List.nil_sublist _))))) | exact hw.swapO.sub (List.Sublist.cons_cons _ (List.Sublist.cons_cons _ (List.Sublist.cons_cons _ (List.nil_sublist _)))) (FSub.ofSub fun f hf => memJ hf) (List.Sublist.cons_cons _ (List.Sublist.cons_cons _ (List.Sublist.cons_cons _ (List.Sublist.cons_cons _ (List.nil_sublist _))))))
                            · repeat' (first | exact knows_nil _ | refine knows_cons ?_ ?_)
                              all_goals (first | exact rfl | (conv => { lhs; whnf }; simp; done) | (conv => { lhs; whnf }; congr 1; omega))
                            · trivial
                    · refine s_alloc (i := 27) (hfire := (fun _ => by first | ((repeat (first | exact FireAll.nil | refine FireAll.cons (by first | exact a_load | exact a_un) ?_)); done) | (refine fireall_fact ?_; (repeat (first | exact FireAll.nil | refine FireAll.cons (by first | exact a_load | exact a_un) ?_)); done))) (h := fun x10 => ?_)
                      all_goals ((refine r_append (i := 9) (hfire := (fun _ => by first | ((repeat (first | exact FireAll.nil | refine FireAll.cons (by first | exact a_load | exact a_un) ?_)); done) | (refine fireall_fact ?_; (repeat (first | exact FireAll.nil | refine FireAll.cons (by first | exact a_load | exact a_un) ?_)); done))) (h := fun x54 => ?_); try (refine r_fact (fun h54 => ?_))))
                      all_goals ((refine r_append (i := 19) (hfire := (fun _ => by first | ((repeat (first | exact FireAll.nil | refine FireAll.cons (by first | exact a_load | exact a_un) ?_)); done) | (refine fireall_fact ?_; (repeat (first | exact FireAll.nil | refine FireAll.cons (by first | exact a_load | exact a_un) ?_)); done))) (h := fun x64 => ?_); try (refine r_fact (fun h64 => ?_))))
                      all_goals (refine r_build (i := 26) ?_)
                      all_goals (refine r_store (i := 28) (hfire := (fun _ => .nil)) (h := fun _ => ?_))
                      all_goals refine r_fin ?_
                      all_goals
                        refine k_roundF ((x10, x54, x64)) (by decide) ?_ (by repeat (first | (with_reducible exact Pre.refl) | refine Pre.cons (by exact rfl) ?_)) ?_ (fun w hw => by
simp only [List.nil_append, Nat.zero_add] at hw
first | exact hw.sub (List.Sublist.cons_cons _ (List.Sublist.cons_cons _ (List.Sublist.cons_cons _ (List.nil_sublist _)))) (FSub.ofSub fun f hf => memJ hf) (List.Sublist.cons_cons _ (List.Sublist.cons_cons _ (List.Sublist.cons_cons _ (List.Sublist.cons_cons _ (List.nil_sublist _))))) | exact hw.swapO.sub (List.Sublist.cons_cons _ (List.Sublist.cons_cons _ (List.Sublist.cons_cons _ (List.nil_sublist _)))) (FSub.ofSub fun f hf => memJ hf) (List.Sublist.cons_cons _ (List.Sublist.cons_cons _ (List.Sublist.cons_cons _ (List.Sublist.cons_cons _ (List.nil_sublist _))))))
                        · repeat' (first | exact knows_nil _ | refine knows_cons ?_ ?_)
                          all_goals (first | exact rfl | (conv => { lhs; whnf }; simp; done) | (conv => { lhs; whnf }; congr 1; omega))
                        · trivial
                · refine s_alloc (i := 27) (hfire := (fun _ => by first | ((repeat (first | exact FireAll.nil | refine FireAll.cons (by first | exact a_load | exact a_un) ?_)); done) | (refine fireall_fact ?_; (repeat (first | exact FireAll.nil | refine FireAll.cons (by first | exact a_load | exact a_un) ?_)); done))) (h := fun x10 => ?_)
                  all_goals (refine r_build0 (i := 6) (hfire := (fun _ => by first | ((repeat (first | exact FireAll.nil | refine FireAll.cons (by first | exact a_load | exact a_un) ?_)); done) | (refine fireall_fact ?_; (repeat (first | exact FireAll.nil | refine FireAll.cons (by first | exact a_load | exact a_un) ?_)); done))) (h := fun x51 => ?_))
                  all_goals ((refine r_append (i := 9) (hfire := (fun _ => by first | ((repeat (first | exact FireAll.nil | refine FireAll.cons (by first | exact a_load | exact a_un) ?_)); done) | (refine fireall_fact ?_; (repeat (first | exact FireAll.nil | refine FireAll.cons (by first | exact a_load | exact a_un) ?_)); done))) (h := fun x54 => ?_); try (refine r_fact (fun h54 => ?_))))
                  all_goals ((refine r_append (i := 19) (hfire := (fun _ => by first | ((repeat (first | exact FireAll.nil | refine FireAll.cons (by first | exact a_load | exact a_un) ?_)); done) | (refine fireall_fact ?_; (repeat (first | exact FireAll.nil | refine FireAll.cons (by first | exact a_load | exact a_un) ?_)); done))) (h := fun x64 => ?_); try (refine r_fact (fun h64 => ?_))))
                  all_goals (refine r_build (i := 26) ?_)
                  all_goals (refine r_store (i := 28) (hfire := (fun _ => .nil)) (h := fun _ => ?_))
                  all_goals refine r_fin ?_
                  all_goals
                    refine k_roundF ((x10, x54, x64)) (by decide) ?_ (by repeat (first | (with_reducible exact Pre.refl) | refine Pre.cons (by exact rfl) ?_)) ?_ (fun w hw => by
simp only [List.nil_append, Nat.zero_add] at hw
first | exact hw.sub (List.Sublist.cons_cons _ (List.Sublist.cons_cons _ (List.Sublist.cons_cons _ (List.nil_sublist _)))) (FSub.ofSub fun f hf => memJ hf) (List.Sublist.cons_cons _ (List.Sublist.cons_cons _ (List.Sublist.cons_cons _ (List.Sublist.cons_cons _ (List.nil_sublist _))))) | exact hw.swapO.sub (List.Sublist.cons_cons _ (List.Sublist.cons_cons _ (List.Sublist.cons_cons _ (List.nil_sublist _)))) (FSub.ofSub fun f hf => memJ hf) (List.Sublist.cons_cons _ (List.Sublist.cons_cons _ (List.Sublist.cons_cons _ (List.Sublist.cons_cons _ (List.nil_sublist _))))))
                    · repeat' (first | exact knows_nil _ | refine knows_cons ?_ ?_)
                      all_goals (first | exact rfl | (conv => { lhs; whnf }; simp; done) | (conv => { lhs; whnf }; congr 1; omega))
                    · trivial
            · refine s_alloc (i := 27) (hfire := (fun _ => by first | ((repeat (first | exact FireAll.nil | refine FireAll.cons (by first | exact a_load | exact a_un) ?_)); done) | (refine fireall_fact ?_; (repeat (first | exact FireAll.nil | refine FireAll.cons (by first | exact a_load | exact a_un) ?_)); done))) (h := fun x10 => ?_)
              all_goals
                refine r_many (E := [6, 16]) (by decide +kernel) ((.cons ?_ (.cons ?_ .nil)))
                · refine s_build0 (i := 6) (hfire := (fun _ => by first | ((repeat (first | exact FireAll.nil | refine FireAll.cons (by first | exact a_load | exact a_un) ?_)); done) | (refine fireall_fact ?_; (repeat (first | exact FireAll.nil | refine FireAll.cons (by first | exact a_load | exact a_un) ?_)); done))) (h := fun x51 => ?_)
                  all_goals
                    refine r_many (E := [9, 16]) (by decide +kernel) ((.cons ?_ (.cons ?_ .nil)))
                    · (refine s_append (i := 9) (hfire := (fun _ => by first | ((repeat (first | exact FireAll.nil | refine FireAll.cons (by first | exact a_load | exact a_un) ?_)); done) | (refine fireall_fact ?_; (repeat (first | exact FireAll.nil | refine FireAll.cons (by first | exact a_load | exact a_un) ?_)); done))) (h := fun x54 => ?_); try (refine r_fact (fun h54 => ?_)))
                      all_goals (refine r_build0 (i := 16) (hfire := (fun _ => by first | ((repeat (first | exact FireAll.nil | refine FireAll.cons (by first | exact a_load | exact a_un) ?_)); done) | (refine fireall_fact ?_; (repeat (first | exact FireAll.nil | refine FireAll.cons (by first | exact a_load | exact a_un) ?_)); done))) (h := fun x61 => ?_))
                      all_goals ((refine r_append (i := 19) (hfire := (fun _ => by first | ((repeat (first | exact FireAll.nil | refine FireAll.cons (by first | exact a_load | exact a_un) ?_)); done) | (refine fireall_fact ?_; (repeat (first | exact FireAll.nil | refine FireAll.cons (by first | exact a_load | exact a_un) ?_)); done))) (h := fun x64 => ?_); try (refine r_fact (fun h64 => ?_))))
                      all_goals (refine r_build (i := 26) ?_)
                      all_goals (refine r_store (i := 28) (hfire := (fun _ => .nil)) (h := fun _ => ?_))
                      all_goals refine r_fin ?_
                      all_goals
                        refine k_roundF ((x10, x54, x64)) (by decide) ?_ (by repeat (first | (with_reducible exact Pre.refl) | refine Pre.cons (by exact rfl) ?_)) ?_ (fun w hw => by
simp only [List.nil_append, Nat.zero_add] at hw
first | exact hw.sub (List.Sublist.cons_cons _ (List.Sublist.cons_cons _ (List.Sublist.cons_cons _ (List.nil_sublist _)))) (FSub.ofSub fun f hf => memJ hf) (List.Sublist.cons_cons _ (List.Sublist.cons_cons _ (List.Sublist.cons_cons _ (List.Sublist.cons_cons _ (List.nil_sublist _))))) | exact hw.swapO.sub (List.Sublist.cons_cons _ (List.Sublist.cons_cons _ (List.Sublist.cons_cons _ (List.nil_sublist _)))) (FSub.ofSub fun f hf => memJ hf) (List.Sublist.cons_cons _ (List.Sublist.cons_cons _ (List.Sublist.cons_cons _ (List.Sublist.cons_cons _ (List.nil_sublist _))))))
                        · repeat' (first | exact knows_nil _ | refine knows_cons ?_ ?_)
                          all_goals (first | exact rfl | (conv => { lhs; whnf }; simp; done) | (conv => { lhs; whnf }; congr 1; omega))
                        · trivial
                    · refine s_build0 (i := 16) (hfire := (fun _ => by first | ((repeat (first | exact FireAll.nil | refine FireAll.cons (by first | exact a_load | exact a_un) ?_)); done) | (refine fireall_fact ?_; (repeat (first | exact FireAll.nil | refine FireAll.cons (by first | exact a_load | exact a_un) ?_)); done))) (h := fun x61 => ?_)
                      all_goals ((refine r_append (i := 9) (hfire := (fun _ => by first | ((repeat (first | exact FireAll.nil | refine FireAll.cons (by first | exact a_load | exact a_un) ?_)); done) | (refine fireall_fact ?_; (repeat (first | exact FireAll.nil | refine FireAll.cons (by first | exact a_load | exact a_un) ?_)); done))) (h := fun x54 => ?_); try (refine r_fact (fun h54 => ?_))))
                      all_goals ((refine r_append (i := 19) (hfire := (fun _ => by first | ((repeat (first | exact FireAll.nil | refine FireAll.cons (by first | exact a_load | exact a_un) ?_)); done) | (refine fireall_fact ?_; (repeat (first | exact FireAll.nil | refine FireAll.cons (by first | exact a_load | exact a_un) ?_)); done))) (h := fun x64 => ?_); try (refine r_fact (fun h64 => ?_))))
                      all_goals (refine r_build (i := 26) ?_)
                      all_goals (refine r_store (i := 28) (hfire := (fun _ => .nil)) (h := fun _ => ?_))
                      all_goals refine r_fin ?_
                      all_goals
                        refine k_roundF ((x10, x54, x64)) (by decide) ?_ (by repeat (first | (with_reducible exact Pre.refl) | refine Pre.cons (by exact rfl) ?_)) ?_ (fun w hw => by
simp only [List.nil_append, Nat.zero_add] at hw
first | exact hw.sub (List.Sublist.cons_cons _ (List.Sublist.cons_cons _ (List.Sublist.cons_cons _ (List.nil_sublist _)))) (FSub.ofSub fun f hf => memJ hf) (List.Sublist.cons_cons _ (List.Sublist.cons_cons _ (List.Sublist.cons_cons _ (List.Sublist.cons_cons _ (List.nil_sublist _))))) | exact hw.swapO.sub (List.Sublist.cons_cons _ (List.Sublist.cons_cons _ (List.Sublist.cons_cons _ (List.nil_sublist _)))) (FSub.ofSub fun f hf => memJ hf) (List.Sublist.cons_cons _ (List.Sublist.cons_cons _ (List.Sublist.cons_cons _ (List.Sublist.cons_cons _ (List.nil_sublist _))))))
                        · repeat' (first | exact knows_nil _ | refine knows_cons ?_ ?_)
                          all_goals (first | exact rfl | (conv => { lhs; whnf }; simp; done) | (conv => { lhs; whnf }; congr 1; omega))
                        · trivial
                · refine s_build0 (i := 16) (hfire := (fun _ => by first | ((repeat (first | exact FireAll.nil | refine FireAll.cons (by first | exact a_load | exact a_un) ?_)); done) | (refine fireall_fact ?_; (repeat (first | exact FireAll.nil | refine FireAll.cons (by first | exact a_load | exact a_un) ?_)); done))) (h := fun x61 => ?_)
                  all_goals (refine r_build0 (i := 6) (hfire := (fun _ => by first | ((repeat (first | exact FireAll.nil | refine FireAll.cons (by first | exact a_load | exact a_un) ?_)); done) | (refine fireall_fact ?_; (repeat (first | exact FireAll.nil | refine FireAll.cons (by first | exact a_load | exact a_un) ?_)); done))) (h := fun x51 => ?_))
                  all_goals ((refine r_append (i := 9) (hfire := (fun _ => by first | ((repeat (first | exact FireAll.nil | refine FireAll.cons (by first | exact a_load | exact a_un) ?_)); done) | (refine fireall_fact ?_; (repeat (first | exact FireAll.nil | refine FireAll.cons (by first | exact a_load | exact a_un) ?_)); done))) (h := fun x54 => ?_); try (refine r_fact (fun h54 => ?_))))
                  all_goals ((refine r_append (i := 19) (hfire := (fun _ => by first | ((repeat (first | exact FireAll.nil | refine FireAll.cons (by first | exact a_load | exact a_un) ?_)); done) | (refine fireall_fact ?_; (repeat (first | exact FireAll.nil | refine FireAll.cons (by first | exact a_load | exact a_un) ?_)); done))) (h := fun x64 => ?_); try (refine r_fact (fun h64 => ?_))))
                  all_goals (refine r_build (i := 26) ?_)
                  all_goals (refine r_store (i := 28) (hfire := (fun _ => .nil)) (h := fun _ => ?_))
                  all_goals refine r_fin ?_
                  all_goals
                    refine k_roundF ((x10, x54, x64)) (by decide) ?_ (by repeat (first | (with_reducible exact Pre.refl) | refine Pre.cons (by exact rfl) ?_)) ?_ (fun w hw => by
simp only [List.nil_append, Nat.zero_add] at hw
first | exact hw.sub (List.Sublist.cons_cons _ (List.Sublist.cons_cons _ (List.Sublist.cons_cons _ (List.nil_sublist _)))) (FSub.ofSub fun f hf => memJ hf) (List.Sublist.cons_cons _ (List.Sublist.cons_cons _ (List.Sublist.cons_cons _ (List.Sublist.cons_cons _ (List.nil_sublist _))))) | exact hw.swapO.sub (List.Sublist.cons_cons _ (List.Sublist.cons_cons _ (List.Sublist.cons_cons _ (List.nil_sublist _)))) (FSub.ofSub fun f hf => memJ hf) (List.Sublist.cons_cons _ (List.Sublist.cons_cons _ (List.Sublist.cons_cons _ (List.Sublist.cons_cons _ (List.nil_sublist _))))))
                    · repeat' (first | exact knows_nil _ | refine knows_cons ?_ ?_)
                      all_goals (first | exact rfl | (conv => { lhs; whnf }; simp; done) | (conv => { lhs; whnf }; congr 1; omega))
                    · trivial
        dsimp only [mkU, List.map, List.cons_append, List.nil_append]
      all_goals (refine k_seq ?_)
      all_goals refine k_region ?_
      all_goals refine j_move ?_
      all_goals refine j_load ?_
      all_goals (refine j_own (cM (hA := HasAll.cons (Or.inr (Or.inr (Or.inr ⟨_, .head _, rfl, rfl⟩))) (HasAll.cons (.inr (.inr (.inr ⟨_, .tail _ (.head _), rfl, rfl⟩))) HasAll.nil)) (hc := fun w hs => aAllocN_c (L := x28.2.1) (cs := x22.2.1.2) (n := mineN x44.1 x44.2.1 x44.2.2.1 j.2.1 j.2.2) (xs := x44.2.1) (ys := x44.2.2.1) hs h28.2 rfl rfl (by omega) (by omega) (by omega) (by omega))) (fun x74 => ?_); try (refine l_fact (fun h74 => ?_)))
      all_goals refine j_assignL (fun _ => ?_)
      all_goals refine l_nil ?_
      all_goals (refine k_seq ?_)
      all_goals refine k_region ?_
      all_goals refine j_move ?_
      all_goals refine j_move ?_
      all_goals (refine j_own (cMO (A0 := famF (x28.2.1 ++ [x74.1])) (hA := HasAll.of fun f hf => .inr (.inr (.inl ((famF_one hf).elim (fun h => List.mem_append_right _ (.tail _ (.tail _ h))) (fun h => List.mem_append_left _ h))))) (hc := fun w hs => aNodeR_c (L := x28.2.1 ++ [x74.1]) (cs := x74.2.2) (v := x74.1) (r := ((x28.2.1.length + 3 : Nat) : Int)) hs h74.1 (by omega) (by simp only [List.length_append, List.length_cons, List.length_nil]; omega) (by have := nodeV_r (L1 := x28.2.1) (T := []) (v := x74.1); rwa [List.append_nil] at this))) (fun x77 => ?_); try (refine l_fact (fun h77 => ?_)))
      all_goals refine j_alloc (fun x12 => ?_)
      all_goals refine j_store (fun _ => ?_)
      all_goals refine l_nil ?_
      all_goals (refine k_seq ?_)
      all_goals (refine k_seq ?_)
      all_goals refine k_region ?_
      all_goals refine j_fieldAddr ?_
      all_goals refine j_load ?_
      all_goals refine j_len ?_
      all_goals refine j_move ?_
      all_goals refine l_nil ?_
      all_goals (refine k_block ?_)
      all_goals
        refine k_loopF [13, 81, 82, 83, 84, 85, 86, 87, 88] (fun y : Nat × List Int => [(81, .int .i64 ((y.1 : Nat) : Int))]) (fun y => y.1 ≤ x44.2.1.length ∧ y.2.length = x44.2.1.length) (fun y => [(x12, .cells ⟨atL x74.1 x77.1 x77.2⟩ 48 (0, 0)), (j.1, .cells ⟨mineL x44.1 x44.2.1 x44.2.2.1 j.2.1 j.2.2⟩ 48 (0, 0)), (x9, .cells ⟨ndL x44.1 x44.2.1 x44.2.2.1⟩ 48 (0, 0)), (x28.1, aO (x28.2.1 ++ [x74.1]) x74.2.2 3 0 x74.2.1.pn x74.2.1.cn x74.2.1.pc x74.2.1.cc)]) (fun y => [(x77.1, refsC x74.1.xs), (x77.2, prC x74.1.ys), (x44.1.brA, refsC x44.2.1), (x44.1.prA, prC x44.2.2.1)] ++ (x74.1.fr ++ famF x28.2.1)) (fun y => [⟨j.2.1.1, refsC y.2, j.2.1.2, 39, 1⟩, ⟨x74.2.1.pn, nvC (x28.2.1 ++ [x74.1]), x74.2.1.cn, 48, 14⟩, ⟨x74.2.1.pc, refsC x74.2.2, x74.2.1.cc, 39, 1⟩]) (fun y => x44.2.1.length - y.1) ((0, x44.2.1)) (by decide) (fun _ => by exact rfl) ?_ (⟨Nat.zero_le _, rfl⟩) (fun w hw => by have h3 := (hw.freeze .head).freeze .head; simp only [delO] at h3; exact h3.sub (List.Sublist.refl _) (FSub.ofSub fun f hf => by simp only [List.mem_append, List.mem_cons, List.not_mem_nil, or_false] at hf ⊢; rcases hf with (h | h | h | h) | h | h <;> simp [h]) (List.Sublist.cons_cons _ (List.Sublist.cons _ (List.Sublist.refl _)))) (fun y f hx => ?_)
        · repeat (first | exact knows_nil _ | refine knows_cons (by first | exact rfl | (conv => { lhs; whnf }; simp; done)) ?_)
        dsimp only [mkU, List.map, List.cons_append, List.nil_append]
        all_goals (refine k_seq ?_)
        all_goals refine k_region ?_
        all_goals refine j_lss ?_
        all_goals refine l_nil ?_
        all_goals (refine k_seq ?_)
        all_goals
          refine k_cond (by exact rfl) (fun c82 => ?_) (fun c82 => ?_)
          · try (exact absurd c82 (by decide))
            all_goals (revert c82; (first | refine cv1 ?_ | refine cv3 ?_ | refine cv5 ?_ | refine cv7 ?_ | refine cv9 ?_ | refine cvb ?_ | refine cvd ?_ | skip); intro c82)
            all_goals try (exfalso; omega)
            all_goals (refine k_skip ?_)
            all_goals (refine k_seq ?_)
            all_goals (refine k_block ?_)
            all_goals (refine k_seq ?_)
            all_goals refine k_region ?_
            all_goals refine j_move ?_
            all_goals refine j_assignL (fun _ => ?_)
            all_goals refine l_nil ?_
            all_goals refine k_region ?_
            all_goals refine j_fieldAddr ?_
            all_goals refine j_load ?_
            all_goals refine j_move ?_
            all_goals refine j_indexAddr ?_
            all_goals refine j_store (fun _ => ?_)
            all_goals refine l_nil ?_
            all_goals (refine k_blk ?_)
            all_goals refine k_region ?_
            all_goals refine j_inc ?_
            all_goals refine j_move ?_
            all_goals refine l_nil ?_
            all_goals
              refine k_roundF ((y.1 + 1, y.2.set y.1 99)) ?_ ?_ (by repeat (first | (with_reducible exact Pre.refl) | refine Pre.cons (by exact rfl) ?_)) ?_ (fun w hw => hw.sub (List.Sublist.refl _) FSub.all (List.Sublist.refl _))
              · simp only []; omega
              · repeat' (first | exact knows_nil _ | refine knows_cons ?_ ?_)
                all_goals (first | exact rfl | (conv => { lhs; whnf }; simp; done) | (conv => { lhs; whnf }; congr 1; omega))
              · exact ⟨by show y.1 + 1 ≤ _; omega, by show (y.2.set y.1 99).length = _; rw [List.length_set]; exact hx.2⟩
          · try (exact absurd c82 (by decide))
            all_goals (revert c82; (first | refine cv2 ?_ | refine cv4 ?_ | refine cv6 ?_ | refine cv8 ?_ | refine cva ?_ | refine cvc ?_ | refine cve ?_ | skip); intro c82)
            all_goals try (exfalso; omega)
            all_goals (refine k_exit rfl ?_)
            all_goals (refine k_seq ?_)
            all_goals (refine k_seq ?_)
            all_goals refine k_region ?_
            all_goals refine j_assignL (fun _ => ?_)
            all_goals refine l_nil ?_
            all_goals (refine k_block ?_)
            all_goals
              refine k_loopF [14, 89, 90, 91, 92, 93, 94, 95, 96, 97, 98, 99, 100, 101, 102, 103, 104, 105, 106] (fun z : Nat × AV => [(14, .int .i64 ((z.1 : Nat) : Int))]) (fun z => z.1 ≤ 20 ∧ (∃ T, z.2.L = (x28.2.1 ++ [x74.1]) ++ T) ∧ Fits z.2.L ∧ z.2.L.length ≤ 20 + z.1 ∧ z.2.cs.length ≤ 20 + z.1) (fun z => [(x12, .cells ⟨atL x74.1 x77.1 x77.2⟩ 48 (0, 0)), (x9, .cells ⟨ndL x44.1 x44.2.1 x44.2.2.1⟩ 48 (0, 0)), (x28.1, aO z.2.L z.2.cs z.2.gen z.2.acc z.2.pn z.2.cn z.2.pc z.2.cc)]) (fun z => famF z.2.L ++ [(x77.1, refsC x74.1.xs), (x77.2, prC x74.1.ys), (x44.1.brA, refsC x44.2.1), (x44.1.prA, prC x44.2.2.1)]) (fun z => [⟨z.2.pn, nvC z.2.L, z.2.cn, 48, 14⟩, ⟨z.2.pc, refsC z.2.cs, z.2.cc, 39, 1⟩]) (fun z => 20 - z.1) ((0, ⟨x28.2.1 ++ [x74.1], x74.2.2, 3, 0, x74.2.1.pn, x74.2.1.cn, x74.2.1.pc, x74.2.1.cc⟩)) (by decide) (fun _ => by exact rfl) ?_ (⟨Nat.zero_le _, ⟨[], (List.append_nil _).symm⟩, h74.1, by show (x28.2.1 ++ [x74.1]).length ≤ _; simp only [List.length_append, List.length_cons, List.length_nil]; omega, by have := h74.2.2.2.1; show x74.2.2.length ≤ _; omega⟩) (fun w hw => hw.sub (List.Sublist.cons_cons _ (List.Sublist.cons _ (List.Sublist.refl _))) (FSub.ofSub fun f hf => (List.mem_append.1 hf).elim (fun h => (famF_one h).elim (fun h => mem4r (List.mem_append_right _ h)) (fun h => mem4r (List.mem_append_left _ h))) (fun h => mem4 h)) (List.Sublist.cons _ (List.Sublist.refl _))) (fun z f hx => ?_)
              · repeat (first | exact knows_nil _ | refine knows_cons (by first | exact rfl | (conv => { lhs; whnf }; simp; done)) ?_)
              dsimp only [mkU, List.map, List.cons_append, List.nil_append]
              all_goals (refine k_seq ?_)
              all_goals (refine k_seq ?_)
              all_goals refine k_region ?_
              all_goals refine j_move ?_
              all_goals refine j_move ?_
              all_goals refine j_len ?_
              all_goals refine j_lss ?_
              all_goals refine j_move ?_
              all_goals (first | refine j_un ?_ | (refine j_yes ?_; refine j_move ?_) | (refine l_case (g := 93) (by exact rfl) (fun g93 => ?_) (fun g93 => ?_) <;> (revert g93; (first | refine cv1 ?_ | refine cv2 ?_ | refine cvb ?_ | refine cvc ?_ | refine cv9 ?_ | refine cva ?_ | refine cv7 ?_ | refine cv8 ?_ | refine cvd ?_ | refine cve ?_ | skip); intro g93) <;> (try (exfalso; omega)) <;> (first | refine j_un ?_ | (refine j_yes ?_; refine j_move ?_))))
              all_goals (first | refine j_un ?_ | (refine j_yes ?_; refine j_lss ?_))
              all_goals refine j_pick ?_
              all_goals refine l_nil ?_
              all_goals
                refine k_cond (by exact rfl) (fun c96 => ?_) (fun c96 => ?_)
                · try (exact absurd c96 (by decide))
                  all_goals (revert c96; (first | refine cv1 ?_ | refine cv3 ?_ | refine cv5 ?_ | refine cv7 ?_ | refine cv9 ?_ | refine cvb ?_ | refine cvd ?_ | skip); intro c96)
                  all_goals try (exfalso; omega)
                  all_goals
                    obtain ⟨z1, ⟨T, hT⟩, z3, z4, z5⟩ := hx
                    have htm : ls.getD z.1 StepV.zero ∈ ls := by
                      rw [List.getD_eq_getElem?_getD, List.getElem?_eq_getElem (by omega)]
                      exact List.getElem_mem _
                  all_goals (refine k_skip ?_)
                  all_goals (refine k_seq ?_)
                  all_goals (refine k_block ?_)
                  all_goals refine k_drawF (.one 0 [] (.one 1 [] (.one 3 [] (.one 4 [] (.one 5 [] (.one 6 [] (.one 2 [5, 6] (.one 7 [] .nil)))))))) ?_
                  all_goals (refine r_move (i := 0) ?_)
                  all_goals (refine r_move (i := 1) ?_)
                  all_goals (refine r_move (i := 3) ?_)
                  all_goals (refine r_move (i := 4) ?_)
                  all_goals (refine r_ownQ (i := 5) (hq := (o_indexG StepV.len (by decide) (by exact rfl) (by exact rfl) (by exact sl_of rfl) (by exact agg_of rfl) (.old (.tail .head)) (by omega) (by omega))) (h := ?_))
                  all_goals (refine r_ownQ (i := 6) (hq := (o_loadG StepV.zero StepV.len (by exact rfl) (by exact agg_of rfl) (.old (.tail .head)) (by omega))) (h := ?_))
                  all_goals ((refine r_own (i := 2) (hq := (cMH (A0 := famF z.2.L) (hA := HasAll.of fun f hf => .inr (.inr (.inl (List.mem_append_left _ hf)))) (hc := fun w hs => a2_c (L := z.2.L) (cs := z.2.cs) hs z3 (by omega) (by omega)))) (hfire := (fun _ => by first | ((repeat (first | exact FireAll.nil | refine FireAll.cons (by first | exact a_own (hq := o_indexG StepV.len (by decide) (by exact rfl) (by exact rfl) (by exact sl_of rfl) (by exact agg_of rfl) (.old (.tail .head)) (by omega) (by omega)) | exact a_own (hq := o_loadG StepV.zero StepV.len (by exact rfl) (by exact agg_of rfl) (.old (.tail .head)) (by omega)) | exact a_un) ?_)); done) | (refine fireall_fact ?_; (repeat (first | exact FireAll.nil | refine FireAll.cons (by first | exact a_own (hq := o_indexG StepV.len (by decide) (by exact rfl) (by exact rfl) (by exact sl_of rfl) (by exact agg_of rfl) (.old (.tail .head)) (by omega) (by omega)) | exact a_own (hq := o_loadG StepV.zero StepV.len (by exact rfl) (by exact agg_of rfl) (.old (.tail .head)) (by omega)) | exact a_un) ?_)); done))) (h := fun x101 => ?_); try (refine r_fact (fun h101 => ?_))))
                  all_goals ((refine r_own (i := 7) (hq := (cM (A0 := famF z.2.L ++ (ls.getD z.1 StepV.zero).fr) (hA := HasAll.of fun f hf => (List.mem_append.1 hf).elim (fun h => .inr (.inr (.inl (List.mem_append_right _ (List.mem_append_left _ h))))) (fun h => .inr (.inl (List.mem_cons_of_mem _ (List.mem_cons_of_mem _ (List.mem_flatMap.2 ⟨_, htm, h⟩)))))) (hc := fun w hs => apply_c (s := ⟨z.2.L, x101.2.1, z.2.cs, z.2.gen, z.2.acc, 0, z.2.pn, z.2.cn, z.2.pc, z.2.cc, x101.2.2.1.1, x101.2.2.1.2, x101.2.2.2.1, x101.2.2.2.2⟩) (t := ls.getD z.1 StepV.zero) hs (PS.Rel.mk0 _ rfl rfl h101.1 z3 h101.2) (hok _ htm) (fun f h => List.mem_append_left _ h) (fun f h => List.mem_append_right _ h) (by have := congrArg List.length h101.1; simp only [List.length_map, allV_length] at this; show x101.2.1.length ≤ _; omega) (by have := congrArg List.length h101.1; simp only [List.length_map, allV_length] at this; show 2 ≤ x101.2.1.length; omega) (by show z.2.cs.length ≤ _; omega)))) (hfire := (fun _ => .nil)) (h := fun x106 => ?_); try (refine r_fact (fun h106 => ?_))))
                  all_goals refine r_fin ?_
                  all_goals (refine k_blk ?_)
                  all_goals refine k_region ?_
                  all_goals refine j_move ?_
                  all_goals refine j_inc ?_
                  all_goals refine j_assignL (fun _ => ?_)
                  all_goals refine l_nil ?_
                  all_goals
                    refine k_roundF ((z.1 + 1, ⟨x106.1.La, x106.1.cs, x106.1.gen, x106.1.acca, x106.1.apn, x106.1.acn, x106.1.apc, x106.1.acc⟩)) ?_ ?_ (by repeat (first | (with_reducible exact Pre.refl) | refine Pre.cons (by exact rfl) ?_)) ?_ (fun w hw => hw.sub (List.Sublist.cons _ (List.Sublist.refl _)) (FSub.ofSub fun f hf => (List.mem_append.1 hf).elim (fun h => (h106.fa f h).elim (fun h => List.mem_append_right _ (List.mem_append_right _ (List.mem_append_left _ h))) (fun h => List.mem_append_left _ h)) (fun h => List.mem_append_right _ (List.mem_append_right _ (List.mem_append_right _ h)))) (List.Sublist.cons _ (List.Sublist.cons _ (List.Sublist.refl _))))
                    · simp only []; omega
                    · repeat' (first | exact knows_nil _ | refine knows_cons ?_ ?_)
                      all_goals (first | exact rfl | (conv => { lhs; whnf }; simp; done) | (conv => { lhs; whnf }; congr 1; omega))
                    · obtain ⟨T2, hT2⟩ := h106.pre
                      have e1 := congrArg List.length h101.1
                      simp only [List.length_map, allV_length] at e1
                      have e2 := h106.rel.len
                      have e3 : x106.1.Lm.length ≤ x101.2.1.length + 1 := h106.hl
                      have e4 : x106.1.cs.length ≤ z.2.cs.length + 1 := h106.hc
                      exact ⟨by show z.1 + 1 ≤ 20; omega, ⟨T ++ T2, by show x106.1.La = _; rw [hT2, ← List.append_assoc, ← hT]⟩, h106.rel.fa, by show x106.1.La.length ≤ 20 + (z.1 + 1); omega, by show x106.1.cs.length ≤ 20 + (z.1 + 1); omega⟩
                · try (exact absurd c96 (by decide))
                  all_goals (revert c96; (first | refine cv2 ?_ | refine cv4 ?_ | refine cv6 ?_ | refine cv8 ?_ | refine cva ?_ | refine cvc ?_ | refine cve ?_ | skip); intro c96)
                  all_goals try (exfalso; omega)
                  all_goals
                    obtain ⟨z1, ⟨T, hT⟩, z3, z4, z5⟩ := hx
                    have hzl : x28.2.1.length + 1 ≤ z.2.L.length := by rw [hT]; simp
                    have hxs := h74.2.1
                    have hys := h74.2.2.1
                    have hxl : x74.1.xs.length = x44.2.1.length := by rw [hxs]
                    have hyl : x74.1.ys.length = x44.2.2.1.length := by rw [hys]
                    have hceq : (at0N x74.1 x77.1 x77.2).c x74.1.xs x74.1.ys = (ndN x44.1 x44.2.1 x44.2.2.1).c x44.2.1 x44.2.2.1 := by
                      have e := h74.2.2.2.2
                      obtain ⟨g1, g2, g3⟩ := h44.1.cells
                      rw [hxs, hys]
                      refine Eq.trans e ?_
                      show Nd.c _ _ _ = Nd.c _ _ _
                      simp only [Nd.c, g1, g2, g3]
                    have hkind : x74.1.nd.kind = x44.1.kind := congrArg Nv.kind hceq
                  all_goals (refine k_exit rfl ?_)
                  all_goals (refine k_seq ?_)
                  all_goals refine k_region ?_
                  all_goals refine j_move ?_
                  all_goals refine j_move ?_
                  all_goals (refine j_own (cMO (A0 := famF z.2.L) (hA := HasAll.of fun f hf => .inr (.inr (.inl (List.mem_append_left _ hf)))) (hc := fun w hs => aNodeR_c (L := z.2.L) (cs := z.2.cs) (v := x74.1) (r := ((x28.2.1.length + 3 : Nat) : Int)) hs z3 (by omega) (by omega) (by rw [hT]; exact nodeV_r))) (fun x109 => ?_); try (refine l_fact (fun h109 => ?_)))
                  all_goals refine j_alloc (fun x15 => ?_)
                  all_goals refine j_store (fun _ => ?_)
                  all_goals refine l_nil ?_
                  all_goals (refine k_seq ?_)
                  all_goals (refine k_seq ?_)
                  all_goals refine k_region ?_
                  all_goals refine j_fieldAddr ?_
                  all_goals refine j_load ?_
                  all_goals refine j_len ?_
                  all_goals refine j_move ?_
                  all_goals refine l_nil ?_
                  all_goals (refine k_block ?_)
                  all_goals
                    refine k_loopF [16, 113, 114, 115, 116, 117, 118, 119, 120] (fun u : Nat × List Int => [(113, .int .i64 ((u.1 : Nat) : Int))]) (fun u => u.1 ≤ x74.1.xs.length ∧ u.2.length = x74.1.xs.length) (fun u => [(x15, .cells ⟨atL x74.1 x109.1 x109.2⟩ 48 (0, 0)), (x12, .cells ⟨atL x74.1 x77.1 x77.2⟩ 48 (0, 0)), (x9, .cells ⟨ndL x44.1 x44.2.1 x44.2.2.1⟩ 48 (0, 0)), (x28.1, aO z.2.L z.2.cs z.2.gen z.2.acc z.2.pn z.2.cn z.2.pc z.2.cc)]) (fun u => famF z.2.L ++ [(x77.1, refsC x74.1.xs), (x77.2, prC x74.1.ys), (x44.1.brA, refsC x44.2.1), (x44.1.prA, prC x44.2.2.1)]) (fun u => [⟨x109.2, prC x74.1.ys, x74.1.ys.length, 67, 2⟩, ⟨x109.1, refsC u.2, x74.1.xs.length, 39, 1⟩, ⟨z.2.pn, nvC z.2.L, z.2.cn, 48, 14⟩, ⟨z.2.pc, refsC z.2.cs, z.2.cc, 39, 1⟩]) (fun u => x74.1.xs.length - u.1) ((0, x74.1.xs)) (by decide) (fun _ => by exact rfl) ?_ (⟨Nat.zero_le _, rfl⟩) (fun w hw => hw.sub (List.Sublist.refl _) FSub.all (List.Sublist.refl _)) (fun u f hx => ?_)
                    · repeat (first | exact knows_nil _ | refine knows_cons (by first | exact rfl | (conv => { lhs; whnf }; simp; done)) ?_)
                    dsimp only [mkU, List.map, List.cons_append, List.nil_append]
                    all_goals (refine k_seq ?_)
                    all_goals refine k_region ?_
                    all_goals refine j_lss ?_
                    all_goals refine l_nil ?_
                    all_goals (refine k_seq ?_)
                    all_goals
                      refine k_cond (by exact rfl) (fun c114 => ?_) (fun c114 => ?_)
                      · try (exact absurd c114 (by decide))
                        all_goals (revert c114; (first | refine cv1 ?_ | refine cv3 ?_ | refine cv5 ?_ | refine cv7 ?_ | refine cv9 ?_ | refine cvb ?_ | refine cvd ?_ | skip); intro c114)
                        all_goals try (exfalso; omega)
                        all_goals (refine k_skip ?_)
                        all_goals (refine k_seq ?_)
                        all_goals (refine k_block ?_)
                        all_goals (refine k_seq ?_)
                        all_goals refine k_region ?_
                        all_goals refine j_move ?_
                        all_goals refine j_assignL (fun _ => ?_)
                        all_goals refine l_nil ?_
                        all_goals refine k_region ?_
                        all_goals refine j_fieldAddr ?_
                        all_goals refine j_load ?_
                        all_goals refine j_move ?_
                        all_goals refine j_indexAddr ?_
                        all_goals refine j_store (fun _ => ?_)
                        all_goals refine l_nil ?_
                        all_goals (refine k_blk ?_)
                        all_goals refine k_region ?_
                        all_goals refine j_inc ?_
                        all_goals refine j_move ?_
                        all_goals refine l_nil ?_
                        all_goals
                          refine k_roundF ((u.1 + 1, u.2.set u.1 98)) ?_ ?_ (by repeat (first | (with_reducible exact Pre.refl) | refine Pre.cons (by exact rfl) ?_)) ?_ (fun w hw => hw.sub (List.Sublist.refl _) FSub.all (List.Sublist.refl _))
                          · simp only []; omega
                          · repeat' (first | exact knows_nil _ | refine knows_cons ?_ ?_)
                            all_goals (first | exact rfl | (conv => { lhs; whnf }; simp; done) | (conv => { lhs; whnf }; congr 1; omega))
                          · exact ⟨by show u.1 + 1 ≤ _; omega, by show (u.2.set u.1 98).length = _; rw [List.length_set]; exact hx.2⟩
                      · try (exact absurd c114 (by decide))
                        all_goals (revert c114; (first | refine cv2 ?_ | refine cv4 ?_ | refine cv6 ?_ | refine cv8 ?_ | refine cva ?_ | refine cvc ?_ | refine cve ?_ | skip); intro c114)
                        all_goals try (exfalso; omega)
                        all_goals (refine k_exit rfl ?_)
                        all_goals (refine k_seq ?_)
                        all_goals (refine k_seq ?_)
                        all_goals refine k_region ?_
                        all_goals refine j_fieldAddr ?_
                        all_goals refine j_load ?_
                        all_goals refine j_len ?_
                        all_goals refine j_move ?_
                        all_goals refine l_nil ?_
                        all_goals (refine k_block ?_)
                        all_goals
                          refine k_loopF [17, 124, 125, 126, 127, 128, 129, 130, 131, 132] (fun u : Nat × List Pr => [(124, .int .i64 ((u.1 : Nat) : Int))]) (fun u => u.1 ≤ x74.1.ys.length ∧ u.2.length = x74.1.ys.length) (fun u => [(x15, .cells ⟨atL x74.1 x109.1 x109.2⟩ 48 (0, 0)), (x12, .cells ⟨atL x74.1 x77.1 x77.2⟩ 48 (0, 0)), (x9, .cells ⟨ndL x44.1 x44.2.1 x44.2.2.1⟩ 48 (0, 0)), (x28.1, aO z.2.L z.2.cs z.2.gen z.2.acc z.2.pn z.2.cn z.2.pc z.2.cc)]) (fun u => famF z.2.L ++ [(x77.1, refsC x74.1.xs), (x77.2, prC x74.1.ys), (x44.1.brA, refsC x44.2.1), (x44.1.prA, prC x44.2.2.1)]) (fun u => [⟨x109.2, prC u.2, x74.1.ys.length, 67, 2⟩, ⟨z.2.pn, nvC z.2.L, z.2.cn, 48, 14⟩, ⟨z.2.pc, refsC z.2.cs, z.2.cc, 39, 1⟩]) (fun u => x74.1.ys.length - u.1) ((0, x74.1.ys)) (by decide) (fun _ => by exact rfl) ?_ (⟨Nat.zero_le _, rfl⟩) (fun w hw => hw.sub (List.Sublist.refl _) FSub.all (List.Sublist.cons_cons _ (List.Sublist.cons _ (List.Sublist.refl _)))) (fun u f hx => ?_)
                          · repeat (first | exact knows_nil _ | refine knows_cons (by first | exact rfl | (conv => { lhs; whnf }; simp; done)) ?_)
                          dsimp only [mkU, List.map, List.cons_append, List.nil_append]
                          all_goals (refine k_seq ?_)
                          all_goals refine k_region ?_
                          all_goals refine j_lss ?_
                          all_goals refine l_nil ?_
                          all_goals (refine k_seq ?_)
                          all_goals
                            refine k_cond (by exact rfl) (fun c125 => ?_) (fun c125 => ?_)
                            · try (exact absurd c125 (by decide))
                              all_goals (revert c125; (first | refine cv1 ?_ | refine cv3 ?_ | refine cv5 ?_ | refine cv7 ?_ | refine cv9 ?_ | refine cvb ?_ | refine cvd ?_ | skip); intro c125)
                              all_goals try (exfalso; omega)
                              all_goals (refine k_skip ?_)
                              all_goals (refine k_seq ?_)
                              all_goals (refine k_block ?_)
                              all_goals (refine k_seq ?_)
                              all_goals refine k_region ?_
                              all_goals refine j_move ?_
                              all_goals refine j_assignL (fun _ => ?_)
                              all_goals refine l_nil ?_
                              all_goals refine k_region ?_
                              all_goals refine j_fieldAddr ?_
                              all_goals refine j_load ?_
                              all_goals refine j_move ?_
                              all_goals refine j_indexAddr ?_
                              all_goals refine j_fieldAddr ?_
                              all_goals refine j_own0 (Loud.convO (o_storePk (by exact rfl) (by exact rfl) (by exact one_of rfl) (by repeat (first | exact OAt.head | apply OAt.tail)) (by omega)) (by intro x; simp only [setO]; exact rfl)) (fun _ => ?_)
                              all_goals refine l_nil ?_
                              all_goals (refine k_blk ?_)
                              all_goals refine k_region ?_
                              all_goals refine j_inc ?_
                              all_goals refine j_move ?_
                              all_goals refine l_nil ?_
                              all_goals
                                refine k_roundF ((u.1 + 1, u.2.set u.1 (⟨#[119, 105, 112, 101, 100]⟩, (u.2.getD u.1 (⟨#[]⟩, 0)).2))) ?_ ?_ (by repeat (first | (with_reducible exact Pre.refl) | refine Pre.cons (by exact rfl) ?_)) ?_ (fun w hw => hw.sub (List.Sublist.refl _) FSub.all (List.Sublist.refl _))
                                · simp only []; omega
                                · repeat' (first | exact knows_nil _ | refine knows_cons ?_ ?_)
                                  all_goals (first | exact rfl | (conv => { lhs; whnf }; simp; done) | (conv => { lhs; whnf }; congr 1; omega))
                                · exact ⟨by show u.1 + 1 ≤ _; omega, by show (u.2.set u.1 _).length = _; rw [List.length_set]; exact hx.2⟩
                            · try (exact absurd c125 (by decide))
                              all_goals (revert c125; (first | refine cv2 ?_ | refine cv4 ?_ | refine cv6 ?_ | refine cv8 ?_ | refine cva ?_ | refine cvc ?_ | refine cve ?_ | skip); intro c125)
                              all_goals try (exfalso; omega)
                              all_goals (refine k_exit rfl ?_)
                              all_goals (refine k_seq ?_)
                              all_goals refine k_region ?_
                              all_goals refine j_move ?_
                              all_goals (refine j_own (cMO (A0 := famF z.2.L) (hA := HasAll.of fun f hf => .inr (.inr (.inl (List.mem_append_left _ hf)))) (hc := fun w hs => aStateR_c (L := z.2.L) (cs := z.2.cs) (v := x74.1) (k := x28.2.1.length + 3 - 1) hs z3 (by omega) (by omega) (getD_r hT) (by omega))) (fun x134 => ?_); try (refine l_fact (fun h134 => ?_)))
                              all_goals refine j_alloc (fun x18 => ?_)
                              all_goals refine j_store (fun _ => ?_)
                              all_goals refine l_nil ?_
                              all_goals (refine k_seq ?_)
                              all_goals (refine k_seq ?_)
                              all_goals refine k_drawF (.one 0 [] (.one 1 [] (.one 2 [] (.one 3 [] (.one 4 [] (.one 5 [] (.one 6 [] (.one 7 [] (.one 8 [] (.one 9 [] (.one 10 [] (.one 11 [] (.one 12 [] (.one 13 [] (.one 14 [] (.one 15 [] (.one 16 [] (.one 17 [] (.one 18 [] (.one 20 [] (.one 19 [20] (.one 21 [] (.one 22 [] (.one 23 [] .nil)))))))))))))))))))))))) ?_
                              all_goals (refine r_fieldAddr (i := 0) ?_)
                              all_goals (refine r_load (i := 1) ?_)
                              all_goals (refine r_len (i := 2) ?_)
                              all_goals (refine r_move (i := 3) ?_)
                              all_goals (refine r_lss (i := 4) ?_)
                              all_goals (refine r_move (i := 5) ?_)
                              all_goals (first | refine r_un (i := 6) ?_ | (refine r_fieldAddr (i := 6) ?_) | (refine r_case (g := 140) (by exact rfl) (fun g140 => ?_) (fun g140 => ?_) <;> (revert g140; (first | refine cv1 ?_ | refine cv2 ?_ | refine cvb ?_ | refine cvc ?_ | refine cv9 ?_ | refine cva ?_ | refine cv7 ?_ | refine cv8 ?_ | refine cvd ?_ | refine cve ?_ | skip); intro g140) <;> (try (exfalso; omega)) <;> (first | refine r_un (i := 6) ?_ | (refine r_fieldAddr (i := 6) ?_))))
                              all_goals (first | refine r_un (i := 7) ?_ | (refine r_load (i := 7) ?_))
                              all_goals (first | refine r_un (i := 8) ?_ | (refine r_move (i := 8) ?_))
                              all_goals (first | refine r_un (i := 9) ?_ | (refine r_ownP (i := 9) (hq := (o_subN (n := 1) (by exact rfl) (by exact rfl) (by omega) (by omega))) (h := ?_)))
                              all_goals (first | refine r_un (i := 10) ?_ | (refine r_ownQ (i := 10) (hq := (o_indexV (k := x28.2.1.length + 3 - 1) (by exact rfl) (by exact rfl) (by exact sl_of rfl) (by exact agg_of rfl) (by first | exact .new .head | exact .new (.tail .head) | exact .new (.tail (.tail .head)) | exact .new (.tail (.tail (.tail .head))) | exact .new (.tail (.tail (.tail (.tail .head)))) | exact .new (.tail (.tail (.tail (.tail (.tail .head))))) | exact .new (.tail (.tail (.tail (.tail (.tail (.tail .head)))))) | exact .new (.tail (.tail (.tail (.tail (.tail (.tail (.tail .head))))))) | exact .new (.tail (.tail (.tail (.tail (.tail (.tail (.tail (.tail .head)))))))) | exact .new (.tail (.tail (.tail (.tail (.tail (.tail (.tail (.tail (.tail .head))))))))) | exact .old .head | exact .old (.tail .head) | exact .old (.tail (.tail .head)) | exact .old (.tail (.tail (.tail .head))) | exact .old (.tail (.tail (.tail (.tail .head)))) | exact .old (.tail (.tail (.tail (.tail (.tail .head))))) | exact .own .head | exact .own (.tail .head) | exact .own (.tail (.tail .head)) | exact .own (.tail (.tail (.tail .head))) | exact .own (.tail (.tail (.tail (.tail .head)))) | exact .own (.tail (.tail (.tail (.tail (.tail .head))))) | exact .own (.tail (.tail (.tail (.tail (.tail (.tail .head)))))) | exact .own (.tail (.tail (.tail (.tail (.tail (.tail (.tail .head)))))))) (by omega) (by omega))) (h := ?_)))
                              all_goals (first | refine r_un (i := 11) ?_ | (refine r_ownQ (i := 11) (hq := (o_loadV (q := x28.2.1.length + 3 - 1) (by exact rfl) (by exact agg_of rfl) (by first | exact .new .head | exact .new (.tail .head) | exact .new (.tail (.tail .head)) | exact .new (.tail (.tail (.tail .head))) | exact .new (.tail (.tail (.tail (.tail .head)))) | exact .new (.tail (.tail (.tail (.tail (.tail .head))))) | exact .new (.tail (.tail (.tail (.tail (.tail (.tail .head)))))) | exact .new (.tail (.tail (.tail (.tail (.tail (.tail (.tail .head))))))) | exact .new (.tail (.tail (.tail (.tail (.tail (.tail (.tail (.tail .head)))))))) | exact .new (.tail (.tail (.tail (.tail (.tail (.tail (.tail (.tail (.tail .head))))))))) | exact .old .head | exact .old (.tail .head) | exact .old (.tail (.tail .head)) | exact .old (.tail (.tail (.tail .head))) | exact .old (.tail (.tail (.tail (.tail .head)))) | exact .old (.tail (.tail (.tail (.tail (.tail .head))))) | exact .own .head | exact .own (.tail .head) | exact .own (.tail (.tail .head)) | exact .own (.tail (.tail (.tail .head))) | exact .own (.tail (.tail (.tail (.tail .head)))) | exact .own (.tail (.tail (.tail (.tail (.tail .head))))) | exact .own (.tail (.tail (.tail (.tail (.tail (.tail .head)))))) | exact .own (.tail (.tail (.tail (.tail (.tail (.tail (.tail .head)))))))) (by omega))) (h := ?_)))
                              all_goals (first | refine r_un (i := 12) ?_ | (refine r_load (i := 12) ?_))
                              all_goals (first | refine r_un (i := 13) ?_ | ((refine r_own (i := 13) (hq := (cV (hc := fun w hw => eqT_c (a := (x134.1.getD (x28.2.1.length + 3 - 1) NdV.zero).nd) (b := atN x74.1 x77.1 x77.2) (hw.repF (L := x134.1) (fun f hf => .inr (.inr (List.mem_append_left _ hf))) h134.1 (getD_mem (by omega))) ⟨rfl, rfl, hw.clH (f := (x77.1, refsC x74.1.xs)) (.inr (.inr (.inl (List.mem_append_right _ (List.mem_append_right _ (.head _)))))), hw.clH (f := (x77.2, prC x74.1.ys)) (.inr (.inr (.inl (List.mem_append_right _ (List.mem_append_right _ (.tail _ (.head _))))))), by show x74.1.xs.length < _; omega, by show x74.1.ys.length < _; omega⟩ h134.2.2))) (hfire := (fun _ => .nil)) (h := fun x148 => ?_); try (refine r_fact (fun h148 => ?_)))))
                              all_goals (first | refine r_un (i := 14) ?_ | (refine r_not (i := 14) ?_))
                              all_goals (refine r_pick (i := 15) ?_)
                              all_goals (refine r_move (i := 16) ?_)
                              all_goals (first | refine r_un (i := 17) ?_ | (refine r_move (i := 17) ?_) | (refine r_case (g := 151) (by exact rfl) (fun g151 => ?_) (fun g151 => ?_) <;> (revert g151; (first | refine cv1 ?_ | refine cv2 ?_ | refine cvb ?_ | refine cvc ?_ | refine cv9 ?_ | refine cva ?_ | refine cv7 ?_ | refine cv8 ?_ | refine cvd ?_ | refine cve ?_ | skip); intro g151) <;> (try (exfalso; omega)) <;> (first | refine r_un (i := 17) ?_ | (refine r_move (i := 17) ?_))))
                              all_goals (first | refine r_un (i := 18) ?_ | (refine r_move (i := 18) ?_))
                              all_goals (first | refine r_un (i := 20) ?_ | (refine r_load (i := 20) ?_))
                              all_goals (first | refine r_un (i := 19) ?_ | ((refine r_own (i := 19) (hq := (cMO (A0 := famF z.2.L) (hA := HasAll.of fun f hf => .inr (.inr (.inl (List.mem_append_right _ (List.mem_append_left _ hf))))) (hc := fun w hs => aNodeR_c (L := z.2.L) (cs := z.2.cs) (v := x74.1) (r := ((x28.2.1.length + 3 : Nat) : Int)) hs z3 (by omega) (by omega) (by rw [hT]; exact nodeV_r)))) (hfire := (fun _ => by first | (refine FireAll.cons (by first | exact a_load | exact a_un) ?_; exact FireAll.nil) | (refine fireall_fact ?_; refine FireAll.cons (by first | exact a_load | exact a_un) ?_; exact FireAll.nil))) (h := fun x154 => ?_); try (refine r_fact (fun h154 => ?_)))))
                              all_goals (first | refine r_un (i := 21) ?_ | ((refine r_own (i := 21) (hq := (cV (hc := fun w hw => eqT_c (a := atN x74.1 x154.1 x154.2) (b := atN x74.1 x77.1 x77.2) (x1 := x74.1.xs) (y1 := x74.1.ys) ⟨rfl, rfl, hw.clH (f := (x154.1, refsC x74.1.xs)) (.inr (.inr (.inr ⟨_, .tail _ (.head _), rfl, rfl⟩))), hw.clH (f := (x154.2, prC x74.1.ys)) (.inr (.inr (.inr ⟨_, .head _, rfl, rfl⟩))), by omega, by omega⟩ ⟨rfl, rfl, hw.clH (f := (x77.1, refsC x74.1.xs)) (.inr (.inr (.inl (List.mem_append_right _ (List.mem_append_right _ (.head _)))))), hw.clH (f := (x77.2, prC x74.1.ys)) (.inr (.inr (.inl (List.mem_append_right _ (List.mem_append_right _ (.tail _ (.head _))))))), by show x74.1.xs.length < _; omega, by show x74.1.ys.length < _; omega⟩ rfl))) (hfire := (fun _ => .nil)) (h := fun x156 => ?_); try (refine r_fact (fun h156 => ?_)))))
                              all_goals (first | refine r_un (i := 22) ?_ | (refine r_not (i := 22) ?_))
                              all_goals (refine r_pick (i := 23) ?_)
                              all_goals refine r_fin ?_
                              all_goals
                                refine k_cond (by exact rfl) (fun c158 => ?_) (fun c158 => ?_)
                                · try (exact absurd c158 (by decide))
                                  all_goals (revert c158; (first | refine cv1 ?_ | refine cv3 ?_ | refine cv5 ?_ | refine cv7 ?_ | refine cv9 ?_ | refine cvb ?_ | refine cvd ?_ | skip); intro c158)
                                  all_goals try (exfalso; omega)
                                  all_goals (refine k_seq ?_)
                                  all_goals refine k_region ?_
                                  all_goals refine j_assignL (fun _ => ?_)
                                  all_goals refine l_nil ?_
                                  all_goals
                                    refine k_retvF Try.results6 (.tmp (by conv => { lhs; whnf }) .nil) (fun w hw => ?_)
                                    exact ⟨beq_ret hkind, hw.done⟩
                                · try (exact absurd c158 (by decide))
                                  all_goals (revert c158; (first | refine cv2 ?_ | refine cv4 ?_ | refine cv6 ?_ | refine cv8 ?_ | refine cva ?_ | refine cvc ?_ | refine cve ?_ | skip); intro c158)
                                  all_goals try (exfalso; omega)
                                  all_goals (refine k_skip ?_)
                                  all_goals (refine k_seq ?_)
                                  all_goals refine k_region ?_
                                  all_goals refine j_fieldAddr ?_
                                  all_goals refine j_load ?_
                                  all_goals refine j_move ?_
                                  all_goals refine l_quiet (o_subN (n := 1) (by exact rfl) (by exact rfl) (by omega) (by omega)) rfl ?_
                                  all_goals refine l_quiet (o_indexV (k := x28.2.1.length + 3 - 1) (by exact rfl) (by exact rfl) (by exact sl_of rfl) (by exact agg_of rfl) (by first | exact .new .head | exact .new (.tail .head) | exact .new (.tail (.tail .head)) | exact .new (.tail (.tail (.tail .head))) | exact .new (.tail (.tail (.tail (.tail .head)))) | exact .new (.tail (.tail (.tail (.tail (.tail .head))))) | exact .new (.tail (.tail (.tail (.tail (.tail (.tail .head)))))) | exact .new (.tail (.tail (.tail (.tail (.tail (.tail (.tail .head))))))) | exact .new (.tail (.tail (.tail (.tail (.tail (.tail (.tail (.tail .head)))))))) | exact .new (.tail (.tail (.tail (.tail (.tail (.tail (.tail (.tail (.tail .head))))))))) | exact .old .head | exact .old (.tail .head) | exact .old (.tail (.tail .head)) | exact .old (.tail (.tail (.tail .head))) | exact .old (.tail (.tail (.tail (.tail .head)))) | exact .old (.tail (.tail (.tail (.tail (.tail .head))))) | exact .own .head | exact .own (.tail .head) | exact .own (.tail (.tail .head)) | exact .own (.tail (.tail (.tail .head))) | exact .own (.tail (.tail (.tail (.tail .head)))) | exact .own (.tail (.tail (.tail (.tail (.tail .head))))) | exact .own (.tail (.tail (.tail (.tail (.tail (.tail .head)))))) | exact .own (.tail (.tail (.tail (.tail (.tail (.tail (.tail .head)))))))) (by omega) (by omega)) rfl ?_
                                  all_goals refine j_fieldAddr ?_
                                  all_goals refine j_own0 (Loud.convO (o_storeV (j := 0) ⟨{ (x134.1.getD (x28.2.1.length + 3 - 1) NdV.zero).nd with kind := 77 }, (x134.1.getD (x28.2.1.length + 3 - 1) NdV.zero).xs, (x134.1.getD (x28.2.1.length + 3 - 1) NdV.zero).ys⟩ (by exact rfl) (by exact rfl) rfl (by exact one_of rfl) (by repeat (first | exact OAt.head | apply OAt.tail)) (by omega) (by decide) rfl) (by intro x; simp only [setO]; exact rfl)) (fun _ => ?_)
                                  all_goals refine l_nil ?_
                                  all_goals (refine k_seq ?_)
                                  all_goals refine k_region ?_
                                  all_goals refine j_fieldAddr ?_
                                  all_goals refine j_store (fun _ => ?_)
                                  all_goals refine j_fieldAddr ?_
                                  all_goals refine j_store (fun _ => ?_)
                                  all_goals refine j_fieldAddr ?_
                                  all_goals refine j_store (fun _ => ?_)
                                  all_goals refine l_nil ?_
                                  all_goals (refine k_seq ?_)
                                  all_goals refine k_drawF (.one 0 [] (.one 1 [] (.one 2 [] (.one 3 [] (.one 4 [] (.one 5 [] (.one 6 [] (.one 7 [] (.one 8 [] (.one 11 [] (.one 12 [] (.one 9 [12] (.one 10 [] (.one 13 [] (.one 14 [] (.one 15 [] .nil)))))))))))))))) ?_
                                  all_goals ((refine r_own (i := 0) (hq := (cV (hc := fun w1 hw => awake5_c w1))) (hfire := (fun _ => .nil)) (h := fun x168 => ?_); try (refine r_fact (fun h168 => ?_))))
                                  all_goals (refine r_move (i := 1) ?_)
                                  all_goals (first | refine r_un (i := 2) ?_ | (refine r_ownQ (i := 2) (hq := (qSF (o_loadAgg (by exact rfl) (by repeat (first | exact At.head | apply At.tail)) (by exact agg_of rfl)))) (h := ?_)) | (refine r_case (g := 169) (by exact rfl) (fun g169 => ?_) (fun g169 => ?_) <;> (revert g169; (first | refine cv1 ?_ | refine cv2 ?_ | refine cvb ?_ | refine cvc ?_ | refine cv9 ?_ | refine cva ?_ | refine cv7 ?_ | refine cv8 ?_ | refine cvd ?_ | refine cve ?_ | skip); intro g169) <;> (try (exfalso; omega)) <;> (first | refine r_un (i := 2) ?_ | (refine r_ownQ (i := 2) (hq := (qSF (o_loadAgg (by exact rfl) (by repeat (first | exact At.head | apply At.tail)) (by exact agg_of rfl)))) (h := ?_)))))
                                  all_goals (first | refine r_un (i := 3) ?_ | (refine r_ownQ (i := 3) (hq := (qSF (o_loadAgg (by exact rfl) (by repeat (first | exact At.head | apply At.tail)) (by exact agg_of rfl)))) (h := ?_)))
                                  all_goals (first | refine r_un (i := 4) ?_ | ((refine r_own (i := 4) (hq := (cV (hc := fun w hw => eqT_c (a := at0N x74.1 x77.1 x77.2) (b := ndN x44.1 x44.2.1 x44.2.2.1) ⟨rfl, rfl, hw.clH (f := (x77.1, refsC x74.1.xs)) (.inr (.inr (.inl (List.mem_append_right _ (List.mem_append_right _ (.head _)))))), hw.clH (f := (x77.2, prC x74.1.ys)) (.inr (.inr (.inl (List.mem_append_right _ (List.mem_append_right _ (.tail _ (.head _))))))), by show x74.1.xs.length < _; omega, by show x74.1.ys.length < _; omega⟩ ⟨rfl, rfl, hw.clH (f := (x44.1.brA, refsC x44.2.1)) (.inr (.inr (.inl (List.mem_append_right _ (List.mem_append_right _ (.tail _ (.tail _ (.head _)))))))), hw.clH (f := (x44.1.prA, prC x44.2.2.1)) (.inr (.inr (.inl (List.mem_append_right _ (List.mem_append_right _ (.tail _ (.tail _ (.tail _ (.head _))))))))), by show x44.2.1.length < _; omega, by show x44.2.2.1.length < _; omega⟩ hceq))) (hfire := (fun _ => .nil)) (h := fun x172 => ?_); try (refine r_fact (fun h172 => ?_)))))
                                  all_goals (refine r_pick (i := 5) ?_)
                                  all_goals (refine r_move (i := 6) ?_)
                                  all_goals (first | refine r_un (i := 7) ?_ | (refine r_move (i := 7) ?_) | (refine r_case (g := 174) (by exact rfl) (fun g174 => ?_) (fun g174 => ?_) <;> (revert g174; (first | refine cv1 ?_ | refine cv2 ?_ | refine cvb ?_ | refine cvc ?_ | refine cv9 ?_ | refine cva ?_ | refine cv7 ?_ | refine cv8 ?_ | refine cvd ?_ | refine cve ?_ | skip); intro g174) <;> (try (exfalso; omega)) <;> (first | refine r_un (i := 7) ?_ | (refine r_move (i := 7) ?_))))
                                  all_goals (first | refine r_un (i := 8) ?_ | (refine r_move (i := 8) ?_))
                                  all_goals (first | refine r_un (i := 11) ?_ | (refine r_fieldAddr (i := 11) ?_))
                                  all_goals (first | refine r_un (i := 12) ?_ | (refine r_load (i := 12) ?_))
                                  all_goals (first | refine r_un (i := 9) ?_ | ((refine r_own (i := 9) (hq := (cMO (A0 := famF z.2.L) (hA := HasAll.of fun f hf => .inr (.inr (.inl (List.mem_append_right _ (List.mem_append_left _ hf))))) (hc := fun w hs => aNodeR_c (L := z.2.L) (cs := z.2.cs) (v := x74.1) (r := ((x28.2.1.length + 3 : Nat) : Int)) hs z3 (by omega) (by omega) (by rw [hT]; exact nodeV_r)))) (hfire := (fun _ => by first | (refine FireAll.cons (by first | exact a_load | exact a_un) ?_; exact FireAll.nil) | (refine fireall_fact ?_; refine FireAll.cons (by first | exact a_load | exact a_un) ?_; exact FireAll.nil))) (h := fun x177 => ?_); try (refine r_fact (fun h177 => ?_)))))
                                  all_goals (first | refine r_un (i := 10) ?_ | (refine r_field (i := 10) ?_))
                                  all_goals (first | refine r_un (i := 13) ?_ | (refine r_eql (i := 13) ?_))
                                  all_goals (refine r_pick (i := 14) ?_)
                                  all_goals (refine r_assignL (i := 15) (hfire := (fun _ => .nil)) (h := fun _ => ?_))
                                  all_goals refine r_fin ?_
                                  all_goals
                                    refine k_retvF Try.results6 (.tmp (by conv => { lhs; whnf }) .nil) (fun w hw => ?_)
                                    exact ⟨beq_ret hkind, hw.done⟩
end Go.Proofs.Ytmogngagpphnhaa
