/- The arena's state is read. -/
import Derived.Test.YtpfjjagcmjmfpaaAr5
set_option linter.unusedSimpArgs false
set_option linter.unusedVariables false
namespace Go.Proofs.Ytpfjjagcmjmfpaa
open Go.RowKit Go.Ct
variable {w : World} {D : List Nat} {b : Nat} {L : List NdV} {cs : List Int} {gen acc : Int} {pn pc : Option Addr} {cn cc : Nat} {A : Fr}
theorem aNode_c (hs : SF w D [(b, aO L cs gen acc pn cn pc cc)] (famF L) [] (mW L cs pn cn pc cc) w) (hf : Fits L) (r : Int) (hr : r ≤ 9223372036854775807) (hl : L.length ≤ 274877906944) :
    Calls Try.prog 30 #[.pointer (some ⟨b, 0, none⟩), .int .i64 r] w fun e w' => ∃ q : Option Addr × Option Addr, e = .returned (.agg ⟨((nodeV (allV L) r).at_ q.1 q.2).nd.cells⟩) ∧ True ∧
    SF w D [(b, aO L cs gen acc pn cn pc cc)] [] [] (mW L cs pn cn pc cc ++ [⟨q.2, prC (nodeV (allV L) r).ys, (nodeV (allV L) r).ys.length, 56, 2⟩, ⟨q.1, refsC (nodeV (allV L) r).xs, (nodeV (allV L) r).xs.length, 29, 1⟩]) w' := by
  rcases Int.lt_or_le r 1 with h | h
  · exact aNode_no hs r h hl
  · obtain ⟨k, rfl⟩ : ∃ k : Nat, r = ((k + 1 : Nat) : Int) := ⟨(r - 1).toNat, by omega⟩
    exact aNode_at hs hf (by omega) hl
theorem aState_c (hs : SF w D [(b, aO L cs gen acc pn cn pc cc)] (famF L) [] (mW L cs pn cn pc cc) w) (hf : Fits L) (hl : L.length ≤ 274877906944) (hc : cs.length ≤ 274877906944) :
    Calls Try.prog 13 #[.pointer (some ⟨b, 0, none⟩)] w fun e w' => ∃ x : List NdV × (Option Addr × Nat) × (Option Addr × Nat), e = .returned (.agg ⟨[.slice x.2.1.1 x.1.length x.2.1.2, .slice x.2.2.1 cs.length x.2.2.2, .int .i64 gen]⟩) ∧
      (x.1.map NdV.c = (allV L).map NdV.c ∧ Fits x.1) ∧
    SF w D [(b, aO L cs gen acc pn cn pc cc)] [] (famF x.1) (mW L cs pn cn pc cc ++ [⟨x.2.1.1, nvC x.1, x.2.1.2, 35, 14⟩, ⟨x.2.2.1, refsC cs, x.2.2.2, 29, 1⟩]) w' := by
  refine enter Try.func13 Try.ntmps13 rfl rfl (aOpen hs) ?_
  simp only [mkS]
  all_goals (refine k_seq ?_; refine k_region ?_; refine j_alloc (fun x2 => ?_); refine l_nil ?_; refine k_seq ?_)
  all_goals
   refine k_joinG [3, 5, 6, 7, 8, 9, 10, 11, 12, 13, 14] (fun j : Nat × Option Addr × Nat => [(3, .pointer (some ⟨j.1, 0, none⟩))]) (fun _ => True) (fun j => [(j.1, .cells ⟨[.slice none 0 0, .slice j.2.1 cs.length j.2.2, .int .i64 gen]⟩ 38 (0, 0)), (x2, .cells ⟨[.slice none 0 0, .slice none 0 0, .int .i64 0]⟩ 38 (0, 0)), (b, aO L cs gen acc pn cn pc cc)]) (fun _ => []) (fun j => [⟨j.2.1, refsC cs, j.2.2, 29, 1⟩, ⟨pn, nvC L, cn, 35, 14⟩, ⟨pc, refsC cs, cc, 29, 1⟩]) (by decide) (fun _ => by exact rfl) ?_ (fun j f hx => ?_)
   · refine k_drawF (.one 0 [] (.one 1 [] (.one 2 [] (.one 3 [] (.one 5 [] (.one 6 [] (.one 7 [] (.one 8 [] (.two 4 [8] (.one 9 [] (.one 10 [3, 8] (.one 11 [] .nil))) 0 [] (.two 10 [3, 8] (.one 4 [8] (.one 9 [] (.one 11 [] .nil))) 0 [] .nil)))))))))) ?_
     all_goals (refine r_move (i := 0) ?_; refine r_nilCheck (i := 1) ?_; refine r_fieldAddr (i := 2) ?_; refine r_load (i := 3) ?_; refine r_move (i := 5) ?_; refine r_nilCheck (i := 6) ?_; refine r_fieldAddr (i := 7) ?_; refine r_load (i := 8) ?_)
     all_goals
      refine r_many (E := [4, 10]) (by decide +kernel) ((.cons ?_ (.cons ?_ .nil)))
      · (refine s_own (i := 4) (hq := (cFH (Hc := fun _ => []) (Fc := fun _ => []) (hc := fun w1 hw => slCloneR_c (hw.cl (by first | exact .new .head | exact .new (.tail .head) | exact .new (.tail (.tail .head)) | exact .new (.tail (.tail (.tail .head))) | exact .new (.tail (.tail (.tail (.tail .head)))) | exact .new (.tail (.tail (.tail (.tail (.tail .head))))) | exact .new (.tail (.tail (.tail (.tail (.tail (.tail .head)))))) | exact .new (.tail (.tail (.tail (.tail (.tail (.tail (.tail .head))))))) | exact .new (.tail (.tail (.tail (.tail (.tail (.tail (.tail (.tail .head)))))))) | exact .new (.tail (.tail (.tail (.tail (.tail (.tail (.tail (.tail (.tail .head))))))))) | exact .old .head | exact .old (.tail .head) | exact .old (.tail (.tail .head)) | exact .old (.tail (.tail (.tail .head))) | exact .old (.tail (.tail (.tail (.tail .head)))) | exact .old (.tail (.tail (.tail (.tail (.tail .head))))) | exact .own .head | exact .own (.tail .head) | exact .own (.tail (.tail .head)) | exact .own (.tail (.tail (.tail .head))) | exact .own (.tail (.tail (.tail (.tail .head)))) | exact .own (.tail (.tail (.tail (.tail (.tail .head))))) | exact .own (.tail (.tail (.tail (.tail (.tail (.tail .head)))))) | exact .own (.tail (.tail (.tail (.tail (.tail (.tail (.tail .head))))))))) hc))) (hfire := (fun _ => by first | (refine FireAll.cons (by first | exact a_load | exact a_un) ?_; exact FireAll.nil) | (refine fireall_fact ?_; refine FireAll.cons (by first | exact a_load | exact a_un) ?_; exact FireAll.nil))) (h := fun x9 => ?_); try (refine r_fact (fun h9 => ?_)))
        all_goals (refine r_build (i := 9) ?_; refine r_alloc (i := 10) (hfire := (fun _ => by first | ((repeat (first | exact FireAll.nil | refine FireAll.cons (by first | exact a_load | exact a_un) ?_)); done) | (refine fireall_fact ?_; (repeat (first | exact FireAll.nil | refine FireAll.cons (by first | exact a_load | exact a_un) ?_)); done))) (h := fun x3 => ?_); refine r_store (i := 11) (hfire := (fun _ => .nil)) (h := fun _ => ?_); refine r_fin ?_)
        all_goals
         refine k_roundF ((x3, x9.1, x9.2)) (by decide) ?_ (by repeat (first | (with_reducible exact Pre.refl) | refine Pre.cons (by exact rfl) ?_)) ?_ (fun w hw => hw.back)
         · repeat' (first | exact knows_nil _ | refine knows_cons ?_ ?_)
           all_goals (first | exact rfl | (conv => { lhs; whnf }; simp; done) | (conv => { lhs; whnf }; congr 1; omega))
         · trivial
      · refine s_alloc (i := 10) (hfire := (fun _ => by first | ((repeat (first | exact FireAll.nil | refine FireAll.cons (by first | exact a_load | exact a_un) ?_)); done) | (refine fireall_fact ?_; (repeat (first | exact FireAll.nil | refine FireAll.cons (by first | exact a_load | exact a_un) ?_)); done))) (h := fun x3 => ?_)
        all_goals (((refine r_own (i := 4) (hq := (cFH (Hc := fun _ => []) (Fc := fun _ => []) (hc := fun w1 hw => slCloneR_c (hw.cl (by first | exact .new .head | exact .new (.tail .head) | exact .new (.tail (.tail .head)) | exact .new (.tail (.tail (.tail .head))) | exact .new (.tail (.tail (.tail (.tail .head)))) | exact .new (.tail (.tail (.tail (.tail (.tail .head))))) | exact .new (.tail (.tail (.tail (.tail (.tail (.tail .head)))))) | exact .new (.tail (.tail (.tail (.tail (.tail (.tail (.tail .head))))))) | exact .new (.tail (.tail (.tail (.tail (.tail (.tail (.tail (.tail .head)))))))) | exact .new (.tail (.tail (.tail (.tail (.tail (.tail (.tail (.tail (.tail .head))))))))) | exact .old .head | exact .old (.tail .head) | exact .old (.tail (.tail .head)) | exact .old (.tail (.tail (.tail .head))) | exact .old (.tail (.tail (.tail (.tail .head)))) | exact .old (.tail (.tail (.tail (.tail (.tail .head))))) | exact .own .head | exact .own (.tail .head) | exact .own (.tail (.tail .head)) | exact .own (.tail (.tail (.tail .head))) | exact .own (.tail (.tail (.tail (.tail .head)))) | exact .own (.tail (.tail (.tail (.tail (.tail .head))))) | exact .own (.tail (.tail (.tail (.tail (.tail (.tail .head)))))) | exact .own (.tail (.tail (.tail (.tail (.tail (.tail (.tail .head))))))))) hc))) (hfire := (fun _ => by first | (refine FireAll.cons (by first | exact a_load | exact a_un) ?_; exact FireAll.nil) | (refine fireall_fact ?_; refine FireAll.cons (by first | exact a_load | exact a_un) ?_; exact FireAll.nil))) (h := fun x9 => ?_); try (refine r_fact (fun h9 => ?_)))); refine r_build (i := 9) ?_; refine r_store (i := 11) (hfire := (fun _ => .nil)) (h := fun _ => ?_); refine r_fin ?_)
        all_goals
         refine k_roundF ((x3, x9.1, x9.2)) (by decide) ?_ (by repeat (first | (with_reducible exact Pre.refl) | refine Pre.cons (by exact rfl) ?_)) ?_ (fun w hw => hw.back)
         · repeat' (first | exact knows_nil _ | refine knows_cons ?_ ?_)
           all_goals (first | exact rfl | (conv => { lhs; whnf }; simp; done) | (conv => { lhs; whnf }; congr 1; omega))
         · trivial
   dsimp only [mkU, List.map, List.cons_append, List.nil_append]
  all_goals (refine k_seq ?_; refine k_region ?_; refine j_move ?_; (refine j_own (cM (hc := fun w hs => aNodesR_c (m := L.length) hs (by omega))) (fun x16 => ?_); try (refine l_fact (fun h16 => ?_))); refine j_makeSlice (fun x17 => ?_); refine j_fieldAddr ?_; refine j_store (fun _ => ?_); refine l_nil ?_; refine k_seq ?_; refine k_seq ?_; refine k_region ?_; refine j_move ?_; (refine j_own (cM (hc := fun w hs => aNodesR_c (m := L.length) hs (by omega))) (fun x20 => ?_); try (refine l_fact (fun h20 => ?_))); refine j_move ?_; refine l_nil ?_; refine k_block ?_)
  all_goals
   refine k_loopF [4, 21, 22, 23, 24, 25, 26, 27, 28, 29, 30, 31, 32, 33] (fun y : List NdV × Option Addr × Nat => [(21, .int .i64 ((y.1.length : Nat) : Int))]) (fun y => y.1.map NdV.c = ((allV L).take y.1.length).map NdV.c ∧ y.1.length ≤ L.length + 2 ∧ Fits y.1) (fun y => [(j.1, .cells ⟨[.slice y.2.1 y.1.length y.2.2, .slice j.2.1 cs.length j.2.2, .int .i64 gen]⟩ 38 (0, 0)), (x2, .cells ⟨[.slice none 0 0, .slice none 0 0, .int .i64 0]⟩ 38 (0, 0)), (b, aO L cs gen acc pn cn pc cc)]) (fun y => famF y.1) (fun y => [⟨y.2.1, nvC y.1, y.2.2, 35, 14⟩, ⟨j.2.1, refsC cs, j.2.2, 29, 1⟩, ⟨pn, nvC L, cn, 35, 14⟩, ⟨pc, refsC cs, cc, 29, 1⟩]) (fun y => L.length + 2 - y.1.length) (([], some ⟨x17, 0, none⟩, L.length + 2)) (by decide) (fun _ => by exact rfl) ?_ (⟨rfl, Nat.zero_le _, fun _ h => (List.not_mem_nil h).elim⟩) (fun w hw => hw.back) (fun y f hx => ?_)
   · repeat (first | exact knows_nil _ | refine knows_cons (by first | exact rfl | (conv => { lhs; whnf }; simp; done)) ?_)
   dsimp only [mkU, List.map, List.cons_append, List.nil_append]
   all_goals (refine k_seq ?_; refine k_region ?_; refine j_lss ?_; refine l_nil ?_; refine k_seq ?_)
   all_goals
    refine k_if (fun c22 => ?_) (fun c22 => ?_)
    · try (exact absurd c22 (by decide))
      all_goals (revert c22; (first | refine cv1 ?_ | refine cv3 ?_ | refine cv5 ?_ | refine cv7 ?_ | refine cv9 ?_ | refine cvb ?_ | refine cvd ?_ | skip); intro c22)
      all_goals (refine k_skip ?_; refine k_seq ?_; refine k_block ?_; refine k_seq ?_; refine k_region ?_; refine j_move ?_; refine j_assignL (fun _ => ?_); refine l_nil ?_; refine k_drawF (.one 0 [] (.one 1 [] (.one 2 [] (.one 3 [] (.one 4 [] (.one 5 [1] (.one 6 [1] (.one 7 [] (.one 8 [] (.one 9 [] .nil)))))))))) ?_; refine r_fieldAddr (i := 0) ?_; refine r_load (i := 1) ?_; refine r_move (i := 2) ?_; refine r_move (i := 3) ?_; refine r_inc (i := 4) ?_; ((refine r_own (i := 5) (hq := (cMO (hc := fun w hs => aNode_c hs hf ((y.1.length + 1 : Nat) : Int) (by omega) hl))) (hfire := (fun _ => by first | (refine FireAll.cons (by first | exact a_load | exact a_un) ?_; exact FireAll.nil) | (refine fireall_fact ?_; refine FireAll.cons (by first | exact a_load | exact a_un) ?_; exact FireAll.nil))) (h := fun x29 => ?_); try (refine r_fact (fun h29 => ?_)))); refine r_buildSlice (i := 6) (hfire := (fun _ => by first | (refine FireAll.cons (by first | exact a_load | exact a_un) ?_; exact FireAll.nil) | (refine fireall_fact ?_; refine FireAll.cons (by first | exact a_load | exact a_un) ?_; exact FireAll.nil))) (h := fun x30 => ?_); ((refine r_own (i := 7) (hq := (Loud.convOF (o_appV1 ((nodeV (allV L) ((y.1.length + 1 : Nat) : Int)).at_ x29.1 x29.2) (by exact rfl) (by exact rfl) (by repeat (first | exact OAt.head | apply OAt.tail)) rfl (by first | exact .new .head | exact .new (.tail .head) | exact .new (.tail (.tail .head)) | exact .new (.tail (.tail (.tail .head))) | exact .new (.tail (.tail (.tail (.tail .head)))) | exact .new (.tail (.tail (.tail (.tail (.tail .head))))) | exact .new (.tail (.tail (.tail (.tail (.tail (.tail .head)))))) | exact .new (.tail (.tail (.tail (.tail (.tail (.tail (.tail .head))))))) | exact .new (.tail (.tail (.tail (.tail (.tail (.tail (.tail (.tail .head)))))))) | exact .new (.tail (.tail (.tail (.tail (.tail (.tail (.tail (.tail (.tail .head))))))))) | exact .old .head | exact .old (.tail .head) | exact .old (.tail (.tail .head)) | exact .old (.tail (.tail (.tail .head))) | exact .old (.tail (.tail (.tail (.tail .head)))) | exact .old (.tail (.tail (.tail (.tail (.tail .head))))) | exact .own .head | exact .own (.tail .head) | exact .own (.tail (.tail .head)) | exact .own (.tail (.tail (.tail .head))) | exact .own (.tail (.tail (.tail (.tail .head)))) | exact .own (.tail (.tail (.tail (.tail (.tail .head))))) | exact .own (.tail (.tail (.tail (.tail (.tail (.tail .head)))))) | exact .own (.tail (.tail (.tail (.tail (.tail (.tail (.tail .head)))))))) (by exact elem_nodeT rfl) rfl (by exact sl_of rfl) (by omega)) (by intro x; simp only [setO]; exact rfl))) (hfire := (fun _ => .nil)) (h := fun x31 => ?_); try (refine r_fact (fun h31 => ?_)))); refine r_fieldAddr (i := 8) ?_; refine r_store (i := 9) (hfire := (fun _ => .nil)) (h := fun _ => ?_); refine r_fin ?_; refine k_blk ?_; refine k_region ?_; refine j_inc ?_; refine j_move ?_; refine l_nil ?_)
      all_goals
       refine k_roundF ((y.1 ++ [(nodeV (allV L) ((y.1.length + 1 : Nat) : Int)).at_ x29.1 x29.2], x31.1, x31.2)) ?_ ?_ (by repeat (first | (with_reducible exact Pre.refl) | refine Pre.cons (by exact rfl) ?_)) ?_ (fun w hw => by
          have h2 := (hw.freeze .head).freeze .head
          simp only [delO] at h2
          have h3 := h2.pushF (L := y.1) (v := (nodeV (allV L) ((y.1.length + 1 : Nat) : Int)).at_ x29.1 x29.2) (F' := []) (List.mem_cons_self ..) (List.mem_cons_of_mem _ (List.mem_cons_self ..)) (fun f hf => List.mem_cons_of_mem _ (List.mem_cons_of_mem _ (List.mem_cons_of_mem _ hf)))
          simpa using h3)
       · simp only [List.length_append, List.length_cons, List.length_nil]; omega
       · repeat' (first | exact knows_nil _ | refine knows_cons ?_ ?_)
         all_goals (first | exact rfl | (conv => { lhs; whnf }; simp; done) | (conv => { lhs; whnf }; congr 1; omega))
       · have hlt : y.1.length < (allV L).length := by rw [allV_length]; omega
         refine ⟨?_, by simp only [List.length_append, List.length_cons, List.length_nil]; omega, fun v hv => ?_⟩
         · rw [List.map_append, hx.1, List.length_append, List.length_singleton, List.take_succ_eq_append_getElem hlt, List.map_append, nodeV_at hlt, List.getD_eq_getElem?_getD, List.getElem?_eq_getElem hlt]
           rfl
         · rcases List.mem_append.1 hv with hv | hv
           · exact hx.2.2 v hv
           · simp only [List.mem_singleton] at hv
             subst hv
             exact NdV.at_fit (fit_nodeV hf.all _) _ _
    · try (exact absurd c22 (by decide))
      all_goals (revert c22; (first | refine cv2 ?_ | refine cv4 ?_ | refine cv6 ?_ | refine cv8 ?_ | refine cva ?_ | refine cvc ?_ | refine cve ?_ | skip); intro c22)
      all_goals (refine k_exit rfl ?_; refine k_seq ?_; refine k_region ?_; refine j_load ?_; refine j_store (fun _ => ?_); refine l_nil ?_)
      all_goals
       refine k_retvF Try.results13 (.cell (by exact rfl) (by repeat (first | exact At.head | apply At.tail)) (by exact agg_of rfl) .nil) (fun w hw => ?_)
       have hlen : y.1.length = L.length + 2 := by omega
       refine ⟨(y.1, (y.2.1, y.2.2), (j.2.1, j.2.2)), rfl, ⟨by rw [hx.1, hlen, List.take_of_length_le (by rw [allV_length]; omega)], hx.2.2⟩, ?_⟩
       exact (SF.toEnd hw).ret (by repeat (first | exact List.Sublist.refl _ | apply List.Sublist.cons)) FSub.all (List.Sublist.refl _)
end Go.Proofs.Ytpfjjagcmjmfpaa
