/- An arena with a state. -/
import Derived.Test.YtpfjjagcmjmfpaaAr8
set_option linter.unusedSimpArgs false
set_option linter.unusedVariables false
namespace Go.Ct
theorem valid_mark {n : Nd} {xs : List Int} {ys : List Pr} (h : NdValid n xs ys) (hk : n.kind = 1) : n.c xs ys = markV.c := by
  have e := ndEq_iff.1 h.1
  rw [e]
  simp [Nd.own, Nd.xsOwn, Nd.ysOwn, hk, Nd.c, NdV.c, markV, Nd.zero]
theorem Proper.all {L L' : List NdV} {cs : List Int} {gen : Int} (h : Proper L cs gen) (h2 : L'.map NdV.c = (L.drop 2).map NdV.c) : (allV L').map NdV.c = L.map NdV.c := by
  have h0 := h.nodes 0 (by have := h.two; omega)
  have h1 := h.nodes 1 (by have := h.two; omega)
  have e0 : (L.getD 0 NdV.zero).c = markV.c := valid_mark h0.1 h.m0
  have e1 : (L.getD 1 NdV.zero).c = markV.c := valid_mark h1.1 h.m1
  have h3 := h.two
  match L, h3 with
  | a :: b :: r, _ =>
    simp only [List.getD_cons_zero, List.getD_cons_succ] at e0 e1
    simp only [List.drop_succ_cons, List.drop_zero] at h2
    simp only [allV, List.map_cons, h2, e0, e1]
end Go.Ct
namespace Go.Proofs.Ytpfjjagcmjmfpaa
open Go.RowKit Go.Ct
theorem ofNo_c {L : List NdV} {cs : List Int} {gen : Int} {pn pc : Option Addr} {cn cc : Nat} {w : World} (h : StAt w L cs pn pc) (hL : L.length ≤ 274877906944) (hC : cs.length ≤ 274877906944) (hp : ¬ Proper L cs gen) :
    Calls Try.prog 8 #[.agg ⟨[.slice pn L.length cn, .slice pc cs.length cc, .int .i64 gen]⟩] w fun e w' => e = .returned (.tuple #[.pointer none, .int .i64 1]) ∧ St w [] [] w' := by
  refine enter Try.func8 Try.ntmps8 rfl rfl h.start ?_
  simp only [mkS]
  all_goals (refine k_seq ?_; refine k_region ?_; refine j_box (fun x1 => ?_); refine j_assignL (fun _ => ?_); refine j_assignL (fun _ => ?_); refine l_nil ?_; refine k_seq ?_; refine k_seq ?_; refine k_region ?_; refine j_load ?_; (refine j_own (c0 (V := .bool) (hc := fun w1 hw => proper_c ⟨hw.cl (.old .head), hw.cl (.old (.tail .head)), fun f hf => (hw.old f (List.mem_cons_of_mem _ (List.mem_cons_of_mem _ hf))).1, h.fit⟩ hL hC)) (fun x8 => ?_); try (refine l_fact (fun h8 => ?_))); refine j_not ?_; refine l_nil ?_)
  all_goals
   refine k_if (fun c9 => ?_) (fun c9 => ?_)
   · try (exact absurd c9 (by decide))
     all_goals (revert c9; (first | refine cv1 ?_ | refine cv3 ?_ | refine cv5 ?_ | refine cv7 ?_ | refine cv9 ?_ | refine cvb ?_ | refine cvd ?_ | skip); intro c9)
     all_goals (refine k_seq ?_; refine k_region ?_; refine j_assignL (fun _ => ?_); refine j_assignL (fun _ => ?_); refine l_nil ?_)
     all_goals
      refine k_retvF Try.results8 (.tmp (by conv => { lhs; whnf }) (.tmp (by conv => { lhs; whnf }) .nil)) (fun w hw => ?_)
      exact ⟨rfl, hw.done⟩
   · try (exact absurd c9 (by decide))
     all_goals (revert c9; (first | refine cv2 ?_ | refine cv4 ?_ | refine cv6 ?_ | refine cv8 ?_ | refine cva ?_ | refine cvc ?_ | refine cve ?_ | skip); intro c9)
     all_goals
      exact absurd (h8.1 c9) hp
     all_goals (refine k_skip ?_; refine k_seq ?_; refine k_drawF (.one 0 [] (.one 1 [] (.one 3 [] (.one 4 [] (.one 2 [4] (.one 5 [] (.one 6 [] (.one 7 [] .nil)))))))) ?_; refine r_fieldAddr (i := 0) ?_; refine r_load (i := 1) ?_; refine r_fieldAddr (i := 3) ?_; refine r_load (i := 4) ?_; ((refine r_own (i := 2) (hq := (NO)) (hfire := (fun _ => by first | (refine FireAll.cons (by first | exact a_load | exact a_un) ?_; exact FireAll.nil) | (refine fireall_fact ?_; refine FireAll.cons (by first | exact a_load | exact a_un) ?_; exact FireAll.nil))) (h := fun x12 => ?_); try (refine r_fact (fun h12 => ?_)))); refine r_build (i := 5) ?_; refine r_box (i := 6) (hfire := (fun _ => .nil)) (h := fun x16 => ?_); refine r_assignL (i := 7) (hfire := (fun _ => .nil)) (h := fun _ => ?_); refine r_fin ?_; refine k_seq ?_; refine k_region ?_; refine j_move ?_; refine j_fieldAddr ?_; refine j_load ?_; refine j_len ?_; refine j_sub ?_; refine j_makeSlice (fun x22 => ?_); refine j_nilCheck ?_; refine j_fieldAddr ?_; refine j_store (fun _ => ?_); refine l_nil ?_; refine k_seq ?_; refine k_seq ?_; refine k_region ?_; refine j_fieldAddr ?_; refine j_load ?_; (refine j_sliceL (fun x27 => ?_); try (refine l_fact (fun h27 => ?_))); refine j_len ?_; refine j_move ?_; refine l_nil ?_; refine k_block ?_)
     all_goals
      refine k_loopC [6, 29, 30, 31, 32, 33, 34, 35, 36, 37, 38, 39, 40, 41, 42, 43, 44] (fun y : Nat => []) (fun y => True) (fun y => 0) (0) (trivial) ?_ (fun k f hx => ?_)
      · repeat (first | exact knows_nil _ | refine knows_cons (by first | exact rfl | (conv => { lhs; whnf }; simp; done)) ?_)
      dsimp only [mkU, List.map, List.cons_append, List.nil_append]
      all_goals (refine k_seq ?_; refine k_region ?_; refine j_lss ?_; refine l_nil ?_; refine k_seq ?_)
      all_goals
       refine k_if (fun c30 => ?_) (fun c30 => ?_)
       · try (exact absurd c30 (by decide))
         all_goals (revert c30; (first | refine cv1 ?_ | refine cv3 ?_ | refine cv5 ?_ | refine cv7 ?_ | refine cv9 ?_ | refine cvb ?_ | refine cvd ?_ | skip); intro c30)
         all_goals (refine k_skip ?_; refine k_seq ?_; refine k_block ?_; refine k_seq ?_; refine k_region ?_; refine j_indexAddr ?_; refine j_load ?_; refine j_alloc (fun x6 => ?_); refine j_store (fun _ => ?_); refine l_nil ?_; refine k_drawF (.one 0 [] (.one 1 [] (.one 2 [] (.one 3 [] (.one 4 [] (.one 5 [] (.one 6 [4] (.one 7 [4] (.one 8 [] (.one 9 [] (.one 10 [] (.one 11 [] .nil)))))))))))) ?_; refine r_move (i := 0) ?_; refine r_move (i := 1) ?_; refine r_nilCheck (i := 2) ?_; refine r_fieldAddr (i := 3) ?_; refine r_load (i := 4) ?_; refine r_load (i := 5) ?_; ((refine r_own (i := 6) (hq := (NO)) (hfire := (fun _ => by first | (refine FireAll.cons (by first | exact a_load | exact a_un) ?_; exact FireAll.nil) | (refine fireall_fact ?_; refine FireAll.cons (by first | exact a_load | exact a_un) ?_; exact FireAll.nil))) (h := fun x39 => ?_); try (refine r_fact (fun h39 => ?_)))); refine r_buildSlice (i := 7) (hfire := (fun _ => by first | (refine FireAll.cons (by first | exact a_load | exact a_un) ?_; exact FireAll.nil) | (refine fireall_fact ?_; refine FireAll.cons (by first | exact a_load | exact a_un) ?_; exact FireAll.nil))) (h := fun x40 => ?_); ((refine r_append (i := 8) (hfire := (fun _ => .nil)) (h := fun x41 => ?_); try (refine r_fact (fun h41 => ?_)))); refine r_nilCheck (i := 9) ?_; refine r_fieldAddr (i := 10) ?_; refine r_store (i := 11) (hfire := (fun _ => .nil)) (h := fun _ => ?_); refine r_fin ?_; refine k_blk ?_; refine k_region ?_; refine j_inc ?_; refine j_move ?_; refine l_nil ?_)
         all_goals
          refine k_roundC (0) ?_ ?_ ?_
          · first | omega | (simp only []; omega)
          · repeat' (first | exact knows_nil _ | refine knows_cons ?_ ?_)
            all_goals (first | exact rfl | (conv => { lhs; whnf }; simp; done) | (conv => { lhs; whnf }; congr 1; omega))
          · trivial
       · try (exact absurd c30 (by decide))
         all_goals (revert c30; (first | refine cv2 ?_ | refine cv4 ?_ | refine cv6 ?_ | refine cv8 ?_ | refine cva ?_ | refine cvc ?_ | refine cve ?_ | skip); intro c30)
         all_goals (refine k_exit rfl ?_; refine k_seq ?_; refine k_region ?_; refine j_move ?_; refine j_assignL (fun _ => ?_); refine j_assignL (fun _ => ?_); refine l_nil ?_)
         all_goals
          refine k_retvF Try.results8 (.tmp (by conv => { lhs; whnf }) (.tmp (by conv => { lhs; whnf }) .nil)) (fun w hw => ?_)
          exact ⟨rfl, hw.done⟩
theorem ofOk_c {L : List NdV} {cs : List Int} {gen : Int} {pn pc : Option Addr} {cn cc : Nat} {w : World} (h : StAt w L cs pn pc) (hL : L.length ≤ 274877906944) (hC : cs.length ≤ 274877906944) (hcn : L.length ≤ cn) (hp : Proper L cs gen) :
    Calls Try.prog 8 #[.agg ⟨[.slice pn L.length cn, .slice pc cs.length cc, .int .i64 gen]⟩] w fun e w' => ∃ x : Nat × List NdV × (Option Addr × Nat) × (Option Addr × Nat), e = .returned (.tuple #[.pointer (some ⟨x.1, 0, none⟩), .int .i64 0]) ∧
      ((allV x.2.1).map NdV.c = L.map NdV.c ∧ Fits x.2.1) ∧ SF w [] [(x.1, aO x.2.1 cs gen 0 x.2.2.1.1 x.2.2.1.2 x.2.2.2.1 x.2.2.2.2)] [] (famF x.2.1) (mW x.2.1 cs x.2.2.1.1 x.2.2.1.2 x.2.2.2.1 x.2.2.2.2) w' := by
  have h2L := hp.two
  refine enter Try.func8 Try.ntmps8 rfl rfl h.start ?_
  simp only [mkS]
  all_goals (refine k_seq ?_; refine k_region ?_; refine j_box (fun x1 => ?_); refine j_assignL (fun _ => ?_); refine j_assignL (fun _ => ?_); refine l_nil ?_; refine k_seq ?_; refine k_seq ?_; refine k_region ?_; refine j_load ?_; (refine j_own (c0 (V := .bool) (hc := fun w1 hw => proper_c ⟨hw.cl (.old .head), hw.cl (.old (.tail .head)), fun f hf => (hw.old f (List.mem_cons_of_mem _ (List.mem_cons_of_mem _ hf))).1, h.fit⟩ hL hC)) (fun x8 => ?_); try (refine l_fact (fun h8 => ?_))); refine j_not ?_; refine l_nil ?_)
  all_goals
   refine k_if (fun c9 => ?_) (fun c9 => ?_)
   · try (exact absurd c9 (by decide))
     all_goals (revert c9; (first | refine cv1 ?_ | refine cv3 ?_ | refine cv5 ?_ | refine cv7 ?_ | refine cv9 ?_ | refine cvb ?_ | refine cvd ?_ | skip); intro c9)
     all_goals
      exact absurd hp (fun hp => by rw [h8.2 hp] at c9; cases c9)
     all_goals (refine k_seq ?_; refine k_region ?_; refine j_assignL (fun _ => ?_); refine j_assignL (fun _ => ?_); refine l_nil ?_)
     all_goals
      refine k_retvF Try.results8 (.tmp (by conv => { lhs; whnf }) (.tmp (by conv => { lhs; whnf }) .nil)) (fun w hw => ?_)
      have hlen : y.1.length = L.length - 2 := by omega
      refine ⟨(x16, y.1, (y.2.1, y.2.2), (x12.1, x12.2)), rfl, ⟨hp.all (by rw [hx.1, hlen, List.take_of_length_le (by rw [List.length_drop]; omega)]), hx.2.2⟩, ?_⟩
      exact hw.ret (by repeat (first | exact List.nil_sublist _ | apply List.Sublist.cons_cons | apply List.Sublist.cons)) FSub.all (List.Sublist.refl _)
   · try (exact absurd c9 (by decide))
     all_goals (revert c9; (first | refine cv2 ?_ | refine cv4 ?_ | refine cv6 ?_ | refine cv8 ?_ | refine cva ?_ | refine cvc ?_ | refine cve ?_ | skip); intro c9)
     all_goals (refine k_skip ?_; refine k_seq ?_; refine k_drawF (.one 0 [] (.one 1 [] (.one 3 [] (.one 4 [] (.one 2 [4] (.one 5 [] (.one 6 [] (.one 7 [] .nil)))))))) ?_; refine r_fieldAddr (i := 0) ?_; refine r_load (i := 1) ?_; refine r_fieldAddr (i := 3) ?_; refine r_load (i := 4) ?_; ((refine r_own (i := 2) (hq := (cFH (Hc := fun _ => []) (Fc := fun _ => []) (hc := fun w1 hw => slCloneR_c (hw.cl (by first | exact .new .head | exact .new (.tail .head) | exact .new (.tail (.tail .head)) | exact .new (.tail (.tail (.tail .head))) | exact .new (.tail (.tail (.tail (.tail .head)))) | exact .new (.tail (.tail (.tail (.tail (.tail .head))))) | exact .new (.tail (.tail (.tail (.tail (.tail (.tail .head)))))) | exact .new (.tail (.tail (.tail (.tail (.tail (.tail (.tail .head))))))) | exact .new (.tail (.tail (.tail (.tail (.tail (.tail (.tail (.tail .head)))))))) | exact .new (.tail (.tail (.tail (.tail (.tail (.tail (.tail (.tail (.tail .head))))))))) | exact .old .head | exact .old (.tail .head) | exact .old (.tail (.tail .head)) | exact .old (.tail (.tail (.tail .head))) | exact .old (.tail (.tail (.tail (.tail .head)))) | exact .old (.tail (.tail (.tail (.tail (.tail .head))))) | exact .own .head | exact .own (.tail .head) | exact .own (.tail (.tail .head)) | exact .own (.tail (.tail (.tail .head))) | exact .own (.tail (.tail (.tail (.tail .head)))) | exact .own (.tail (.tail (.tail (.tail (.tail .head))))) | exact .own (.tail (.tail (.tail (.tail (.tail (.tail .head)))))) | exact .own (.tail (.tail (.tail (.tail (.tail (.tail (.tail .head))))))))) hC))) (hfire := (fun _ => by first | (refine FireAll.cons (by first | exact a_load | exact a_un) ?_; exact FireAll.nil) | (refine fireall_fact ?_; refine FireAll.cons (by first | exact a_load | exact a_un) ?_; exact FireAll.nil))) (h := fun x12 => ?_); try (refine r_fact (fun h12 => ?_)))); refine r_build (i := 5) ?_; refine r_box (i := 6) (hfire := (fun _ => .nil)) (h := fun x16 => ?_); refine r_assignL (i := 7) (hfire := (fun _ => .nil)) (h := fun _ => ?_); refine r_fin ?_; refine k_seq ?_; refine k_region ?_; refine j_move ?_; refine j_fieldAddr ?_; refine j_load ?_; refine j_len ?_; refine l_quiet (o_subN (n := 2) (by exact rfl) (by exact rfl) (by omega) (by omega)) rfl ?_; refine j_makeSlice (fun x22 => ?_); refine j_nilCheck ?_; refine j_fieldAddr ?_; refine j_store (fun _ => ?_); refine l_nil ?_; refine k_seq ?_; refine k_seq ?_; refine k_region ?_; refine j_fieldAddr ?_; refine j_load ?_; (refine j_own (o_tailV (k := 2) (by exact rfl) (by exact rfl) (by exact sl_of rfl) (by exact sz_of rfl) (by omega) (by first | exact .new .head | exact .new (.tail .head) | exact .new (.tail (.tail .head)) | exact .new (.tail (.tail (.tail .head))) | exact .new (.tail (.tail (.tail (.tail .head)))) | exact .new (.tail (.tail (.tail (.tail (.tail .head))))) | exact .new (.tail (.tail (.tail (.tail (.tail (.tail .head)))))) | exact .new (.tail (.tail (.tail (.tail (.tail (.tail (.tail .head))))))) | exact .new (.tail (.tail (.tail (.tail (.tail (.tail (.tail (.tail .head)))))))) | exact .new (.tail (.tail (.tail (.tail (.tail (.tail (.tail (.tail (.tail .head))))))))) | exact .old .head | exact .old (.tail .head) | exact .old (.tail (.tail .head)) | exact .old (.tail (.tail (.tail .head))) | exact .old (.tail (.tail (.tail (.tail .head)))) | exact .old (.tail (.tail (.tail (.tail (.tail .head))))) | exact .own .head | exact .own (.tail .head) | exact .own (.tail (.tail .head)) | exact .own (.tail (.tail (.tail .head))) | exact .own (.tail (.tail (.tail (.tail .head)))) | exact .own (.tail (.tail (.tail (.tail (.tail .head))))) | exact .own (.tail (.tail (.tail (.tail (.tail (.tail .head)))))) | exact .own (.tail (.tail (.tail (.tail (.tail (.tail (.tail .head)))))))) hcn rfl) (fun x27 => ?_); try (refine l_fact (fun h27 => ?_))); refine j_len ?_; refine j_move ?_; refine l_nil ?_; refine k_block ?_)
     all_goals
      refine k_loopF [6, 29, 30, 31, 32, 33, 34, 35, 36, 37, 38, 39, 40, 41, 42, 43, 44] (fun y : List NdV × Option Addr × Nat => [(29, .int .i64 ((y.1.length : Nat) : Int))]) (fun y => y.1.map NdV.c = ((L.drop 2).take y.1.length).map NdV.c ∧ y.1.length ≤ L.length - 2 ∧ Fits y.1) (fun y => [(x16, .cells ⟨[.slice y.2.1 y.1.length y.2.2, .slice x12.1 cs.length x12.2, .int .i64 gen, .int .i64 0]⟩ 69 (0, 0)), (x1, .cells ⟨[.slice pn L.length cn, .slice pc cs.length cc, .int .i64 gen]⟩ 38 (0, 0))]) (fun y => famF y.1) (fun y => [⟨y.2.1, nvC y.1, y.2.2, 35, 14⟩, ⟨x12.1, refsC cs, x12.2, 29, 1⟩]) (fun y => L.length - 2 - y.1.length) (([], some ⟨x22, 0, none⟩, L.length - 2)) (by decide) (fun _ => by exact rfl) ?_ (⟨rfl, Nat.zero_le _, fun _ h => (List.not_mem_nil h).elim⟩) (fun w hw => hw.back) (fun y f hx => ?_)
      · repeat (first | exact knows_nil _ | refine knows_cons (by first | exact rfl | (conv => { lhs; whnf }; simp; done)) ?_)
      dsimp only [mkU, List.map, List.cons_append, List.nil_append]
      all_goals (refine k_seq ?_; refine k_region ?_; refine j_lss ?_; refine l_nil ?_; refine k_seq ?_)
      all_goals
       refine k_if (fun c30 => ?_) (fun c30 => ?_)
       · try (exact absurd c30 (by decide))
         all_goals (revert c30; (first | refine cv1 ?_ | refine cv3 ?_ | refine cv5 ?_ | refine cv7 ?_ | refine cv9 ?_ | refine cvb ?_ | refine cvd ?_ | skip); intro c30)
         all_goals (refine k_skip ?_; refine k_seq ?_; refine k_block ?_; refine k_seq ?_; refine k_region ?_; refine l_quiet (o_indexV (by exact rfl) (by exact rfl) (by exact sl_of rfl) (by exact agg_of rfl) (by first | exact .new .head | exact .new (.tail .head) | exact .new (.tail (.tail .head)) | exact .new (.tail (.tail (.tail .head))) | exact .new (.tail (.tail (.tail (.tail .head)))) | exact .new (.tail (.tail (.tail (.tail (.tail .head))))) | exact .new (.tail (.tail (.tail (.tail (.tail (.tail .head)))))) | exact .new (.tail (.tail (.tail (.tail (.tail (.tail (.tail .head))))))) | exact .new (.tail (.tail (.tail (.tail (.tail (.tail (.tail (.tail .head)))))))) | exact .new (.tail (.tail (.tail (.tail (.tail (.tail (.tail (.tail (.tail .head))))))))) | exact .old .head | exact .old (.tail .head) | exact .old (.tail (.tail .head)) | exact .old (.tail (.tail (.tail .head))) | exact .old (.tail (.tail (.tail (.tail .head)))) | exact .old (.tail (.tail (.tail (.tail (.tail .head))))) | exact .own .head | exact .own (.tail .head) | exact .own (.tail (.tail .head)) | exact .own (.tail (.tail (.tail .head))) | exact .own (.tail (.tail (.tail (.tail .head)))) | exact .own (.tail (.tail (.tail (.tail (.tail .head))))) | exact .own (.tail (.tail (.tail (.tail (.tail (.tail .head)))))) | exact .own (.tail (.tail (.tail (.tail (.tail (.tail (.tail .head)))))))) (by omega) (by rw [List.length_drop]; omega)) rfl ?_; refine l_quiet (o_loadV (by exact rfl) (by exact agg_of rfl) (by first | exact .new .head | exact .new (.tail .head) | exact .new (.tail (.tail .head)) | exact .new (.tail (.tail (.tail .head))) | exact .new (.tail (.tail (.tail (.tail .head)))) | exact .new (.tail (.tail (.tail (.tail (.tail .head))))) | exact .new (.tail (.tail (.tail (.tail (.tail (.tail .head)))))) | exact .new (.tail (.tail (.tail (.tail (.tail (.tail (.tail .head))))))) | exact .new (.tail (.tail (.tail (.tail (.tail (.tail (.tail (.tail .head)))))))) | exact .new (.tail (.tail (.tail (.tail (.tail (.tail (.tail (.tail (.tail .head))))))))) | exact .old .head | exact .old (.tail .head) | exact .old (.tail (.tail .head)) | exact .old (.tail (.tail (.tail .head))) | exact .old (.tail (.tail (.tail (.tail .head)))) | exact .old (.tail (.tail (.tail (.tail (.tail .head))))) | exact .own .head | exact .own (.tail .head) | exact .own (.tail (.tail .head)) | exact .own (.tail (.tail (.tail .head))) | exact .own (.tail (.tail (.tail (.tail .head)))) | exact .own (.tail (.tail (.tail (.tail (.tail .head))))) | exact .own (.tail (.tail (.tail (.tail (.tail (.tail .head)))))) | exact .own (.tail (.tail (.tail (.tail (.tail (.tail (.tail .head)))))))) (by rw [List.length_drop]; omega)) rfl ?_; refine j_alloc (fun x6 => ?_); refine j_store (fun _ => ?_); refine l_nil ?_; refine k_drawF (.one 0 [] (.one 1 [] (.one 2 [] (.one 3 [] (.one 4 [] (.one 5 [] (.one 6 [4] (.one 7 [4] (.one 8 [] (.one 9 [] (.one 10 [] (.one 11 [] .nil)))))))))))) ?_; refine r_move (i := 0) ?_; refine r_move (i := 1) ?_; refine r_nilCheck (i := 2) ?_; refine r_fieldAddr (i := 3) ?_; refine r_load (i := 4) ?_; refine r_load (i := 5) ?_; ((refine r_own (i := 6) (hq := (cF (V := fun p : Option Addr × Option Addr => .agg ⟨(((L.drop 2).getD y.1.length NdV.zero).at_ p.1 p.2).nd.cells⟩) (hc := fun w1 hw => clone_c (hw.repF (L := L) (fun f hf => .inr (.inl (List.mem_cons_of_mem _ (List.mem_cons_of_mem _ (List.mem_cons_of_mem _ hf))))) h.fit (List.mem_of_mem_drop (getD_mem (by rw [List.length_drop]; omega)))) (h.fit _ (List.mem_of_mem_drop (getD_mem (by rw [List.length_drop]; omega)))).brS (h.fit _ (List.mem_of_mem_drop (getD_mem (by rw [List.length_drop]; omega)))).prS))) (hfire := (fun _ => by first | (refine FireAll.cons (by first | exact a_load | exact a_un) ?_; exact FireAll.nil) | (refine fireall_fact ?_; refine FireAll.cons (by first | exact a_load | exact a_un) ?_; exact FireAll.nil))) (h := fun x39 => ?_); try (refine r_fact (fun h39 => ?_)))); refine r_buildSlice (i := 7) (hfire := (fun _ => by first | (refine FireAll.cons (by first | exact a_load | exact a_un) ?_; exact FireAll.nil) | (refine fireall_fact ?_; refine FireAll.cons (by first | exact a_load | exact a_un) ?_; exact FireAll.nil))) (h := fun x40 => ?_); ((refine r_own (i := 8) (hq := (Loud.convOF (o_appV1 (((L.drop 2).getD y.1.length NdV.zero).at_ x39.1 x39.2) (by exact rfl) (by exact rfl) (by repeat (first | exact OAt.head | apply OAt.tail)) rfl (by first | exact .new .head | exact .new (.tail .head) | exact .new (.tail (.tail .head)) | exact .new (.tail (.tail (.tail .head))) | exact .new (.tail (.tail (.tail (.tail .head)))) | exact .new (.tail (.tail (.tail (.tail (.tail .head))))) | exact .new (.tail (.tail (.tail (.tail (.tail (.tail .head)))))) | exact .new (.tail (.tail (.tail (.tail (.tail (.tail (.tail .head))))))) | exact .new (.tail (.tail (.tail (.tail (.tail (.tail (.tail (.tail .head)))))))) | exact .new (.tail (.tail (.tail (.tail (.tail (.tail (.tail (.tail (.tail .head))))))))) | exact .old .head | exact .old (.tail .head) | exact .old (.tail (.tail .head)) | exact .old (.tail (.tail (.tail .head))) | exact .old (.tail (.tail (.tail (.tail .head)))) | exact .old (.tail (.tail (.tail (.tail (.tail .head))))) | exact .own .head | exact .own (.tail .head) | exact .own (.tail (.tail .head)) | exact .own (.tail (.tail (.tail .head))) | exact .own (.tail (.tail (.tail (.tail .head)))) | exact .own (.tail (.tail (.tail (.tail (.tail .head))))) | exact .own (.tail (.tail (.tail (.tail (.tail (.tail .head)))))) | exact .own (.tail (.tail (.tail (.tail (.tail (.tail (.tail .head)))))))) (by exact elem_nodeT rfl) rfl (by exact sl_of rfl) (by omega)) (by intro x; simp only [setO]; exact rfl))) (hfire := (fun _ => .nil)) (h := fun x41 => ?_); try (refine r_fact (fun h41 => ?_)))); refine r_nilCheck (i := 9) ?_; refine r_fieldAddr (i := 10) ?_; refine r_store (i := 11) (hfire := (fun _ => .nil)) (h := fun _ => ?_); refine r_fin ?_; refine k_blk ?_; refine k_region ?_; refine j_inc ?_; refine j_move ?_; refine l_nil ?_)
         all_goals
          refine k_roundF ((y.1 ++ [((L.drop 2).getD y.1.length NdV.zero).at_ x39.1 x39.2], x41.1, x41.2)) ?_ ?_ (by repeat (first | (with_reducible exact Pre.refl) | refine Pre.cons (by exact rfl) ?_)) ?_ (fun w hw => by
             have h3 := hw.pushF (L := y.1) (v := ((L.drop 2).getD y.1.length NdV.zero).at_ x39.1 x39.2) (F' := []) (List.mem_cons_of_mem _ (List.mem_cons_self ..)) (List.mem_cons_of_mem _ (List.mem_cons_of_mem _ (List.mem_cons_self ..))) (fun f hf => List.mem_cons_of_mem _ (List.mem_cons_of_mem _ (List.mem_cons_of_mem _ hf)))
             have h4 := h3.sub (H' := [_, _]) (by repeat (first | exact List.Sublist.refl _ | apply List.Sublist.cons)) FSub.all (List.Sublist.refl _)
             simpa using h4)
          · simp only [List.length_append, List.length_cons, List.length_nil]; omega
          · repeat' (first | exact knows_nil _ | refine knows_cons ?_ ?_)
            all_goals (first | exact rfl | (conv => { lhs; whnf }; simp; done) | (conv => { lhs; whnf }; congr 1; omega))
          · have hlt : y.1.length < (L.drop 2).length := by rw [List.length_drop]; omega
            refine ⟨?_, by simp only [List.length_append, List.length_cons, List.length_nil]; omega, fun v hv => ?_⟩
            · rw [List.map_append, hx.1, List.length_append, List.length_singleton, List.take_succ_eq_append_getElem hlt, List.map_append, List.getD_eq_getElem?_getD, List.getElem?_eq_getElem hlt]
              rfl
            · rcases List.mem_append.1 hv with hv | hv
              · exact hx.2.2 v hv
              · simp only [List.mem_singleton] at hv
                subst hv
                exact NdV.at_fit (h.fit _ (List.mem_of_mem_drop (getD_mem hlt))) _ _
       · try (exact absurd c30 (by decide))
         all_goals (revert c30; (first | refine cv2 ?_ | refine cv4 ?_ | refine cv6 ?_ | refine cv8 ?_ | refine cva ?_ | refine cvc ?_ | refine cve ?_ | skip); intro c30)
         all_goals (refine k_exit rfl ?_; refine k_seq ?_; refine k_region ?_; refine j_move ?_; refine j_assignL (fun _ => ?_); refine j_assignL (fun _ => ?_); refine l_nil ?_)
         all_goals
          refine k_retvF Try.results8 (.tmp (by conv => { lhs; whnf }) (.tmp (by conv => { lhs; whnf }) .nil)) (fun w hw => ?_)
          have hlen : y.1.length = L.length - 2 := by omega
          refine ⟨(x16, y.1, (y.2.1, y.2.2), (x12.1, x12.2)), rfl, ⟨hp.all (by rw [hx.1, hlen, List.take_of_length_le (by rw [List.length_drop]; omega)]), hx.2.2⟩, ?_⟩
          exact hw.ret (by repeat (first | exact List.nil_sublist _ | apply List.Sublist.cons_cons | apply List.Sublist.cons)) FSub.all (List.Sublist.refl _)
end Go.Proofs.Ytpfjjagcmjmfpaa
